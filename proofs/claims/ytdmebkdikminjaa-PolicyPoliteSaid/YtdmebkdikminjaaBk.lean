/- A call's own boxes: blocks that are known whole, as a list, in a world that is as it was below the call's start. -/
import Derived.Test.YtdmebkdikminjaaGivB
import Derived.Test.YtdmebkdikminjaaCalm
namespace Go.Proofs.Ytdmebkdikminjaa.Given
open Go.RowKit Go.Proofs.Ytdmebkdikminjaa.QBase Go.Proofs.YtdmebkdikminjaaW.PrintWords Go.Proofs.YtdmebkdikminjaaW.PrintLast Go.Proofs.YtdmebkdikminjaaW.PrintMore
set_option linter.unusedVariables false
set_option linter.unusedSimpArgs false
/-- A world of a class. -/
structure Kp (S : World → Prop) where
  w : World
  h : S w
/-- Below the call's start w is as W; these blocks hold these. -/
def Bk (W : World) (L : List (Nat × Obj)) (w : World) : Prop := Below W.heap.size W w ∧ ∀ x ∈ L, w.heap[x.1]? = some x.2
section
variable {W w w' : World} {L : List (Nat × Obj)}
theorem Bk.start (W : World) : Bk W [] W := ⟨Below.refl _ _, fun x hx => by cases hx⟩
theorem Bk.get (h : Bk W L w) {g : Nat} {o : Obj} (hm : (g, o) ∈ L) : w.heap[g]? = some o := h.2 _ hm
theorem Bk.cell (h : Bk W L w) {g : Nat} {cs : Array Value} {t : TypeId} (hm : (g, Obj.cells cs t (0, 0)) ∈ L) (i : Nat) : w.cell? ⟨g, i, none⟩ = cs[i]? := blk_cell (h.get hm) i
theorem Bk.free (h : Bk W L w) {g : Nat} {cs : Array Value} {t : TypeId} (hm : (g, Obj.cells cs t (0, 0)) ∈ L) (i : Nat) : w.frozen? ⟨g, i, none⟩ = false := blk_frozen (h.get hm) i
theorem Bk.drew (h : Bk W L w) : Bk W L w.drew := ⟨h.1.drew, h.2⟩
theorem Bk.below (h : Bk W L w) (b : Below w.heap.size w w') : Bk W L w' := ⟨h.1.trans (b.mono h.1.size), fun x hx => blk_below (h.2 x hx) b⟩
theorem Bk.alloc (h : Bk W L w) (o : Obj) : Bk W ((w.heap.size, o) :: L) (w.alloc o) :=
  ⟨h.1.alloc h.1.size o, fun x hx => by
    rcases List.mem_cons.1 hx with rfl | hx
    · exact blk_new w o
    · exact blk_alloc (h.2 x hx) o⟩
theorem Bk.call {f : FuncId} {args : Array Value} {v : Value} (h : Bk W L w) (hc : Calls Try.prog f args w (fun e w' => e = .returned v ∧ Below w.heap.size w w')) :
    Calls Try.prog f args w (fun e w'' => e = .returned v ∧ ∃ y : Kp (Bk W L), w'' = y.w) :=
  hc.mono fun e w' ⟨he, hb⟩ => ⟨he, ⟨w', h.below hb⟩, rfl⟩
theorem Bk.calld {f : FuncId} {args : Array Value} {v : Value} (h : Bk W L w) (hc : Calls Try.prog f args w (fun e w' => e = .returned v ∧ Drawn0 w w')) :
    Calls Try.prog f args w (fun e w'' => e = .returned v ∧ ∃ y : Kp (Bk W L), w'' = y.w) :=
  hc.mono fun e w' ⟨he, n, hb⟩ => ⟨he, ⟨w', by subst hb; exact ⟨⟨h.1.os, h.1.tape, h.1.output, h.1.size, h.1.block⟩, h.2⟩⟩, rfl⟩
/-- Block g is turned, and no other. -/
theorem Bk.turn {L1 L2 : List (Nat × Obj)} {g : Nat} {o o' : Obj} (h : Bk W (L1 ++ (g, o) :: L2) w) (hb : Below W.heap.size W w') (hg : w'.heap[g]? = some o') (hk : ∀ k, k ≠ g → w'.heap[k]? = w.heap[k]?) (hd : ∀ x ∈ L1 ++ L2, x.1 ≠ g) :
    Bk W (L1 ++ (g, o') :: L2) w' :=
  ⟨hb, fun x hx => by
    rcases List.mem_append.1 hx with hx | hx
    · rw [hk _ (hd x (List.mem_append_left _ hx))]; exact h.2 x (List.mem_append_left _ hx)
    · rcases List.mem_cons.1 hx with rfl | hx
      · exact hg
      · rw [hk _ (hd x (List.mem_append_right _ hx))]; exact h.2 x (List.mem_append_right _ (List.mem_cons_of_mem _ hx))⟩
theorem Bk.put (L1 L2 : List (Nat × Obj)) {g : Nat} {cs cs' : Array Value} {t : TypeId} (h : Bk W (L1 ++ (g, .cells cs t (0, 0)) :: L2) w) (hB : W.heap.size ≤ g) (hd : ∀ x ∈ L1 ++ L2, x.1 ≠ g) (i : Nat) (u : Value) (e : cs.setIfInBounds i u = cs') :
    Bk W (L1 ++ (g, .cells cs' t (0, 0)) :: L2) (w.setCell ⟨g, i, none⟩ u) :=
  h.turn (h.1.setCell hB u) (blk_put (h.get (o := .cells cs t (0, 0)) (by simp)) i u e) (fun k hk => Below.heap_setCell w _ u k hk) hd
theorem Bk.row (L1 L2 : List (Nat × Obj)) {g : Nat} {cs cs' : Array Value} {t : TypeId} (h : Bk W (L1 ++ (g, .cells cs t (0, 0)) :: L2) w) (hB : W.heap.size ≤ g) (hd : ∀ x ∈ L1 ++ L2, x.1 ≠ g) :
    Bk W (L1 ++ (g, .cells cs' t (0, 0)) :: L2) (w.setRow g cs') :=
  h.turn (below_setRow h.1 hB) (setRow_heap _ _ cs _ _ _ (h.get (o := .cells cs t (0, 0)) (by simp))) (fun k hk => setRow_other _ _ _ _ hk) hd
end
theorem foldE (p : Pol) : (#[.int .i64 p.last, .int .i64 p.gap, .int .i64 p.exp, .int .i64 p.fails, .int .i64 p.state, .int .i64 p.till, .int .i64 p.retry, .int .i64 p.reset, .int .i64 p.flying, .int .i64 p.known, .bool p.all, .bool p.none, .slice p.A p.n p.c, .int .i64 p.delay] : Array Value) = p.cells := rfl
theorem foldC (c : Cfg) : (#[.int .i64 c.c0, .int .i64 c.c1, .int .i64 c.c2, .int .i64 c.c3, .int .i64 c.floor, .int .i64 c.cap, .int .i64 c.base, .int .i64 c.most, .int .i64 c.brk, .int .i64 c.opn, .int .i64 c.c10, .int .i64 c.c11, .int .i64 c.keep, .string c.agent] : Array Value) = c.cells := rfl
theorem quiet_row {S : World → Prop} {o : Oper} {a : Act} {K : Act → Prop} {ty : TypeId} {x : Operand} (ho : o.op = .load ty x)
    (g : Nat) (hx : a.eval x = .pointer (some ⟨g, 0, none⟩)) {t : TypeId} {cs : Array Value} {fr : Nat × Nat} {d : TypeDesc}
    (hg : ∀ y : Kp S, y.w.heap[g]? = some (.cells cs t fr)) (hd : (match d with | .struct _ | .array _ _ => true | _ => false) = true) (hu : Try.prog.underlying ty = some d) (hi : (Try.prog.info? ty).map (·.size) = some cs.size)
    (hk : K (a.put o.dst (.agg cs))) : o.quiet Try.prog a (fun w' => ∃ y : Kp S, w' = y.w) K :=
  ⟨.agg cs, fun w hw => by
    obtain ⟨y, rfl⟩ := hw
    unfold Oper.quietAt
    have e : (execOp a.eval o).run Try.prog y.w = .ok (.value (.agg cs)) y.w := by
      obtain ⟨dst, op, type, pos, after, guard⟩ := o
      simp only at ho
      subst ho
      simp only [execOp, hx]
      simp [Instr.loadAt, Instr.sureAddr, run_loadVar_row y.w g t ty cs fr d (hg y) hu (by cases d <;> first | rfl | simp at hd) hi]
    rw [e]
    exact ⟨rfl, rfl⟩, hk⟩
theorem size23 : (Try.prog.info? 23).map (·.size) = some 14 := by kernel_rfl
theorem quiet_p {S : World → Prop} {o : Oper} {a : Act} {K : Act → Prop} {x : Operand} (g : Nat) (p : Pol) (hg : ∀ y : Kp S, y.w.heap[g]? = some (.cells p.cells 28 (0, 0))) (ho : o.op = .load 28 x) (hx : a.eval x = .pointer (some ⟨g, 0, none⟩))
    (hk : K (a.put o.dst (.agg p.cells))) : o.quiet Try.prog a (fun w' => ∃ y : Kp S, w' = y.w) K := quiet_row ho g hx hg rfl Try.underlying28 size28 hk
theorem quiet_c {S : World → Prop} {o : Oper} {a : Act} {K : Act → Prop} {x : Operand} (g : Nat) (c : Cfg) (hg : ∀ y : Kp S, y.w.heap[g]? = some (.cells c.cells 23 (0, 0))) (ho : o.op = .load 23 x) (hx : a.eval x = .pointer (some ⟨g, 0, none⟩))
    (hk : K (a.put o.dst (.agg c.cells))) : o.quiet Try.prog a (fun w' => ∃ y : Kp S, w' = y.w) K := quiet_row ho g hx hg rfl Try.underlying23 size23 hk
theorem mx_fold (a b : Int) : (if a < b then b else a) = mx a b := by unfold mx; omega
end Go.Proofs.Ytdmebkdikminjaa.Given
