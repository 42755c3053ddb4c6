/- The law on any table and any names, walked. -/
import Derived.Test.YtihdojloghnmbaaWalkF
import Derived.Laws.Strings

namespace Go.Proofs.Ytihdojloghnmbaa.Given
open Go.RowKit Go.Maps Go.WideMaps
set_option linter.unusedVariables false

/-- The law's own list: its row is none of the table's. -/
def IsList (B : Nat) (W : World) (v l : Value) (names : List ByteArray) : Prop :=
  W.ownsRow B 9 1 l names.length (names.map Value.string) ∧ ∀ b, l.ownBlock = some b → v.ownBlock ≠ some b
/-- Where a name stands among the first q; -1: nowhere. -/
def AtTo (names : List ByteArray) (s : ByteArray) (q : Nat) (a : Int) : Prop :=
  (a = -1 ∧ ∀ j, j < q → names[j]? ≠ some s) ∨ ∃ j : Nat, j < q ∧ names[j]? = some s ∧ a = (j : Int)
theorem IsList.of_heap {B : Nat} {W W' : World} {v l : Value} {names : List ByteArray} (h : IsList B W v l names) (e : W'.heap = W.heap) : IsList B W' v l names := by
  refine ⟨⟨h.1.1, ?_⟩, h.2⟩
  rcases h.1.2 with a | ⟨g', cap, cur, a, b, c, d⟩
  · exact .inl a
  · exact .inr ⟨g', cap, cur, a, b, by rw [e]; exact c, d⟩


theorem IsList.block {B : Nat} {W : World} {v l : Value} {names : List ByteArray} (h : IsList B W v l names) {b : Nat} (e : l.ownBlock = some b) :
    ∃ (cur : Array Value) (f : Nat × Nat), W.heap[b]? = some (.cells cur 9 f) ∧ B ≤ b ∧ b < W.heap.size := by
  rcases h.1.2 with ⟨rfl, _⟩ | ⟨b', cap, cur, rfl, hB, hb, _⟩
  · simp [Value.ownBlock] at e
  · simp only [Value.ownBlock, Option.some.injEq] at e
    subst e
    exact ⟨cur, _, hb, hB, (Array.getElem?_eq_some_iff.1 hb).1⟩
/-- The law's list lies apart from the table. -/
theorem IsList.apart {B : Nat} {W : World} {g m : Nat} {v l : Value} {most : Int} {names ns : List ByteArray} (h : IsList B W v l names) (ht : IsTab B W g m v most ns) :
    l.ownBlock ≠ some g ∧ l.ownBlock ≠ some m := by
  refine ⟨?_, ?_⟩
  · intro e
    obtain ⟨_, _, hb, _⟩ := h.block e
    have := ht.2.2.1
    rw [this] at hb
    cases hb
  · intro e
    obtain ⟨_, _, hb, _⟩ := h.block e
    obtain ⟨es, cl, hm, _⟩ := ht.2.2.2.1
    rw [hm] at hb
    cases hb
theorem IsList.keep {B : Nat} {W W' : World} {g m : Nat} {v v' l : Value} {most : Int} {names ns : List ByteArray} (h : IsList B W v l names) (ht : IsTab B W g m v most ns) (hk : KeepS W W' (Mine g m v))
    (hv : v'.ownBlock = v.ownBlock ∨ ∃ k, v'.ownBlock = some k ∧ W.heap.size ≤ k) : IsList B W' v' l names := by
  have ha := h.apart ht
  refine ⟨⟨h.1.1, ?_⟩, ?_⟩
  · rcases h.1.2 with a | ⟨b, cap, cur, e, hB, hb, d⟩
    · exact .inl a
    · refine .inr ⟨b, cap, cur, e, hB, ?_, d⟩
      have e2 : l.ownBlock = some b := by rw [e]; rfl
      rw [hk.2.2.2.2 b (Array.getElem?_eq_some_iff.1 hb).1 ?_]
      · exact hb
      · simp only [Mine, not_or]
        refine ⟨?_, ?_, h.2 b e2⟩
        · rintro rfl; exact ha.1 e2
        · rintro rfl; exact ha.2 e2
  · intro b e
    obtain ⟨_, _, _, _, hlt⟩ := h.block e
    rcases hv with hv | ⟨k, hv, hk⟩
    · rw [hv]; exact h.2 b e
    · rw [hv]
      intro e2
      have := Option.some.inj e2
      omega
/-- Behind the law's own append. -/
theorem list_app {B : Nat} {W w5 : World} {g m : Nat} {v l l5 : Value} {most : Int} {names ns : List ByteArray} {s : ByteArray} {o : Obj} (h : IsList B W v l names) (ht : IsTab B W g m v most ns) (hB : B ≤ W.heap.size)
    (hown : w5.ownsRow B 9 1 l5 (names.length + 1) (names.map Value.string ++ [Value.string s])) (hg : (W.alloc o).grownBy w5 l.ownBlock) (hloc : l5.ownBlock = l.ownBlock ∨ l5.ownBlock = some (W.alloc o).heap.size) :
    IsList B w5 v l5 (names ++ [s]) ∧ IsTab B w5 g m v most ns ∧ Below B W w5 := by
  have ha := h.apart ht
  have hsz : (W.alloc o).heap.size = W.heap.size + 1 := by simp
  have hs5 := hg.size
  refine ⟨⟨?_, ?_⟩, ⟨ht.1, ht.2.1, ?_, ?_, ?_, ht.2.2.2.2.2⟩, ?_⟩
  · simpa using hown
  · intro b e
    rcases hloc with e2 | e2
    · exact h.2 b (e2 ▸ e)
    · intro e3
      have := e2.symm.trans e
      have := Option.some.inj this
      rcases ht.2.2.2.2.1.2 with ⟨rfl, _⟩ | ⟨b', cap, cur, rfl, _, hb, _⟩
      · simp [Value.ownBlock] at e3
      · simp only [Value.ownBlock, Option.some.injEq] at e3
        have := (Array.getElem?_eq_some_iff.1 hb).1
        omega
  · have hlt := (Array.getElem?_eq_some_iff.1 ht.2.2.1).1
    exact (hg.block g (by omega) (fun e => ha.1 e.symm)).trans ((Below.heap_alloc W o g hlt).trans ht.2.2.1)
  · exact (ht.2.2.2.1.alloc o).kept hg (fun e => ha.2 e.symm)
  · refine (ht.2.2.2.2.1.alloc o).kept hg ?_
    rcases Option.eq_none_or_eq_some v.ownBlock with e | ⟨b, e⟩
    · exact .inl e
    · refine .inr ?_
      intro e2
      exact h.2 b (e2.symm.trans e) e
  · refine ((Below.refl B W).alloc hB o).trans ⟨hg.os, hg.tape, hg.output, hg.size, ?_⟩
    intro k hk
    refine hg.block k (by omega) ?_
    intro e
    obtain ⟨_, _, _, h1, h2⟩ := h.block e.symm
    omega

theorem beq_ne {a b : ByteArray} (h : a ≠ b) : (a.toList == b.toList) = false := by
  rw [beq_eq_false_iff_ne]
  intro e
  apply h
  rw [ByteArray.toList_eq, ByteArray.toList_eq] at e
  exact ByteArray.ext (Array.ext' e)
theorem AtTo.no {names : List ByteArray} {s : ByteArray} {p : Nat} {z : Int} (h : AtTo names s p z) (hp : names[p]? ≠ some s) : AtTo names s (p + 1) z := by
  rcases h with ⟨h1, h2⟩ | ⟨j, h1, h2, h3⟩
  · refine .inl ⟨h1, fun j hj => ?_⟩
    rcases Nat.lt_or_ge j p with h | h
    · exact h2 j h
    · obtain rfl : j = p := by omega
      exact hp
  · exact .inr ⟨j, by omega, h2, h3⟩

set_option maxHeartbeats 8000000 in
set_option maxRecDepth 100000 in
theorem plays_calls (most : Int) (A : Option Addr) (c : Nat) (x : List ByteArray) (W : World) (hm : -9223372036854775808 ≤ most ∧ most ≤ 9223372036854775807) (hx : Came W A x) (hs : ∀ s ∈ x, s.size ≤ 140737488351232) :
    Calls Try.prog 3 #[.int .i64 most, .slice A x.length c] W fun e w' => e = .returned (.bool true) ∧ Below W.heap.size W w' := by
  go_enter Try.func3, Try.ntmps3
  go_upto_region 2 with (go_at_call 7; refine (new_calls most hm _).mono ?_; rintro e w1 ⟨g, m, rfl, h1, b1⟩)
  have hz1 := b1.size
  go_wp2
  go_loopw [6, 7] (fun l i wr => ∃ (k : Nat) (names : List ByteArray) (v : Value), i = .int .i64 k ∧ k ≤ 100 ∧ IsTab W.heap.size wr g m v (max most 0) names ∧ IsList W.heap.size wr v l names ∧ names.length ≤ k ∧ Below W.heap.size W wr) (fun _ i wr => 100 - (intOf i).toNat)
  case atStart =>
    have bA : Below w1.heap.size w1 (w1.alloc (.cells #[] 9)) := (Below.refl _ w1).alloc (Nat.le_refl _) _
    refine ⟨0, [], .slice none 0 0, rfl, by omega, h1.below bA, ⟨?_, by simp [Value.ownBlock]⟩, by simp, b1.trans (bA.mono hz1)⟩
    have := World.ownsRow_lit (base := W.heap.size) (e := 9) (size := 1) w1 #[] 0 hz1 (by unfold maxLen; omega) (by simp)
    simpa using this
  case round =>
    obtain ⟨k, names, v, rfl, hk, ht, hli, hn, hb⟩ := hrel
    have hz := hb.size
    by_cases hkx : k < x.length ∧ k < 100
    · obtain ⟨hk1, hk2⟩ := hkx
      obtain ⟨ad, rfl, hc⟩ := hx k hk1
      have hsz : x[k].size ≤ maxLen := by
        have := hs x[k] (List.getElem_mem hk1)
        unfold maxLen; omega
      generalize x[k] = s at *
      have hlt2 : (ad.add k).block < W.heap.size := World.block_lt_of_cell? _ _ hc
      have q1 : ((k : Int) < (x.length : Int)) = True := eq_true (by omega)
      have q2 : ((k : Int) < 100) = True := eq_true (by omega)
      go_wp2
      go_loopw [8, 9] (fun a q wr2 => ∃ (p : Nat) (z : Int), q = .int .i64 p ∧ a = .int .i64 z ∧ AtTo names s p z ∧ p ≤ names.length ∧ wr2.heap = wr.heap ∧ Below W.heap.size W wr2) (fun _ q _ => names.length - (intOf q).toNat)
      case atStart => exact ⟨0, -1, rfl, rfl, .inl ⟨rfl, by omega⟩, by omega, rfl, hb⟩
      case round =>
        obtain ⟨p, z, rfl, rfl, hat, hp, hheap, hb2⟩ := hrel
        have hli2 := hli.of_heap hheap
        obtain ⟨la, lc, rfl⟩ := own_slice hli.1
        have c0 := (hb2.cell (p := ad.add k) hlt2).trans hc
        by_cases hpn : p < names.length
        · obtain ⟨lb, cap, hla⟩ : ∃ lb cap, Value.slice la names.length lc = .slice (some ⟨lb, 0, none⟩) names.length cap := by
            rcases hli2.1.2 with ⟨h1, h2⟩ | ⟨b, cap, cur, h1, _⟩
            · omega
            · exact ⟨_, _, h1⟩
          injection hla with hla1 hla2 hla3
          subst hla1
          subst hla3
          have r1 := hli2.1.cellAt p (by omega)
          rw [show (names.map Value.string)[p]? = some (.string names[p]) by simp [hpn]] at r1
          have q3 : ((p : Int) < (names.length : Int)) = True := eq_true (by omega)
          have q4 : (0 ≤ (p : Int)) = True := eq_true (by omega)
          have hb3 : ∀ n, Below W.heap.size W (wr.drewN n) := fun n => hb2.trans (drewN_below wr _ n)
          by_cases he : names[p] = s
          · have he2 : (names[p].toList == s.toList) = true := by rw [he]; exact beq_self_eq_true _
            go_wp2
            go_quiet (fail)
            go_wp2
            go_roundw
            case rel => exact ⟨p + 1, (p : Int), by go_num, rfl, .inr ⟨p, by omega, by simp [hpn, he], rfl⟩, by omega, (drewN_same wr _).1.trans hheap, hb3 _⟩
            case measure => simp [intOf]; omega
          · have he2 : (names[p].toList == s.toList) = false := beq_ne he
            go_wp2
            go_quiet (fail)
            go_wp2
            go_roundw
            case rel =>
              exact ⟨p + 1, z, by go_num, rfl, hat.no (by simp [hpn, he]), by omega, (drewN_same wr _).1.trans hheap, hb3 _⟩
            case measure => simp [intOf]; omega
        · obtain rfl : p = names.length := by omega
          have q3 : ((names.length : Int) < (names.length : Int)) = False := eq_false (by omega)
          have ht2 := ht.of_heap hheap
          have hz2 := hb2.size
          clear ht hli hb hheap hz
          rcases hat with ⟨rfl, hno⟩ | ⟨j, hj, hjs, rfl⟩
          · have hnew : s ∉ names := by
              intro hm2
              obtain ⟨j, hj, e⟩ := List.mem_iff_getElem.mp hm2
              exact hno j hj (by simp [hj, e])
            go_upto_region 15 with (go_at_call 8; go_loud (refine (find_out W.heap.size _ g m v _ names ht2 s hnew hsz).mono ?_; rintro e w5 ⟨rfl, e5⟩; obtain rfl := e5.symm))
            by_cases hf : max most 0 ≤ (names.length : Int)
            · go_upto_region 19 with (go_at_call 9; go_loud (refine (add_full W.heap.size _ g m v _ names ht2 s hsz hnew hf).mono ?_; rintro e w4 ⟨rfl, n4, rfl⟩))
              have h4 := ht2.of_heap (drewN_same wr n4).1
              have li4 := hli2.of_heap (drewN_same wr n4).1
              have b4 := hb2.trans (drewN_below wr W.heap.size n4)
              clear ht2 hli2 hb2 hz2 c0
              generalize wr.drewN n4 = w4 at *
              have q4 : (most ≤ (names.length : Int)) = True := eq_true (by omega)
              go_wp2_with (go_at_call 10; go_loud (refine (len_calls W.heap.size w4 g m v _ names h4).mono ?_; rintro e w5 ⟨rfl, e5⟩; obtain rfl := e5.symm))
              go_roundw
              case rel => exact ⟨k + 1, names, v, by go_num, by omega, h4, li4, by omega, b4⟩
              case measure => simp [intOf]; omega
            · go_upto_region 19 with (go_at_call 9; go_loud (refine (add_new W.heap.size _ g m v _ names ht2 s hsz hnew (by omega) (by omega) hz2).mono ?_; rintro e w4 ⟨rfl, v4, h4, k4, l4⟩))
              have li4 := hli2.keep ht2 k4 l4
              have b4 := hb2.trans (k4.below ht2)
              have c4 : w4.cell? (ad.add k) = some (.string s) := (b4.cell (p := ad.add k) hlt2).trans hc
              have hz4 := b4.size
              clear ht2 hli2 hb2 hz2 c0 k4 l4
              have q4 : (most ≤ (names.length : Int)) = False := eq_false (by omega)
              obtain ⟨i0, hi, hzz⟩ := Option.map_eq_some_iff.1 infoS
              simp only [Prod.mk.injEq] at hzz
              obtain ⟨hz0, hz1', hz2'⟩ := hzz
              have hrow := li4.1
              go_wp2_with (at_builtin; refine wpList_append_own_at _ rfl _ _ 22 rfl W.heap.size 9 i0 (.string ⟨#[]⟩) 1 16 Try.underlying22 hi hz0 hz1' hz2' rfl (by decide) _ _ _ rfl (hrow.alloc _) ⟨w4.heap.size, 0, none⟩ 1 1 [.string s] rfl rfl (cell_one_new _ _ _) (by intro u hu; simp at hu; subst hu; rfl) (by unfold maxLen; omega) (by omega) (by simp; omega) ?_; intro l5 w5 hown5 hgrow5 hnil5 hloc5; obtain ⟨a5, c5, rfl⟩ := own_slice hown5; obtain ⟨li5, h5, b5⟩ := list_app li4 h4 hz4 hown5 hgrow5 hloc5)
              clear hown5 hgrow5 hnil5 hloc5 hrow li4 h4
              refine (len_calls W.heap.size w5 g m v4 _ _ h5).mono ?_
              rintro e w6 ⟨rfl, e6⟩
              obtain rfl := e6.symm
              have q6 : ((names ++ [s]).length : Int) = (names.length : Int) + 1 := by simp
              rw [q6]
              clear q6
              go_wp2
              go_roundw
              case rel => exact ⟨k + 1, names ++ [s], v4, by go_num, by omega, h5, by simpa using li5, by simp; omega, b4.trans b5⟩
              case measure => simp [intOf]; omega
          · go_upto_region 15 with (go_at_call 8; go_loud (refine (find_at W.heap.size _ g m v _ names ht2 j s hjs hsz).mono ?_; rintro e w5 ⟨rfl, e5⟩; obtain rfl := e5.symm))
            go_upto_region 19 with (go_at_call 9; go_loud (refine (add_at W.heap.size _ g m v _ names ht2 j s hjs hsz).mono ?_; rintro e w5 ⟨rfl, e5⟩; obtain rfl := e5.symm))
            go_wp2_with (go_at_call 10; go_loud (refine (len_calls W.heap.size wr g m v _ names ht2).mono ?_; rintro e w5 ⟨rfl, e5⟩; obtain rfl := e5.symm))
            go_roundw
            case rel => exact ⟨k + 1, names, v, by go_num, by omega, ht2, hli2, by omega, hb2⟩
            case measure => simp [intOf]; omega
    · obtain ⟨la, lc, rfl⟩ := own_slice hli.1
      clear h1 b1 hz1
      by_cases hk1 : k < x.length
      have q1 : ((k : Int) < (x.length : Int)) = True := eq_true (by omega)
      have q2 : ((k : Int) < 100) = False := eq_false (by omega)
      go_upto_region 27 with (fail)
      clear q1 q2 hk1 hkx
      rotate_left
      have q1 : ((k : Int) < (x.length : Int)) = False := eq_false (by omega)
      go_upto_region 27 with (fail)
      clear q1 hk1 hkx
      all_goals
        go_wp2
        go_loopw [14] (fun i wr2 => ∃ (p : Nat), i = .int .i64 p ∧ p ≤ names.length ∧ wr2.heap = wr.heap ∧ Below W.heap.size W wr2) (fun q _ => names.length - (intOf q).toNat)
        case atStart => exact ⟨0, rfl, by omega, rfl, hb⟩
        case round =>
          obtain ⟨p, rfl, hp, hheap, hb2⟩ := hrel
          have hli2 := hli.of_heap hheap
          have ht2 := ht.of_heap hheap
          have hz2 := hb2.size
          clear hli ht
          by_cases hpn : p < names.length
          · obtain ⟨lb, cap, hla⟩ : ∃ lb cap, Value.slice la names.length lc = .slice (some ⟨lb, 0, none⟩) names.length cap := by
              rcases hli2.1.2 with ⟨h1, h2⟩ | ⟨b, cap, cur, h1, _⟩
              · omega
              · exact ⟨_, _, h1⟩
            injection hla with hla1 hla2 hla3
            subst hla1
            subst hla3
            have r1 := hli2.1.cellAt p (by omega)
            rw [show (names.map Value.string)[p]? = some (.string names[p]) by simp [hpn]] at r1
            have q3 : ((p : Int) < (names.length : Int)) = True := eq_true (by omega)
            have q4 : (0 ≤ (p : Int)) = True := eq_true (by omega)
            go_upto_region 31 with (go_at_call 11; go_loud (refine (name_calls W.heap.size _ g m v _ names ht2 p hpn).mono ?_; rintro e w5 ⟨rfl, e5⟩; obtain rfl := e5.symm))
            generalize names[p] = s at *
            have he2 : (s.toList == s.toList) = true := beq_self_eq_true _
            have he3 : (s.toList != s.toList) = false := by rw [bne, he2]; rfl
            go_wp2
            go_roundw
            case rel => exact ⟨p + 1, by go_num, by omega, hheap, hb2⟩
            case measure => simp [intOf]; omega
          · obtain rfl : p = names.length := by omega
            have q3 : ((names.length : Int) < (names.length : Int)) = False := eq_false (by omega)
            go_upto_region 34 with (go_at_call 11; go_loud (refine (name_out W.heap.size _ g m v _ names ht2 _ (by omega)).mono ?_; rintro e w5 ⟨rfl, e5⟩; obtain rfl := e5.symm))
            go_wp2_with (go_at_call 12; refine (awake_calls _).mono ?_; rintro e w3 ⟨rfl, b3⟩)
            go_ret
            exact ⟨rfl, hb2.trans (b3.mono hz2)⟩

end Go.Proofs.Ytihdojloghnmbaa.Given
