/- Maps of the call's own, said as functions from keys to values. -/
import Derived.Test.YtaggkdnnnmbblaaProg
import Derived.Maps.OwnSet
import Derived.Maps.OwnOps
import Derived.WalkKit
namespace Go.Proofs.Ytaggkdnnnmbblaa.Given
open Go.RowKit Go.Maps Go.WideMaps
set_option linter.unusedVariables false

/-- Block b is a map of at most n entries that reads as f. -/
def MapIs {κ ν : Type} (kl : κ → Lit) (vd : ν → DataW Unit) (K E : Nat) (W : World) (b n : Nat) (f : κ → Option ν) : Prop :=
  ∃ D : DataW Unit, W.ownsMap Try.prog K (plainElem Try.prog E) b n D ∧ ∀ x, Maps.has D (kl x) = (f x).isSome ∧ ∀ z, D.atKey (kl x) (vd z) = vd ((f x).getD z)
def put1 {κ ν : Type} [DecidableEq κ] (f : κ → Option ν) (k : κ) (v : ν) : κ → Option ν := fun x => if x = k then some v else f x
section
variable {κ ν : Type} {kl : κ → Lit} {vd : ν → DataW Unit} {K E : Nat} {W W' : World} {b n : Nat} {f : κ → Option ν}
theorem MapIs.made (W : World) (kl : κ → Lit) (vd : ν → DataW Unit) (K E : Nat) : MapIs kl vd K E (W.alloc (.map #[] 0)) W.heap.size 0 (fun _ => none) :=
  ⟨.map [], World.ownsMap_made W Try.prog K (plainElem Try.prog E), fun x => ⟨by simp [Maps.has], fun z => by simp [DataW.atKey]⟩⟩
theorem put_is [DecidableEq κ] {D : DataW Unit} (hm : IsMap D) (h : ∀ x, Maps.has D (kl x) = (f x).isSome ∧ ∀ z, D.atKey (kl x) (vd z) = vd ((f x).getD z)) (hk : ∀ x, WideAt.IsKeyLit (kl x)) (inj : ∀ x y, kl x = kl y → x = y) (k : κ) (v : ν) :
    ∀ x, Maps.has (D.put (kl k) (vd v)) (kl x) = (put1 f k v x).isSome ∧ ∀ z, (D.put (kl k) (vd v)).atKey (kl x) (vd z) = vd ((put1 f k v x).getD z) := by
  intro x
  unfold put1
  by_cases e : x = k
  · subst e
    simp only [if_pos]
    exact ⟨has_put_same hm (hk x) _, fun z => atKey_put_same hm (hk x) _ _⟩
  · rw [if_neg e]
    have hne : kl x ≠ kl k := fun g => e (inj _ _ g)
    exact ⟨by rw [has_put_other hne]; exact (h x).1, fun z => by rw [atKey_put_other hne]; exact (h x).2 z⟩
theorem MapIs.kept {row : Option Nat} (h : MapIs kl vd K E W b n f) (hg : W.grownBy W' row) (hne : some b ≠ row) : MapIs kl vd K E W' b n f := by
  obtain ⟨D, h1, h2⟩ := h
  exact ⟨D, h1.kept hg hne, h2⟩
theorem MapIs.below (h : MapIs kl vd K E W b n f) (hb : Below W.heap.size W W') : MapIs kl vd K E W' b n f :=
  h.kept (row := none) ⟨hb.os, hb.tape, hb.output, hb.size, fun k hk _ => hb.block k hk⟩ (by simp)
theorem MapIs.more {m : Nat} (h : MapIs kl vd K E W b n f) (hm : n ≤ m) : MapIs kl vd K E W b m f := by
  obtain ⟨D, ⟨es, cl, h1, h2, h3, h4⟩, h5⟩ := h
  exact ⟨D, ⟨es, cl, h1, h2, Nat.le_trans h3 hm, h4⟩, h5⟩
theorem MapIs.lt (h : MapIs kl vd K E W b n f) : b < W.heap.size := by
  obtain ⟨D, h1, h2⟩ := h
  exact h1.lt
end

theorem plainElem_bool_inv {P : Program} {e : TypeId} (he : P.underlying e = some .bool) {v : Value} {z : DataW Unit × List MemPlace} (h : plainElem P e v = some z) : ∃ a, v = .bool a ∧ z = (.lit (.bool a), []) := by
  unfold plainElem at h
  rw [he] at h
  cases v <;> simp at h
  subst h
  exact ⟨_, rfl, rfl⟩
theorem wpList_lookup_own_bool {P : Program} (w : World) {ops : Array Oper} {rest : List Oper} {o : Oper} {a : Act} {Q : Exit → Act → World → Prop}
    (hg : o.guard = none) (m x : Operand) (t : TypeId) (hop : o.op = Op.lookup t m x false)
    (k e : TypeId) (K : Keyed P k) (ht : P.underlying t = some (.map k e)) (he : P.underlying e = some .bool) (hz : (zeroValue e).run P w = .ok (.bool false) w) (b n : Nat) (D : DataW Unit)
    (hm : a.eval m = .map (some b)) (hown : w.ownsMap P k (plainElem P e) b n D) (key : Value) (kl : Lit) (hx : a.eval x = key) (hkey : keyOf P k key = some kl)
    (hK : ∀ c : Bool, D.atKey kl (.lit (.bool false)) = .lit (.bool c) → wpList P ops Q rest (a.put o.dst (.bool c)) w) :
    wpList P ops Q (o :: rest) a w := by
  refine wpList_plain hg fun K' hK' => ?_
  obtain ⟨v, ps, hrun, hv⟩ := hown.lookup K ht hz (plainElem_bool he false) hkey
  obtain ⟨c, rfl, hc⟩ := plainElem_bool_inv he hv
  unfold Oper.wp
  simp [execOp, hop, hm, hx, hrun, Result.andThen]
  exact hK' _ _ (hK c (congrArg Prod.fst hc))

def keyS (s : ByteArray) : Lit := .string s.data.toList
theorem keyS_key (s : ByteArray) : WideAt.IsKeyLit (keyS s) := by simp [keyS, WideAt.IsKeyLit]
theorem keyS_inj (a b : ByteArray) (h : keyS a = keyS b) : a = b := by
  simp only [keyS, Lit.string.injEq] at h
  exact ByteArray.ext (Array.ext' h)
def keyI (i : Int) : Lit := .int .i64 i
theorem keyI_key (i : Int) : WideAt.IsKeyLit (keyI i) := by simp [keyI, WideAt.IsKeyLit]
theorem keyI_inj (a b : Int) (h : keyI a = keyI b) : a = b := by
  simpa [keyI] using h
def valI (n : Int) : DataW Unit := .lit (.int .i64 n)
def valB (b : Bool) : DataW Unit := .lit (.bool b)
end Go.Proofs.Ytaggkdnnnmbblaa.Given
