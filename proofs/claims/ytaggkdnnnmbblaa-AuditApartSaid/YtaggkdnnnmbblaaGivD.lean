/- The audit's functions in the form that a print takes. -/
import Derived.Test.YtaggkdnnnmbblaaGivC
namespace Go.Proofs.Ytaggkdnnnmbblaa.Given
set_option linter.unusedVariables false
open Go.RowKit Go.Proofs.Ytaggkdnnnmbblaa.QBase Go.Proofs.YtaggkdnnnmbblaaW.PrintWords Go.Proofs.YtaggkdnnnmbblaaW.PrintLast
theorem k26_heap : Kd.Heap k26 := Kd.heap_iso _ (Kd.heap_pair (Kd.heap_int .i64) (Kd.heap_pair Kd.heap_string (Kd.heap_pair Kd.heap_string (Kd.heap_pair (Kd.heap_int .i64) (Kd.heap_int .i64)))))
theorem k28_heap : Kd.Heap k28 := Kd.heap_iso _ (Kd.heap_pair (Kd.heap_int .i64) (Kd.heap_pair (Kd.heap_int .i64) k26_heap))
theorem k26_mkF (W : World) (ok : Nat → Prop) (x : S26) : Kd.FK k26 W ok x [.int .i64 x.f0, .string x.f1, .string x.f2, .int .i64 x.f3, .int .i64 x.f4] := fun W2 _ => k26_mk W2 x
theorem k28_mkF (W : World) (ok : Nat → Prop) (x : S28) : Kd.FK k28 W ok x [.int .i64 x.f0, .int .i64 x.f1, .int .i64 x.f2.f0, .string x.f2.f1, .string x.f2.f2, .int .i64 x.f2.f3, .int .i64 x.f2.f4] := fun W2 _ => k28_mk W2 x
instance (n : Int) : Decidable (wf64 n) := inferInstanceAs (Decidable (_ ∧ _))
instance (e : Ev) : Decidable (okEv e) := inferInstanceAs (Decidable (_ ∧ _ ∧ _ ∧ _ ∧ _ ∧ _ ∧ _))
def okEvB (e : Ev) : Bool := decide (okEv e)
theorem okEvB_all {l : List Ev} (h : l.all okEvB = true) : ∀ e ∈ l, okEv e := fun e he => of_decide_eq_true (List.all_eq_true.1 h e he)
theorem okEvB_of {l : List Ev} (h : ∀ e ∈ l, okEv e) : l.all okEvB = true := List.all_eq_true.2 fun e he => decide_eq_true (h e he)
def audit_Gaps.f (l0 : List S28) (a1 : Int) : Option Bool := if l0.length ≤ 1000 ∧ l0.all okEvB = true then some (gapsB a1 l0) else none
theorem audit_Gaps.calls (A0 : Option Addr) (c0 : Nat) (l0 : List S28) (a1 : Int) (r : Bool) (w : World) (hr0 : Kd.C k28 w A0 l0.length l0) (hc0 : l0.length ≤ c0) (h : audit_Gaps.f l0 a1 = some r) :
    Calls Try.prog 13 #[.slice A0 l0.length c0, .int .i64 a1] w fun e w' => e = .returned (.bool r) ∧ Below w.heap.size w w' := by
  unfold audit_Gaps.f at h
  split at h
  · rename_i hc
    obtain rfl := Option.some.inj h
    exact gaps_calls A0 c0 l0 a1 w hr0 hc.1 (okEvB_all hc.2)
  · cases h
def audit_Once.f (l0 : List S28) : Option Bool := if l0.length ≤ 1000 ∧ l0.all okEvB = true then some (onceB l0) else none
theorem audit_Once.calls (A0 : Option Addr) (c0 : Nat) (l0 : List S28) (r : Bool) (w : World) (hr0 : Kd.C k28 w A0 l0.length l0) (hc0 : l0.length ≤ c0) (h : audit_Once.f l0 = some r) :
    Calls Try.prog 17 #[.slice A0 l0.length c0] w fun e w' => e = .returned (.bool r) ∧ Below w.heap.size w w' := by
  unfold audit_Once.f at h
  split at h
  · rename_i hc
    obtain rfl := Option.some.inj h
    exact once_calls A0 c0 l0 w hr0 hc.1 (okEvB_all hc.2)
  · cases h
def decorumlaw22_awake.f : Option Bool := some true
theorem decorumlaw22_awake.calls (r : Bool) (w : World) (h : decorumlaw22_awake.f = some r) :
    Calls Try.prog 12 #[] w fun e w' => e = .returned (.bool r) ∧ Below w.heap.size w w' := by
  obtain rfl := Option.some.inj h
  exact awake_calls w
end Go.Proofs.Ytaggkdnnnmbblaa.Given
