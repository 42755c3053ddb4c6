/- InternFull, walked, in the row's form of its arguments. -/
import Derived.Test.YtihdojloghnmbaaWalkF
namespace Go.Proofs.Ytihdojloghnmbaa.WalkInternFull
open Go.RowKit Go.Proofs.Ytihdojloghnmbaa.Given
theorem bd_u8 {n : Int} (h : (Lit.int .u8 n).wf = true) : 0 ≤ n ∧ n ≤ 255 := by
  simp [Lit.wf, IntKind.min, IntKind.max, IntKind.signed, IntKind.bits] at h
  omega
theorem walk (a : Int) (b : ByteArray) (w : World) (wa : (Lit.int .u8 a).wf = true) (hs : b.size ≤ 140737488351232) :
    Calls Try.prog 6 #[.int .u8 a, .string b] w fun e w' => e = .returned (.bool true) ∧ Below w.heap.size w w' := full_calls a b w (bd_u8 wa) hs
end Go.Proofs.Ytihdojloghnmbaa.WalkInternFull
