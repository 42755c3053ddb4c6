/- InternNone, walked, in the row's form of its arguments. -/
import Derived.Test.YtihdojloghnmbaaWalkA
namespace Go.Proofs.Ytihdojloghnmbaa.WalkInternNone
open Go.RowKit Go.Proofs.Ytihdojloghnmbaa.Given
theorem walk (a : ByteArray) (b : Int) (w : World) (hs : a.size ≤ 140737488351232) (_wb : (Lit.int .i64 b).wf = true) :
    Calls Try.prog 4 #[.string a, .int .i64 b] w fun e w' => e = .returned (.bool true) ∧ Below w.heap.size w w' := none_calls a b w hs
end Go.Proofs.Ytihdojloghnmbaa.WalkInternNone
