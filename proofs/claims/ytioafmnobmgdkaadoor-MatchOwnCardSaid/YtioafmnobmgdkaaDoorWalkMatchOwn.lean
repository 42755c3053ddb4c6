/- MatchOwn, walked, in the row's form of its arguments. -/
import Derived.Test.YtioafmnobmgdkaaDoorPureO
namespace Go.Proofs.YtioafmnobmgdkaaDoor.WalkMatchOwn
set_option linter.unusedVariables false
open Go.RowKit Go.Proofs.YtioafmnobmgdkaaDoor.Given Go.Proofs.YtioafmnobmgdkaaDoor.QBase Go.Proofs.YtioafmnobmgdkaaDoor.QMid Go.Proofs.YtioafmnobmgdkaaDoor.QLaw Go.Proofs.YtioafmnobmgdkaaDoorW.PrintWords
theorem shp (w : World) (h : w.ShapedOpen Tryd.prog) : Shp w := Tryd.laysM143.s1_3 w h
theorem walk (a0 : ByteArray) (a1 : Int) (a2 : ByteArray) (w : World) (w0 : a0.size ≤ 140737488351232) (w1 : (Lit.int .u8 a1).wf = true) (w2 : a2.size ≤ 140737488351232) (hsh : w.ShapedOpen Tryd.prog) :
    Calls Tryd.prog 5 #[.string a0, .int .u8 a1, .string a2] w fun e w' => e = .returned (.bool true) ∧ Below w.heap.size w w' :=
  decorumlaw10_MatchOwn.walk Pure.MatchOwn a0 a1 a2 w w0 w1 w2 (shp w hsh)
end Go.Proofs.YtioafmnobmgdkaaDoor.WalkMatchOwn
