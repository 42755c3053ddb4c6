/- LinesParts, walked, in the row's form of its arguments. -/
import Derived.Test.YthbmedhejlhclaaDoorPureLinesParts
namespace Go.Proofs.YthbmedhejlhclaaDoor.WalkLinesParts
set_option linter.unusedVariables false
open Go.RowKit Go.Proofs.YthbmedhejlhclaaDoor.Given Go.Proofs.YthbmedhejlhclaaDoor.QBase Go.Proofs.YthbmedhejlhclaaDoor.QLaw Go.Proofs.YthbmedhejlhclaaDoorW.PrintWords
theorem shp (w : World) (h : w.ShapedOpen Tryd.prog) : Shp w := Tryd.laysM145.s1_3 w h
theorem walk (a0 a1 : ByteArray) (w : World) (w0 : a0.size ≤ 140737488351232) (w1 : a1.size ≤ 140737488351232) (hsh : w.ShapedOpen Tryd.prog) :
    Calls Tryd.prog 8 #[.string a0, .string a1] w fun e w' => e = .returned (.bool true) ∧ Below w.heap.size w w' :=
  decorumlaw09_LinesParts.walk Pure.LinesParts a0 a1 w w0 w1 (shp w hsh)
end Go.Proofs.YthbmedhejlhclaaDoor.WalkLinesParts
