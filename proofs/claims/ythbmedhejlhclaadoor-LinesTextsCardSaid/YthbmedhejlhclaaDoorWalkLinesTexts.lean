/- LinesTexts, walked, in the row's form of its arguments. -/
import Derived.Test.YthbmedhejlhclaaDoorPureLinesTexts
namespace Go.Proofs.YthbmedhejlhclaaDoor.WalkLinesTexts
set_option linter.unusedVariables false
open Go.RowKit Go.Proofs.YthbmedhejlhclaaDoor.Given Go.Proofs.YthbmedhejlhclaaDoor.QBase Go.Proofs.YthbmedhejlhclaaDoor.QTxt Go.Proofs.YthbmedhejlhclaaDoorW.PrintWords
theorem shp (w : World) (h : w.ShapedOpen Tryd.prog) : Shp w := Tryd.laysM145.s1_3 w h
theorem walk (a0 : ByteArray) (w : World) (w0 : a0.size ≤ 140737488351232) (hsh : w.ShapedOpen Tryd.prog) :
    Calls Tryd.prog 6 #[.string a0] w fun e w' => e = .returned (.bool true) ∧ Below w.heap.size w w' :=
  decorumlaw09_LinesTexts.walk Pure.LinesTexts a0 w w0 (shp w hsh)
end Go.Proofs.YthbmedhejlhclaaDoor.WalkLinesTexts
