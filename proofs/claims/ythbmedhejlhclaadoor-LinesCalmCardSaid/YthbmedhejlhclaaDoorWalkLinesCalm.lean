/- LinesCalm, walked, in the row's form of its arguments. -/
import Derived.Test.YthbmedhejlhclaaDoorGivK
namespace Go.Proofs.YthbmedhejlhclaaDoor.WalkLinesCalm
set_option linter.unusedVariables false
open Go.RowKit Go.Proofs.YthbmedhejlhclaaDoor.Given Go.Proofs.YthbmedhejlhclaaDoor.QBase Go.Proofs.YthbmedhejlhclaaDoorW.PrintWords
theorem shp (w : World) (h : w.ShapedOpen Tryd.prog) : Shp w := Tryd.laysM145.s1_3 w h
theorem walk (a0 a1 a2 : ByteArray) (a3 : Bool) (w : World) (w0 : a0.size ≤ 140737488351232) (w1 : a1.size ≤ 140737488351232) (w2 : a2.size ≤ 140737488351232) (hsh : w.ShapedOpen Tryd.prog) :
    Calls Tryd.prog 7 #[.string a0, .string a1, .string a2, .bool a3] w fun e w' => e = .returned (.bool true) ∧ Below w.heap.size w w' :=
  linesCalm_calls a0 a1 a2 a3 w w0 w1 w2 (shp w hsh)
end Go.Proofs.YthbmedhejlhclaaDoor.WalkLinesCalm
