/- LinesGroups, walked, in the row's form of its arguments. -/
import Derived.Test.YthbmedhejlhclaaDoorArgsLinesGroups
import Derived.Test.YthbmedhejlhclaaDoorWide
namespace Go.Proofs.YthbmedhejlhclaaDoor.WalkLinesGroups
set_option linter.unusedVariables false
open Go.RowKit Go.Proofs.YthbmedhejlhclaaDoor.Given Go.Proofs.YthbmedhejlhclaaDoor.QBase Go.Proofs.YthbmedhejlhclaaDoorW.PrintWords
theorem shp (w : World) (h : w.ShapedOpen Tryd.prog) : Shp w := Tryd.laysM145.s1_3 w h
open ArgsLinesGroups in
theorem walk (v : Value) (x : D24) (w : World) (_s : ∃ A n c, v = .slice A n c) (K : kd24.K w x v.cells.toList) (g : good24 x) (hsh : w.ShapedOpen Tryd.prog) :
    Calls Tryd.prog 5 #[v] w fun e w' => e = .returned (.bool true) ∧ Below w.heap.size w w' := by
  obtain ⟨A, n, c, rfl⟩ := _s
  obtain ⟨A', c', hc, hl, hC⟩ := K
  simp [Value.cells] at hc
  obtain ⟨rfl, rfl, rfl⟩ := hc
  exact GivenW.linesGroups_calls A c x w hC hl (fun l hl => (g.2.2 l hl).2) (shp w hsh)
end Go.Proofs.YthbmedhejlhclaaDoor.WalkLinesGroups
