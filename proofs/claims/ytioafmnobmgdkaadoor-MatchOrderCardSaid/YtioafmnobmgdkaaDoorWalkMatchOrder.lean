/- MatchOrder, walked, in the row's form of its arguments. -/
import Derived.Test.YtioafmnobmgdkaaDoorArgsMatchOrder
import Derived.Test.YtioafmnobmgdkaaDoorPureL
namespace Go.Proofs.YtioafmnobmgdkaaDoor.WalkMatchOrder
set_option linter.unusedVariables false
open Go.RowKit Go.Proofs.YtioafmnobmgdkaaDoor.Given Go.Proofs.YtioafmnobmgdkaaDoor.QBase Go.Proofs.YtioafmnobmgdkaaDoor.QMid Go.Proofs.YtioafmnobmgdkaaDoor.QLaw Go.Proofs.YtioafmnobmgdkaaDoorW.PrintWords
theorem shp (w : World) (h : w.ShapedOpen Tryd.prog) : Shp w := Tryd.laysM143.s1_3 w h
open ArgsMatchOrder in
theorem walk (v : Value) (x : D25) (a : ByteArray) (w : World) (_s : ∃ A n c, v = .slice A n c) (K : kd25.K w x v.cells.toList) (g : good25 x) (wa : a.size ≤ 140737488351232) (hsh : w.ShapedOpen Tryd.prog) :
    Calls Tryd.prog 6 #[v, .string a] w fun e w' => e = .returned (.bool true) ∧ Below w.heap.size w w' := by
  obtain ⟨A, n, c, rfl⟩ := _s
  obtain ⟨A', c', hc, hl, hC⟩ := K
  simp [Value.cells] at hc
  obtain ⟨rfl, rfl, rfl⟩ := hc
  exact decorumlaw10_MatchOrder.calls 300000 A c x a true w hC hl (Pure.MatchOrder x a) (shp w hsh)
end Go.Proofs.YtioafmnobmgdkaaDoor.WalkMatchOrder
