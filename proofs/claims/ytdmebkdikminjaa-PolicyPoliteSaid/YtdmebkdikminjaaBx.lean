/- The family of classes for a region that lays one new box: the boxes that are known, and the new one. -/
import Derived.Test.YtdmebkdikminjaaGivG
import Derived.Test.YtdmebkdikminjaaCalmB
namespace Go.Proofs.Ytdmebkdikminjaa.Given
open Go.RowKit Go.Proofs.Ytdmebkdikminjaa.QBase Go.Proofs.Ytdmebkdikminjaa.QMid Go.Proofs.YtdmebkdikminjaaW.PrintWords Go.Proofs.YtdmebkdikminjaaW.PrintLast Go.Proofs.YtdmebkdikminjaaW.PrintMore
set_option linter.unusedVariables false
set_option linter.unusedSimpArgs false
def gh (O : Obj) : Option Nat → List (Nat × Obj)
  | none => []
  | some g => [(g, O)]
def Gb (W : World) (L : List (Nat × Obj)) (O : Obj) (og : Option Nat) (w : World) : Prop :=
  Bk W (gh O og ++ L) w ∧ ∀ g, og = some g → W.heap.size ≤ g ∧ ∀ y ∈ L, y.1 ≠ g
theorem Gb.old {W w : World} {L : List (Nat × Obj)} {O : Obj} {og : Option Nat} (h : Gb W L O og w) : Bk W L w := ⟨h.1.1, fun x hx => h.1.2 x (List.mem_append_right _ hx)⟩
theorem Gb.none {W w : World} {L : List (Nat × Obj)} {O : Obj} (h : Bk W L w) : Gb W L O .none w := ⟨h, fun g e => by cases e⟩
theorem Gb.new {W w : World} {L : List (Nat × Obj)} {O : Obj} (h : Gb W L O .none w) : Gb W L O (some w.heap.size) (w.alloc O) :=
  ⟨h.old.alloc O, fun g e => by
    cases e
    exact ⟨h.1.1.size, fun y hy => Nat.ne_of_lt (blk_lt (h.old.2 y hy))⟩⟩
theorem Gb.call {W w : World} {L : List (Nat × Obj)} {O : Obj} {og : Option Nat} {f : FuncId} {args : Array Value} {v : Value} (h : Gb W L O og w) (hc : Calls Try.prog f args w (fun e w' => e = .returned v ∧ Below w.heap.size w w')) :
    Calls Try.prog f args w (fun e w'' => e = .returned v ∧ ∃ y : Kp (Gb W L O og), w'' = y.w) :=
  hc.mono fun e w' ⟨he, hb⟩ => ⟨he, ⟨w', h.1.below hb, h.2⟩, rfl⟩
def Oz : Obj := .cells (Pol.mk 0 0 0 0 0 0 0 0 0 0 false false .none 0 0 0).cells 28 (0, 0)
theorem alloc28 (d : Option Nat) (t : TypeId) (p : String) (e : Array Edge) (a : Act) (w : World) : (execOp a.eval { dst := d, op := Op.alloc 28, type := t, pos := p, after := e, guard := none }).run Try.prog w = .ok (.value (Calm.ptr w.heap.size)) (w.alloc Oz) := by
  go_simp
  exact ⟨rfl, rfl⟩
end Go.Proofs.Ytdmebkdikminjaa.Given
