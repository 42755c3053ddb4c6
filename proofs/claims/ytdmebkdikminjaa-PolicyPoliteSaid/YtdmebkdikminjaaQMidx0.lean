-- A text that a changed copy of the print program wrote for this claim (NOTES.md, changed print); it is not a printed text.
import Derived.Test.YtdmebkdikminjaaProg
import Derived.Below
import Derived.Deep.Draws
import Derived.Deep.AppendLies
import Derived.Maps.AppendAt
import Derived.OwnWalk
import Derived.Laws.BytesArg
import Derived.Laws.MakeOwn
import Derived.Laws.OwnMore
import Derived.Deep.OwnRows
import Derived.Tactics
import Derived.Lib.ConvBytes
import Derived.Laws.Slices
import Derived.WalkKit
import Derived.KernelRfl
import Derived.RowKit3
import Derived.Deep.LoopGhost
import Derived.Deep.QuietTactic
import Derived.BigQuiet
import Derived.WideLaws
import Derived.Deep.DeepCutAuto
import Derived.Deep.CutBlock
import Derived.Deep.RegionHeld3
import Derived.Laws.Rows
import Derived.Lib.AppendStr
import Derived.ArgAppend
import Derived.Laws.IdiomCopy
import Derived.OrdersHeld
import Derived.Laws.BitsLemmas
import Derived.RowKit
import Derived.Test.YtdmebkdikminjaaWWords
import Derived.Test.YtdmebkdikminjaaWLast
import Derived.Test.YtdmebkdikminjaaWTab
import Derived.Test.YtdmebkdikminjaaWFour
import Derived.Test.YtdmebkdikminjaaWQPut
import Derived.Test.YtdmebkdikminjaaWApart
import Derived.Test.YtdmebkdikminjaaWArr
import Derived.Test.YtdmebkdikminjaaWZeros
import Derived.Test.YtdmebkdikminjaaWFoot
import Derived.Test.YtdmebkdikminjaaWKept
import Derived.Test.YtdmebkdikminjaaWShare
import Derived.Test.YtdmebkdikminjaaWN
import Derived.Test.YtdmebkdikminjaaWFootNe
import Derived.Test.YtdmebkdikminjaaWAt
import Derived.Test.YtdmebkdikminjaaWEqStruct
import Derived.Test.YtdmebkdikminjaaWRepsOne
import Derived.Test.YtdmebkdikminjaaWInv
import Derived.Test.YtdmebkdikminjaaWInvWords
import Derived.Test.YtdmebkdikminjaaWGuard
import Derived.Test.YtdmebkdikminjaaWNEv
import Derived.Test.YtdmebkdikminjaaWMore
import Derived.Test.YtdmebkdikminjaaQBasex
namespace Go.Proofs.Ytdmebkdikminjaa.QMid
open Go.Proofs.Ytdmebkdikminjaa.QBase
open Go.RowKit Go.Proofs.YtdmebkdikminjaaW.PrintWords Go.Proofs.YtdmebkdikminjaaW.PrintLast Go.Proofs.YtdmebkdikminjaaW.PrintMore
attribute [local go_sem] max2_int min2_int max_two min_two max_three min_three max_four min_four   -- for this text's walks alone
set_option linter.unusedVariables false
set_option linter.unusedSimpArgs false



def errW : Option Int → Value
  | none => .nilIface
  | some c => .iface 0 (.int .i64 c)
theorem errW_none : errW none = .nilIface := rfl
theorem errW_some (c : Int) : errW (some c) = .iface 0 (.int .i64 c) := rfl

theorem info3 : (Try.prog.info? 3).map (fun i => (i.zero, i.size, i.bytes)) = some (some (.int .i64 0), 1, 8) := by kernel_rfl
-- the values' own types
/-! #### struct type 55 -/
structure S55 where
  f0 : Bool
  f1 : ByteArray
def z55 : S55 := ⟨false, (⟨#[]⟩ : ByteArray)⟩
def k55 : Kd S55 := Kd.iso (Kd.pair Kd.bool Kd.string) (fun x : S55 => (x.f0, x.f1))
theorem k55_open {w : World} {x : S55} {cs : List Value} (h : k55.K w x cs) : cs = [.bool x.f0, .string x.f1] := by
  obtain ⟨_, _, rfl, rfl, rfl⟩ := h
  exact rfl
theorem k55_openM {w : World} {base : Nat} {ok : Nat → Prop} {x : S55} {cs : List Value} (h : k55.M w base ok x cs) : cs = [.bool x.f0, .string x.f1] := by
  obtain ⟨_, _, rfl, rfl, rfl⟩ := h
  exact rfl
theorem k55_mk (w : World) (x : S55)  : k55.K w x [.bool x.f0, .string x.f1] := ⟨[.bool x.f0], [.string x.f1], rfl, rfl, rfl⟩
theorem k55_mkM (w : World) (base : Nat) (ok : Nat → Prop) (x : S55)  : k55.M w base ok x [.bool x.f0, .string x.f1] := ⟨[.bool x.f0], [.string x.f1], rfl, rfl, rfl⟩
def rd_T55 (xs : List S55) (i : Int) : S55 := xs.getD i.toNat z55
theorem at_T55 {w : World} {A : Option Addr} {n : Nat} {xs : List S55} (h : Kd.C k55 w A n xs) (i : Int) (h0 : 0 ≤ i) (h1 : i < n) : ∃ ad , A = some ad ∧ w.cell? (ad.add (i.toNat * 2)) = some (.bool (rd_T55 xs i).f0) ∧ w.cell? ⟨(ad.add (i.toNat * 2)).block, (ad.add (i.toNat * 2)).off + 1, none⟩ = some (.string (rd_T55 xs i).f1) := by
  obtain ⟨ad, c, e, _, hK, hc0⟩ := Kd.C_get h z55 i h0 h1
  have hc : ∀ j u, c[j]? = some u → w.cell? (ad.add (i.toNat * 2 + j)) = some u := hc0
  obtain rfl := k55_open hK
  exact ⟨ad, e, hc 0 _ rfl, by rw [← add_field _ _ 1 (by omega)]; exact hc 1 _ rfl⟩

end Go.Proofs.Ytdmebkdikminjaa.QMid
