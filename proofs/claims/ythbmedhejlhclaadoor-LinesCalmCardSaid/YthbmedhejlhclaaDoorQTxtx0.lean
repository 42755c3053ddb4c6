-- A text that a changed copy of the print program wrote for this claim (NOTES.md, changed print); it is not a printed text.
import Derived.Test.YthbmedhejlhclaaDoorProg
import Derived.Below
import Derived.Deep.Draws
import Derived.Deep.AppendLies
import Derived.Maps.AppendAt
import Derived.OwnWalk
import Derived.Laws.BytesArg
import Derived.Laws.MakeOwn
import Derived.Laws.OwnMore
import Derived.Deep.OwnRows
import Derived.Tactics
import Derived.Lib.ConvBytes
import Derived.Laws.Slices
import Derived.WalkKit
import Derived.KernelRfl
import Derived.RowKit3
import Derived.Deep.LoopGhost
import Derived.Deep.QuietTactic
import Derived.BigQuiet
import Derived.WideLaws
import Derived.Deep.DeepCutAuto
import Derived.Deep.CutBlock
import Derived.Deep.RegionHeld3
import Derived.Laws.Rows
import Derived.Lib.AppendStr
import Derived.ArgAppend
import Derived.Laws.IdiomCopy
import Derived.OrdersHeld
import Derived.Laws.BitsLemmas
import Derived.RowKit
import Derived.Test.YthbmedhejlhclaaDoorWWords
import Derived.Test.YthbmedhejlhclaaDoorWLast
import Derived.Test.YthbmedhejlhclaaDoorWTab
import Derived.Test.YthbmedhejlhclaaDoorWFour
import Derived.Test.YthbmedhejlhclaaDoorWQPut
import Derived.Test.YthbmedhejlhclaaDoorWApart
import Derived.Test.YthbmedhejlhclaaDoorWArr
import Derived.Test.YthbmedhejlhclaaDoorWZeros
import Derived.Test.YthbmedhejlhclaaDoorWFoot
import Derived.Test.YthbmedhejlhclaaDoorWKept
import Derived.Test.YthbmedhejlhclaaDoorWShare
import Derived.Test.YthbmedhejlhclaaDoorWN
import Derived.Test.YthbmedhejlhclaaDoorWFootNe
import Derived.Test.YthbmedhejlhclaaDoorWAt
import Derived.Test.YthbmedhejlhclaaDoorWEqStruct
import Derived.Test.YthbmedhejlhclaaDoorWRepsOne
import Derived.Test.YthbmedhejlhclaaDoorWInv
import Derived.Test.YthbmedhejlhclaaDoorWInvWords
import Derived.Test.YthbmedhejlhclaaDoorWGuard
import Derived.Test.YthbmedhejlhclaaDoorWNEv
import Derived.Test.YthbmedhejlhclaaDoorWMore
import Derived.Test.YthbmedhejlhclaaDoorGivR
import Derived.Test.YthbmedhejlhclaaDoorGivP
import Derived.Test.YthbmedhejlhclaaDoorGivF
import Derived.Test.YthbmedhejlhclaaDoorQBasex4
import Derived.Test.YthbmedhejlhclaaDoorQBasex5
import Derived.Test.YthbmedhejlhclaaDoorQBasex6
namespace Go.Proofs.YthbmedhejlhclaaDoor.QTxt
open Go.Proofs.YthbmedhejlhclaaDoor.Given Go.Proofs.YthbmedhejlhclaaDoor.QBase
open Go.RowKit Go.Proofs.YthbmedhejlhclaaDoorW.PrintWords Go.Proofs.YthbmedhejlhclaaDoorW.PrintLast Go.Proofs.YthbmedhejlhclaaDoorW.PrintMore
attribute [local go_sem] max2_int min2_int max_two min_two max_three min_three max_four min_four   -- for this text's walks alone
set_option linter.unusedVariables false
set_option linter.unusedSimpArgs false



def errW : Option Int → Value
  | none => .nilIface
  | some c => .iface 0 (.int .i64 c)
theorem errW_none : errW none = .nilIface := rfl
theorem errW_some (c : Int) : errW (some c) = .iface 0 (.int .i64 c) := rfl

-- the values' own types
def rd_L2 (xs : List (List ByteArray)) (i : Int) : (List ByteArray) := xs.getD i.toNat ([] : List ByteArray)
theorem at_L2 {w : World} {A : Option Addr} {n : Nat} {xs : List (List ByteArray)} (h : Kd.C (Kd.slice 9 Kd.string) w A n xs) (i : Int) (h0 : 0 ≤ i) (h1 : i < n) : ∃ ad A0 c0, A = some ad ∧ w.cell? (ad.add i.toNat) = some (.slice A0 (rd_L2 xs i).length c0) ∧ (rd_L2 xs i).length ≤ c0 ∧ Kd.string.C w A0 (rd_L2 xs i).length (rd_L2 xs i) := by
  obtain ⟨ad, c, e, _, hK, hc0⟩ := Kd.C_get h ([] : List ByteArray) i h0 h1
  have hc : ∀ j u, c[j]? = some u → w.cell? (ad.add (i.toNat * 1 + j)) = some u := hc0
  obtain ⟨A0, c0, rfl, l0, g0⟩ := hK
  exact ⟨ad, A0, c0, e, by have hq := hc 0 _ rfl; rwa [Nat.mul_one, Nat.add_zero] at hq, l0, g0⟩

def rd_L5 (xs : List (List S59)) (i : Int) : (List S59) := xs.getD i.toNat ([] : List S59)
theorem at_L5 {w : World} {A : Option Addr} {n : Nat} {xs : List (List S59)} (h : Kd.C (Kd.slice 59 k59) w A n xs) (i : Int) (h0 : 0 ≤ i) (h1 : i < n) : ∃ ad A0 c0, A = some ad ∧ w.cell? (ad.add i.toNat) = some (.slice A0 (rd_L5 xs i).length c0) ∧ (rd_L5 xs i).length ≤ c0 ∧ k59.C w A0 (rd_L5 xs i).length (rd_L5 xs i) := by
  obtain ⟨ad, c, e, _, hK, hc0⟩ := Kd.C_get h ([] : List S59) i h0 h1
  have hc : ∀ j u, c[j]? = some u → w.cell? (ad.add (i.toNat * 1 + j)) = some u := hc0
  obtain ⟨A0, c0, rfl, l0, g0⟩ := hK
  exact ⟨ad, A0, c0, e, by have hq := hc 0 _ rfl; rwa [Nat.mul_one, Nat.add_zero] at hq, l0, g0⟩

end Go.Proofs.YthbmedhejlhclaaDoor.QTxt
