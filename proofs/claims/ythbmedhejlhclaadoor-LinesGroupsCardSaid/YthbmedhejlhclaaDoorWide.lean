/- LinesGroups: lower, Cut of one byte, Delay, agent, add, Groups, ref.Groups with values of any length, and the law's walk (joined out of nine texts by mkWide.py). -/
import Derived.Test.YthbmedhejlhclaaDoorGivG
import Derived.Outline
import Derived.Test.YthbmedhejlhclaaDoorGivR
import Derived.Test.YthbmedhejlhclaaDoorPureD
import Derived.Test.YthbmedhejlhclaaDoorGivF
import Derived.Test.YthbmedhejlhclaaDoorPureT
import Derived.Test.YthbmedhejlhclaaDoorQTxtx2
namespace Go.Proofs.YthbmedhejlhclaaDoor.GivenW
open Go.RowKit Go.Proofs.YthbmedhejlhclaaDoor.Given Go.Proofs.YthbmedhejlhclaaDoor.QBase Go.Proofs.YthbmedhejlhclaaDoorW.PrintWords Go.Proofs.YthbmedhejlhclaaDoorW.PrintLast Go.Proofs.YthbmedhejlhclaaDoorW.PrintMore
set_option linter.unusedVariables false
set_option linter.unusedSimpArgs false
attribute [local go_sem] max2_int min2_int max_two min_two max_three min_three max_four min_four
set_option maxHeartbeats 4000000 in
set_option maxRecDepth 1000000 in
theorem lower_calls (s : ByteArray) (w : World) (hs : s.size ≤ 140737488351232) :
    Calls Tryd.prog 28 #[.string s] w fun e w' => e = .returned (.string ⟨(lowL s.data.toList).toArray⟩) ∧ Below w.heap.size w w' := by
  have hconv := Lib.run_convert_string_bytes w 9 39 5 s Tryd.underlying9 Tryd.underlying39 Tryd.underlying5
  have hB : Hid (Bts (Lib.bytesWorld w 5 s) w.heap.size s.data.toList) := Bts.of w s
  have hb : Hid (Below w.heap.size w (Lib.bytesWorld w 5 s)) := Bts.below w s
  have hsl : Hid (s.data.toList.length = s.size) := by show _ = _; simp
  generalize Lib.bytesWorld w 5 s = w1 at hconv hB hb
  generalize grownCap w s.size 0 5 = cap at hconv
  go_enter Tryd.func28, Tryd.ntmps28
  go_wp2
  clear hconv
  go_loopw [10] (fun v wr => ∃ i : Nat, i ≤ s.size ∧ v = .int .i64 i ∧ Hid (Bts wr w.heap.size ((s.data.toList.take i).map lowB ++ s.data.toList.drop i)) ∧ Hid (Below w.heap.size w wr)) (fun v wr => s.size - (intOf v).toNat)
  case atStart =>
    refine ⟨0, by omega, rfl, ?_, hb⟩
    have e : (s.data.toList.take 0).map lowB ++ s.data.toList.drop 0 = s.data.toList := by simp
    rw [e]; exact hB
  case round =>
    clear hB hb
    obtain ⟨i, hi, rfl, hB, hb⟩ := hrel
    have hll := low_len s.data.toList i
    by_cases hlt : i < s.size
    · have hlt' : ((i : Int) < (s.size : Int)) = True := eq_true (by omega)
      have hil : i < s.data.toList.length := by rw [hsl.out]; exact hlt
      have hcell := hB.out.cell i (by rw [hll]; exact hil)
      rw [low_at s.data.toList i hil] at hcell
      have hfr := hB.out.frozen i (by rw [hll]; exact hil)
      have hset := hB.out.set i (by rw [hll]; exact hil) (lowB s.data.toList[i])
      rw [low_next s.data.toList i hil] at hset
      have hskip := low_skip s.data.toList i hil
      have hwl := wrap_low s.data.toList[i]
      have hln := low_not s.data.toList[i]
      generalize s.data.toList[i] = c at hcell hset hskip hwl hln
      have hset : Hid _ := hset
      clear hll
      by_cases hc : 65 ≤ c.toNat ∧ c.toNat ≤ 90
      · have hw2 := hwl hc
        have h1 : (65 ≤ (c.toNat : Int)) = True := eq_true (by omega)
        have h2 : ((c.toNat : Int) ≤ 90) = True := eq_true (by omega)
        clear hwl hln hskip hc hil
        go_wp2
        go_roundw
        case rel =>
          refine ⟨i + 1, by omega, by go_num, hset, ?_⟩
          exact Below.setCell hb.out (p := ⟨w.heap.size, i, none⟩) (Nat.le_refl _) _
        case measure => simp [intOf]; omega
      · have hl2 := hskip (hln hc)
        have hB2 : Hid _ := (hl2 ▸ hB.out : Bts wr w.heap.size ((s.data.toList.take (i + 1)).map lowB ++ s.data.toList.drop (i + 1)))
        clear hwl hln hskip hil hset hl2 hB
        have key : ((65 ≤ (c.toNat : Int)) = True ∧ ((c.toNat : Int) ≤ 90) = False) ∨ (65 ≤ (c.toNat : Int)) = False := by
          by_cases h : 65 ≤ c.toNat
          · exact .inl ⟨eq_true (by omega), eq_false (by omega)⟩
          · exact .inr (eq_false (by omega))
        clear hc
        rcases key with ⟨h1, h2⟩ | h1
        · go_wp2
          go_roundw
          case rel => exact ⟨i + 1, by omega, by go_num, hB2, hb⟩
          case measure => simp [intOf]; omega
        · go_wp2
          go_roundw
          case rel => exact ⟨i + 1, by omega, by go_num, hB2, hb⟩
          case measure => simp [intOf]; omega
    · have hlt' : ((i : Int) < (s.size : Int)) = False := eq_false (by omega)
      obtain rfl : i = s.size := by omega
      have hB2 : Bts wr w.heap.size (lowL s.data.toList) := by
        have := hB.out
        rw [List.take_of_length_le (Nat.le_of_eq hsl.out), List.drop_of_length_le (Nat.le_of_eq hsl.out), List.append_nil] at this
        exact this
      have hback := low_back w wr w.heap.size cap s.size (lowL s.data.toList) hB2 (by rw [lowL, List.length_map]; exact hsl.out)
      clear hB hB2
      go_wp2
      go_ret
      exact ⟨rfl, hb.out⟩
set_option maxHeartbeats 4000000 in
set_option maxRecDepth 1000000 in
theorem Lower_calls (s : ByteArray) (w : World) (hs : s.size ≤ 140737488351232) :
    Calls Tryd.prog 23 #[.string s] w fun e w' => e = .returned (.string ⟨(lowL s.data.toList).toArray⟩) ∧ Below w.heap.size w w' := by
  have hconv := Lib.run_convert_string_bytes w 9 39 5 s Tryd.underlying9 Tryd.underlying39 Tryd.underlying5
  have hB : Hid (Bts (Lib.bytesWorld w 5 s) w.heap.size s.data.toList) := Bts.of w s
  have hb : Hid (Below w.heap.size w (Lib.bytesWorld w 5 s)) := Bts.below w s
  have hsl : Hid (s.data.toList.length = s.size) := by show _ = _; simp
  generalize Lib.bytesWorld w 5 s = w1 at hconv hB hb
  generalize grownCap w s.size 0 5 = cap at hconv
  go_enter Tryd.func23, Tryd.ntmps23
  go_wp2
  clear hconv
  go_loopw [4] (fun v wr => ∃ i : Nat, i ≤ s.size ∧ v = .int .i64 i ∧ Hid (Bts wr w.heap.size ((s.data.toList.take i).map lowB ++ s.data.toList.drop i)) ∧ Hid (Below w.heap.size w wr)) (fun v wr => s.size - (intOf v).toNat)
  case atStart =>
    refine ⟨0, by omega, rfl, ?_, hb⟩
    have e : (s.data.toList.take 0).map lowB ++ s.data.toList.drop 0 = s.data.toList := by simp
    rw [e]; exact hB
  case round =>
    clear hB hb
    obtain ⟨i, hi, rfl, hB, hb⟩ := hrel
    have hll := low_len s.data.toList i
    by_cases hlt : i < s.size
    · have hlt' : ((i : Int) < (s.size : Int)) = True := eq_true (by omega)
      have hil : i < s.data.toList.length := by rw [hsl.out]; exact hlt
      have hcell := hB.out.cell i (by rw [hll]; exact hil)
      rw [low_at s.data.toList i hil] at hcell
      have hfr := hB.out.frozen i (by rw [hll]; exact hil)
      have hset := hB.out.set i (by rw [hll]; exact hil) (lowB s.data.toList[i])
      rw [low_next s.data.toList i hil] at hset
      have hskip := low_skip s.data.toList i hil
      have hwl := wrap_low s.data.toList[i]
      have hln := low_not s.data.toList[i]
      generalize s.data.toList[i] = c at hcell hset hskip hwl hln
      have hset : Hid _ := hset
      clear hll
      by_cases hc : 65 ≤ c.toNat ∧ c.toNat ≤ 90
      · have hw2 := hwl hc
        have h1 : (65 ≤ (c.toNat : Int)) = True := eq_true (by omega)
        have h2 : ((c.toNat : Int) ≤ 90) = True := eq_true (by omega)
        clear hwl hln hskip hc hil
        go_wp2
        go_roundw
        case rel =>
          refine ⟨i + 1, by omega, by go_num, hset, ?_⟩
          exact Below.setCell hb.out (p := ⟨w.heap.size, i, none⟩) (Nat.le_refl _) _
        case measure => simp [intOf]; omega
      · have hl2 := hskip (hln hc)
        have hB2 : Hid _ := (hl2 ▸ hB.out : Bts wr w.heap.size ((s.data.toList.take (i + 1)).map lowB ++ s.data.toList.drop (i + 1)))
        clear hwl hln hskip hil hset hl2 hB
        have key : ((65 ≤ (c.toNat : Int)) = True ∧ ((c.toNat : Int) ≤ 90) = False) ∨ (65 ≤ (c.toNat : Int)) = False := by
          by_cases h : 65 ≤ c.toNat
          · exact .inl ⟨eq_true (by omega), eq_false (by omega)⟩
          · exact .inr (eq_false (by omega))
        clear hc
        rcases key with ⟨h1, h2⟩ | h1
        · go_wp2
          go_roundw
          case rel => exact ⟨i + 1, by omega, by go_num, hB2, hb⟩
          case measure => simp [intOf]; omega
        · go_wp2
          go_roundw
          case rel => exact ⟨i + 1, by omega, by go_num, hB2, hb⟩
          case measure => simp [intOf]; omega
    · have hlt' : ((i : Int) < (s.size : Int)) = False := eq_false (by omega)
      obtain rfl : i = s.size := by omega
      have hB2 : Bts wr w.heap.size (lowL s.data.toList) := by
        have := hB.out
        rw [List.take_of_length_le (Nat.le_of_eq hsl.out), List.drop_of_length_le (Nat.le_of_eq hsl.out), List.append_nil] at this
        exact this
      have hback := low_back w wr w.heap.size cap s.size (lowL s.data.toList) hB2 (by rw [lowL, List.length_map]; exact hsl.out)
      clear hB hB2
      go_wp2
      go_ret
      exact ⟨rfl, hb.out⟩
end Go.Proofs.YthbmedhejlhclaaDoor.GivenW

namespace Go.Proofs.YthbmedhejlhclaaDoor.GivenW
open Go.RowKit Go.Proofs.YthbmedhejlhclaaDoor.Given Go.Proofs.YthbmedhejlhclaaDoor.QBase Go.Proofs.YthbmedhejlhclaaDoorW.PrintWords Go.Proofs.YthbmedhejlhclaaDoorW.PrintLast Go.Proofs.YthbmedhejlhclaaDoorW.PrintMore
set_option linter.unusedVariables false
set_option linter.unusedSimpArgs false
attribute [local go_sem] max2_int min2_int max_two min_two max_three min_three max_four min_four

theorem index_at (s : ByteArray) (c : UInt8) (w : World) : Calls Tryd.prog 40 #[.string s, .string ⟨#[c]⟩] w fun e w' => e = .returned (.int .i64 (Lib.indexByte s.data.toList c)) ∧ w' = w := Any.stringslite_Index_one Tryd.lays219 s c w
set_option maxHeartbeats 2000000 in
set_option maxRecDepth 100000 in
theorem lite_one (s : ByteArray) (c : UInt8) (w : World) (hs : s.size < 140737488351233) :
    Calls Tryd.prog 31 #[.string s, .string ⟨#[c]⟩] w fun e w' => e = .returned (.tuple #[.string ⟨(Lib.cut s.data.toList [c]).1.toArray⟩, .string ⟨(Lib.cut s.data.toList [c]).2.1.toArray⟩, .bool (Lib.cut s.data.toList [c]).2.2]) ∧ ∃ n, w' = w.drewN n := by
  rcases Lib.indexB_cases s ⟨#[c]⟩ with hix | ⟨i, hix, hroom⟩
  · obtain ⟨e1, e2, e3⟩ := Lib.cutB_miss s ⟨#[c]⟩ hix
    have e1 : (ByteArray.mk (Lib.cut s.data.toList [c]).1.toArray) = s := e1
    have e2 : (ByteArray.mk (Lib.cut s.data.toList [c]).2.1.toArray) = _ := e2
    have e3 : (Lib.cut s.data.toList [c]).2.2 = _ := e3
    rw [e1, e2, e3]
    have hix' : Lib.indexByte s.data.toList c = -1 := by rw [← Lib.index_one]; exact hix
    go_enter Tryd.func31, Tryd.ntmps31
    go_wp2_with (go_at_call 40; (with_reducible refine (index_at s c _).mono ?_); rintro e w' ⟨rfl, rfl⟩; rw [hix'])
    go_ret3
    exact ⟨rfl, 0, rfl⟩
  · obtain ⟨e1, e2, e3⟩ := Lib.cutB_hit s ⟨#[c]⟩ i hix
    have e1 : (ByteArray.mk (Lib.cut s.data.toList [c]).1.toArray) = _ := e1
    have e2 : (ByteArray.mk (Lib.cut s.data.toList [c]).2.1.toArray) = _ := e2
    have e3 : (Lib.cut s.data.toList [c]).2.2 = _ := e3
    rw [e1, e2, e3]
    have hsz : (⟨#[c]⟩ : ByteArray).size = 1 := rfl
    rw [hsz] at hroom ⊢
    have hix' : Lib.indexByte s.data.toList c = i := by rw [← Lib.index_one]; exact hix
    have c1 : (0 : Int) ≤ ↑i := by omega
    have c2 : (↑i : Int) ≤ ↑s.size := by omega
    have c3 : (0 : Int) ≤ ↑i + 1 := by omega
    have c4 : (↑i + 1 : Int) ≤ ↑s.size := by omega
    go_enter Tryd.func31, Tryd.ntmps31
    go_wp2_with (go_at_call 40; (with_reducible refine (index_at s c _).mono ?_); rintro e w' ⟨rfl, rfl⟩; rw [hix'])
    go_region
    go_wp2
    go_ret3
    exact ⟨rfl, 1, rfl⟩
set_option maxHeartbeats 2000000 in
set_option maxRecDepth 100000 in
theorem cut_one (s : ByteArray) (c : UInt8) (w : World) (hs : s.size < 140737488351233) :
    Calls Tryd.prog 24 #[.string s, .string ⟨#[c]⟩] w fun e w' => e = .returned (.tuple #[.string ⟨(Lib.cut s.data.toList [c]).1.toArray⟩, .string ⟨(Lib.cut s.data.toList [c]).2.1.toArray⟩, .bool (Lib.cut s.data.toList [c]).2.2]) ∧ ∃ n, w' = w.drewN n := by
  go_enter Tryd.func24, Tryd.ntmps24
  go_wp2_with (go_at_call 31; (with_reducible refine (lite_one s c _ hs).mono ?_); rintro e w' ⟨rfl, n, rfl⟩)
  go_ret3
  exact ⟨rfl, n, rfl⟩
def strings_Cut.f (a0 a1 : ByteArray) : Option (ByteArray × ByteArray × Bool) :=
  if a0.size < 140737488351233 ∧ a1 = ⟨#[46]⟩ then some (⟨(Lib.cut a0.data.toList a1.data.toList).1.toArray⟩, ⟨(Lib.cut a0.data.toList a1.data.toList).2.1.toArray⟩, (Lib.cut a0.data.toList a1.data.toList).2.2) else none
theorem strings_Cut.calls (a0 a1 : ByteArray) (r1 r2 : ByteArray) (r3 : Bool) (w : World) (h : strings_Cut.f a0 a1 = some (r1, r2, r3)) (hS_ : Shp w) :
    Calls Tryd.prog 24 #[.string a0, .string a1] w fun e w' => e = .returned (.tuple #[.string r1, .string r2, .bool r3]) ∧ Drawn0 w w' := by
  unfold strings_Cut.f at h
  split at h
  · rename_i hc
    obtain ⟨hc, rfl⟩ := hc
    obtain ⟨rfl, h2⟩ := Prod.mk.inj (Option.some.inj h)
    obtain ⟨rfl, rfl⟩ := Prod.mk.inj h2
    exact (cut_one a0 46 w hc).mono fun e w' ⟨h1, h2⟩ => ⟨h1, ⟨h2⟩⟩
  · cases h
def lines_lower.f (a0 : ByteArray) : Option ByteArray := if a0.size ≤ 140737488351232 then some ⟨(lowL a0.data.toList).toArray⟩ else none
theorem lines_lower.calls (a0 : ByteArray) (r : ByteArray) (w : World) (h : lines_lower.f a0 = some r) :
    Calls Tryd.prog 28 #[.string a0] w fun e w' => e = .returned (.string r) ∧ Below w.heap.size w w' := by
  unfold lines_lower.f at h
  split at h
  · rename_i hc
    obtain rfl := Option.some.inj h
    exact lower_calls a0 w hc
  · cases h
def decorumref09_Lower.f (a0 : ByteArray) : Option ByteArray := if a0.size ≤ 140737488351232 then some ⟨(lowL a0.data.toList).toArray⟩ else none
theorem decorumref09_Lower.calls (a0 : ByteArray) (r : ByteArray) (w : World) (h : decorumref09_Lower.f a0 = some r) :
    Calls Tryd.prog 23 #[.string a0] w fun e w' => e = .returned (.string r) ∧ Below w.heap.size w w' := by
  unfold decorumref09_Lower.f at h
  split at h
  · rename_i hc
    obtain rfl := Option.some.inj h
    exact Lower_calls a0 w hc
  · cases h
end Go.Proofs.YthbmedhejlhclaaDoor.GivenW

namespace Go.Proofs.YthbmedhejlhclaaDoor.GivenW
open Go.RowKit Go.Proofs.YthbmedhejlhclaaDoor.Given Go.Proofs.YthbmedhejlhclaaDoor.QBase Go.Proofs.YthbmedhejlhclaaDoorW.PrintWords Go.Proofs.YthbmedhejlhclaaDoorW.PrintLast Go.Proofs.YthbmedhejlhclaaDoorW.PrintMore
set_option linter.unusedVariables false
set_option linter.unusedSimpArgs false
attribute [local go_sem] max2_int min2_int max_two min_two max_three min_three max_four min_four
set_option maxHeartbeats 4000000 in
set_option maxRecDepth 1000000 in
theorem delay_calls (s : ByteArray) (w : World) (hs : s.size < 140737488351233) (hS : Shp w) :
    Calls Tryd.prog 13 #[.string s] w fun e w' => e = .returned (.tuple #[.int .i64 ((delayV s.data.toList).1 : Int), .bool (delayV s.data.toList).2]) ∧ Below w.heap.size w w' := by
  have hroom := cut_room s.data.toList [46]
  have HC : Aside0 (strings_Cut.f s ⟨#[46]⟩ = some (⟨(Lib.cut s.data.toList [46]).1.toArray⟩, ⟨(Lib.cut s.data.toList [46]).2.1.toArray⟩, (Lib.cut s.data.toList [46]).2.2)) := ⟨by
    rw [strings_Cut.f, if_pos ⟨hs, rfl⟩]⟩
  have HS := Aside0.mk hS
  clear hS
  unfold delayV
  generalize (Lib.cut s.data.toList [46]).1 = a at *
  generalize (Lib.cut s.data.toList [46]).2.1 = b at *
  generalize (Lib.cut s.data.toList [46]).2.2 = d at *
  have hA : ∃ A : ByteArray, A = ⟨a.toArray⟩ := ⟨_, rfl⟩
  have hB : ∃ B : ByteArray, B = ⟨b.toArray⟩ := ⟨_, rfl⟩
  obtain ⟨A, hA⟩ := hA
  obtain ⟨B, hB⟩ := hB
  rw [← hA, ← hB] at HC
  have ha : a = A.data.toList := by rw [hA]
  have hb : b = B.data.toList := by rw [hB]
  subst ha hb
  clear hA hB
  have hsum : (9223372036854775807 < A.size + B.size) = False := eq_false (by simp at hroom; omega)
  have hsl : A.data.toList.length = A.size ∧ B.data.toList.length = B.size := by simp
  have hnil : ((A ++ B).toList = []) = ((A.data.toList ++ B.data.toList) = []) := by rw [Lib.toList_data]; simp
  have hemp : (A ++ B).toList.isEmpty = (A.data.toList ++ B.data.toList).isEmpty := by rw [Lib.toList_data]; simp
  have hbm : B.toList.isEmpty = B.data.toList.isEmpty := by rw [Lib.toList_data]
  have hin : Hid _ := hroom
  clear hroom
  by_cases hE : A.data.toList ++ B.data.toList = []
  · have e1 : ((A ++ B).toList = []) = True := by rw [hnil]; exact eq_true hE
    have e2 : (A ++ B).toList.isEmpty = true := by rw [hemp, hE]; rfl
    have hv : delayP A.data.toList B.data.toList d = (0, false) := by unfold delayP; rw [hE]; rfl
    clear hnil hemp hbm hE
    go_enter Tryd.func13, Tryd.ntmps13
    go_wp2_with (first | (go_at_call 24; (with_reducible refine (strings_Cut.calls s ⟨#[46]⟩ A B d _ HC.out HS.out).mono ?_); rintro e w' ⟨rfl, ⟨nd, rfl⟩⟩))
    go_ret2
    rw [hv]
    exact ⟨rfl, pw_below_drewN (Below.refl _ _) _⟩
  have e1 : ((A ++ B).toList = []) = False := by rw [hnil]; exact eq_false hE
  have e2 : (A ++ B).toList.isEmpty = false := by rw [hemp]; simpa using hE
  have hE2 : (A.data.toList ++ B.data.toList).isEmpty = false := by simpa using hE
  clear hnil hemp hE
  by_cases h9 : 9 < A.size
  · have h9b : (9 < (A.size : Int)) = True := eq_true (by omega)
    have hv : delayP A.data.toList B.data.toList d = (0, false) := by unfold delayP; rw [hE2, hsl.1]; simp [h9]
    clear hbm hE2
    go_enter Tryd.func13, Tryd.ntmps13
    go_wp2_with (first | (go_at_call 24; (with_reducible refine (strings_Cut.calls s ⟨#[46]⟩ A B d _ HC.out HS.out).mono ?_); rintro e w' ⟨rfl, ⟨nd, rfl⟩⟩))
    go_ret2
    rw [hv]
    exact ⟨rfl, pw_below_drewN (Below.refl _ _) _⟩
  have h9b : (9 < (A.size : Int)) = False := eq_false (by omega)
  by_cases hd : d = true ∧ B.data.toList.isEmpty = true
  · obtain ⟨rfl, hbe⟩ := hd
    rw [hbe] at hbm
    have hv : delayP A.data.toList B.data.toList true = (0, false) := by unfold delayP; rw [hE2, hsl.1, hbe]; simp [h9]
    clear hE2 hbe
    go_enter Tryd.func13, Tryd.ntmps13
    go_wp2_with (first | (go_at_call 24; (with_reducible refine (strings_Cut.calls s ⟨#[46]⟩ A B true _ HC.out HS.out).mono ?_); rintro e w' ⟨rfl, ⟨nd, rfl⟩⟩))
    go_ret2
    rw [hv]
    exact ⟨rfl, pw_below_drewN (Below.refl _ _) _⟩
  have hv : delayP A.data.toList B.data.toList d = if (A.data.toList ++ B.data.toList).all digB then (numV 0 (A.data.toList ++ (B.data.toList ++ [48, 48, 48]).take 3), true) else (0, false) := by
    unfold delayP
    rw [hE2, hsl.1, if_neg]
    simp only [Bool.false_or, Bool.or_eq_true, decide_eq_true_eq, Bool.and_eq_true]
    rintro (h | h)
    · exact h9 h
    · exact hd h
  have hv : Hid (delayP A.data.toList B.data.toList d = if (A.data.toList ++ B.data.toList).all digB then (numV 0 (A.data.toList ++ (B.data.toList ++ [48, 48, 48]).take 3), true) else (0, false)) := hv
  have hd2 : (d = true ∧ B.data.toList.isEmpty = false) ∨ d = false := by
    cases d with
    | false => exact .inr rfl
    | true =>
      refine .inl ⟨rfl, ?_⟩
      cases hbe : B.data.toList.isEmpty with
      | false => rfl
      | true => exact absurd ⟨rfl, hbe⟩ hd
  clear hd hE2
  rcases hd2 with ⟨rfl, hbe⟩ | rfl
  · rw [hbe] at hbm
    go_enter Tryd.func13, Tryd.ntmps13
    go_wp2_with (first | (go_at_call 24; (with_reducible refine (strings_Cut.calls s ⟨#[46]⟩ A B true _ HC.out HS.out).mono ?_); rintro e w' ⟨rfl, ⟨nd, rfl⟩⟩))
    generalize hT : A ++ B = T at *
    have hTl : T.data.toList = A.data.toList ++ B.data.toList := by rw [← hT]; simp
    have hTs : T.size = A.size + B.size := by rw [← hT]; simp [ByteArray.size_append]
    have hTl := Hid.mk_ hTl
    clear hT
    go_loopw [] (fun wr => ∃ pos : Nat, wr.heap[w.heap.size]? = some (.stringIter T pos) ∧ Hid (Below w.heap.size w wr) ∧ pos ≤ T.size ∧ Hid (∀ j (h : j < T.data.toList.length), j < pos → digB (T.data.toList[j]) = true)) (fun wr => T.size - wr.iterPos w.heap.size)
    case atStart =>
      refine ⟨0, World.iter_heap (w.drewN nd) T 0, ?_, by omega, ?_⟩
      · exact (pw_below_drewN (Below.refl _ w) nd).alloc (Nat.le_refl _) _
      · intro j h hj; omega
    case round =>
      obtain ⟨pos, hit, hbw, hp0, hdig⟩ := hrel
      have hsz : w.heap.size < wr.heap.size := (Array.getElem?_eq_some_iff.1 hit).1
      by_cases hp : pos < T.size
      · have hpl : pos < T.data.toList.length := by simpa using hp
        have hgt := get_list T pos hp
        by_cases hdg : digB (T.data.toList[pos]) = true
        · have hr : 48 ≤ (T[pos]'hp).toNat ∧ (T[pos]'hp).toNat ≤ 57 := by
            have e : T[pos]'hp = T.data.toList[pos]'hpl := by simp; rfl
            rw [e]
            simpa [digB] using hdg
          have hnx : ∀ ty, (Instr.next (.pointer (some ⟨w.heap.size, 0, none⟩)) true ty).run Tryd.prog wr = _ := fun ty => Lib.run_next_ascii_at wr (w.heap.size) T pos ty hit hp (by omega)
          have hit2 := Lib.iterAt_heap wr (w.heap.size) T pos (pos + 1) hit
          have hbw2 : Hid _ := Lib.below_iterAt hbw.out (k := w.heap.size) (Nat.le_refl _) T (pos + 1)
          have g1 : (((T[pos]'hp).toNat : Int) < 48) = False := eq_false (by omega)
          have g2 : (57 < ((T[pos]'hp).toNat : Int)) = False := eq_false (by omega)
          have hdig2 : Hid (∀ j (h : j < T.data.toList.length), j < pos + 1 → digB (T.data.toList[j]) = true) := by
            intro j h hj
            by_cases e : j = pos
            · subst e; exact hdg
            · exact hdig.out j h (by omega)
          clear hdig hdg hgt hr hbw
          go_wp2
          go_roundw
          case rel => exact ⟨pos + 1, hit2, hbw2, by omega, hdig2⟩
          case measure =>
            simp only [World.iterPos, hit2, hit]
            omega
        · have hres : (A.data.toList ++ B.data.toList).all digB = false := by
            rw [← hTl.out]
            apply Bool.eq_false_iff.mpr
            intro h
            exact hdg (List.all_eq_true.mp h _ (List.getElem_mem hpl))
          have hv2 := hv.out
          rw [if_neg (show ¬ ((A.data.toList ++ B.data.toList).all digB = true) by rw [hres]; decide)] at hv2
          have hv2 : Hid _ := hv2
          clear hdig hres hv
          have key : (((Utf8.decode T pos).1 : Int) < 48) = True ∨ ((((Utf8.decode T pos).1 : Int) < 48) = False ∧ (57 < ((Utf8.decode T pos).1 : Int)) = True) := by
            by_cases hbig : 128 ≤ (T.get! pos).toNat
            · have := dec_big T pos hbig
              exact .inr ⟨eq_false (by omega), eq_true (by omega)⟩
            · have e1 : (T[pos]'hp).toNat = (T.get! pos).toNat := by rw [hgt]; simp; rfl
              have e2 := decode_ascii T pos hp (by omega)
              rw [e2, e1]
              rw [hgt] at hbig ⊢
              simp [digB] at hdg
              by_cases h48 : 48 ≤ (T.data.toList[pos]).toNat
              · have := hdg (by simpa using h48)
                exact .inr ⟨eq_false (by simp; simp at h48; omega), eq_true (by simp; omega)⟩
              · exact .inl (eq_true (by simp; simp at h48; omega))
          have hnx : ∀ ty, (Instr.next (.pointer (some ⟨w.heap.size, 0, none⟩)) true ty).run Tryd.prog wr = _ := fun ty => Lib.run_next_any_at wr (w.heap.size) T pos ty hit hp
          have hbw2 := Lib.below_iterAt hbw.out (k := w.heap.size) (Nat.le_refl _) T (pos + (Utf8.decode T pos).2)
          have hbw2 : Hid _ := hbw2
          clear hdg hgt hbw
          rcases key with g1 | ⟨g1, g2⟩
          · go_wp2
            go_ret2
            rw [hv2.out]
            exact ⟨rfl, hbw2.out⟩
          · go_wp2
            go_ret2
            rw [hv2.out]
            exact ⟨rfl, hbw2.out⟩
      · obtain rfl : pos = T.size := by omega
        have hnx : ∀ ty, (Instr.next (.pointer (some ⟨w.heap.size, 0, none⟩)) true ty).run Tryd.prog wr = _ := fun ty => Lib.run_next_end_at wr (w.heap.size) T T.size ty hit hp
        have hall : (A.data.toList ++ B.data.toList).all digB = true := by
          rw [← hTl.out]
          refine List.all_eq_true.mpr fun c hc => ?_
          obtain ⟨j, hj, rfl⟩ := List.getElem_of_mem hc
          exact hdig.out j hj (by simpa using hj)
        have hv2 := hv.out
        rw [if_pos hall] at hv2
        have hv2 : Hid _ := hv2
        have hdT : Hid (∀ c ∈ A.data.toList ++ B.data.toList, digB c = true) := fun c hc => List.all_eq_true.mp hall c hc
        clear hdig hv hall
        have hBs : B.size ≤ s.size := by have := hin.out; simp at this; omega
        have hs3 : (9223372036854775807 < B.size + 3) = False := eq_false (by omega)
        have hs4 : (9223372036854775807 < A.size + ((B ++ (⟨#[48, 48, 48]⟩ : ByteArray)).extract 0 3).size) = False := eq_false (by simp; omega)
        go_wp2
        have hUl : Hid ((A ++ (B ++ (⟨#[48, 48, 48]⟩ : ByteArray)).extract 0 3).data.toList = A.data.toList ++ (B.data.toList ++ [48, 48, 48]).take 3) := by
          show _ = _
          rw [show (A ++ (B ++ (⟨#[48, 48, 48]⟩ : ByteArray)).extract 0 3).data.toList = A.data.toList ++ ((B ++ (⟨#[48, 48, 48]⟩ : ByteArray)).extract 0 3).data.toList by simp, Lib.extract_from_zero]
          simp
        generalize A ++ (B ++ (⟨#[48, 48, 48]⟩ : ByteArray)).extract 0 3 = U at *
        have hUd : Hid (∀ c ∈ U.data.toList, digB c = true) := by
          show ∀ c ∈ U.data.toList, digB c = true
          rw [hUl.out]
          intro c hc
          rcases List.mem_append.mp hc with h | h
          · exact hdT.out c (List.mem_append_left _ h)
          · rcases List.mem_append.mp (List.mem_of_mem_take h) with h | h
            · exact hdT.out c (List.mem_append_right _ h)
            · simp at h; subst h; decide
        have hU12 : U.size ≤ 12 := by
          have := congrArg List.length hUl.out
          simp at this
          omega
        have hb2 : Hid (Below w.heap.size w (wr.iter U 0)) := hbw.out.alloc hbw.out.size _
        have hit2 := World.iter_heap wr U 0
        have hwr : w.heap.size ≤ wr.heap.size := hbw.out.size
        clear hit hnx hbw hs3 hs4 hin hBs
        generalize wr.iter U 0 = wx at *
        generalize wr.heap.size = b2 at *
        go_loopw [9] (fun v wr => ∃ pos : Nat, v = .int .i64 ((numV 0 (U.data.toList.take pos) : Nat) : Int) ∧ wr.heap[b2]? = some (.stringIter U pos) ∧ Hid (Below w.heap.size w wr) ∧ pos ≤ U.size) (fun v wr => U.size - wr.iterPos b2)
        case atStart => exact ⟨0, rfl, hit2, hb2, by omega⟩
        case round =>
          clear hb2 hit2
          obtain ⟨pos, rfl, hit, hbw, hp0⟩ := hrel
          by_cases hp : pos < U.size
          · have hpl : pos < U.data.toList.length := by simpa using hp
            have eU : U[pos]'hp = U.data.toList[pos]'hpl := by simp; rfl
            have hdg : digB (U[pos]'hp) = true := by rw [eU]; exact hUd.out _ (List.getElem_mem hpl)
            have hr : 48 ≤ (U[pos]'hp).toNat ∧ (U[pos]'hp).toNat ≤ 57 := by simpa [digB] using hdg
            have hnx : ∀ ty, (Instr.next (.pointer (some ⟨b2, 0, none⟩)) true ty).run Tryd.prog wr = _ := fun ty => Lib.run_next_ascii_at wr b2 U pos ty hit hp (by omega)
            have hit2 := Lib.iterAt_heap wr b2 U pos (pos + 1) hit
            have hbw2 : Hid _ := Lib.below_iterAt hbw.out (k := b2) hwr U (pos + 1)
            have hnb := numV_lt (U.data.toList.take pos) (fun c hc => hUd.out c (List.mem_of_mem_take hc)) 12 (by rw [List.length_take]; omega)
            have hnx2 : Hid (numV 0 (U.data.toList.take (pos + 1)) = 10 * numV 0 (U.data.toList.take pos) + ((U[pos]'hp).toNat - 48)) := by
              show _ = _
              rw [List.take_add_one, List.getElem?_eq_getElem hpl, eU]
              exact numV_snoc 0 _ _
            generalize numV 0 (U.data.toList.take pos) = n at *
            generalize (U[pos]'hp).toNat = c at *
            have f1 : wrap64 (10 * (n : Int)) = ((10 * n : Nat) : Int) := by simp only [wrap64]; omega
            have f2 : IntKind.i32.wrap ((c : Int) - 48) = ((c - 48 : Nat) : Int) := by simp [IntKind.wrap, IntKind.signed, IntKind.bits]; omega
            clear eU hdg hbw
            go_wp2
            go_roundw
            case rel =>
              refine ⟨pos + 1, ?_, hit2, hbw2, by omega⟩
              rw [hnx2.out]
              exact congrArg (Value.int IntKind.i64) (by omega)
            case measure =>
              simp only [World.iterPos, hit2, hit]
              omega
          · obtain rfl : pos = U.size := by omega
            have hnx : ∀ ty, (Instr.next (.pointer (some ⟨b2, 0, none⟩)) true ty).run Tryd.prog wr = _ := fun ty => Lib.run_next_end_at wr b2 U U.size ty hit hp
            go_wp2
            go_ret2
            rw [hv2.out, ← hUl.out]
            have : U.data.toList.take U.size = U.data.toList := List.take_of_length_le (by simp)
            rw [this]
            exact ⟨rfl, hbw.out⟩
  · go_enter Tryd.func13, Tryd.ntmps13
    go_wp2_with (first | (go_at_call 24; (with_reducible refine (strings_Cut.calls s ⟨#[46]⟩ A B false _ HC.out HS.out).mono ?_); rintro e w' ⟨rfl, ⟨nd, rfl⟩⟩))
    generalize hT : A ++ B = T at *
    have hTl : T.data.toList = A.data.toList ++ B.data.toList := by rw [← hT]; simp
    have hTs : T.size = A.size + B.size := by rw [← hT]; simp [ByteArray.size_append]
    have hTl := Hid.mk_ hTl
    clear hT
    go_loopw [] (fun wr => ∃ pos : Nat, wr.heap[w.heap.size]? = some (.stringIter T pos) ∧ Hid (Below w.heap.size w wr) ∧ pos ≤ T.size ∧ Hid (∀ j (h : j < T.data.toList.length), j < pos → digB (T.data.toList[j]) = true)) (fun wr => T.size - wr.iterPos w.heap.size)
    case atStart =>
      refine ⟨0, World.iter_heap (w.drewN nd) T 0, ?_, by omega, ?_⟩
      · exact (pw_below_drewN (Below.refl _ w) nd).alloc (Nat.le_refl _) _
      · intro j h hj; omega
    case round =>
      obtain ⟨pos, hit, hbw, hp0, hdig⟩ := hrel
      have hsz : w.heap.size < wr.heap.size := (Array.getElem?_eq_some_iff.1 hit).1
      by_cases hp : pos < T.size
      · have hpl : pos < T.data.toList.length := by simpa using hp
        have hgt := get_list T pos hp
        by_cases hdg : digB (T.data.toList[pos]) = true
        · have hr : 48 ≤ (T[pos]'hp).toNat ∧ (T[pos]'hp).toNat ≤ 57 := by
            have e : T[pos]'hp = T.data.toList[pos]'hpl := by simp; rfl
            rw [e]
            simpa [digB] using hdg
          have hnx : ∀ ty, (Instr.next (.pointer (some ⟨w.heap.size, 0, none⟩)) true ty).run Tryd.prog wr = _ := fun ty => Lib.run_next_ascii_at wr (w.heap.size) T pos ty hit hp (by omega)
          have hit2 := Lib.iterAt_heap wr (w.heap.size) T pos (pos + 1) hit
          have hbw2 : Hid _ := Lib.below_iterAt hbw.out (k := w.heap.size) (Nat.le_refl _) T (pos + 1)
          have g1 : (((T[pos]'hp).toNat : Int) < 48) = False := eq_false (by omega)
          have g2 : (57 < ((T[pos]'hp).toNat : Int)) = False := eq_false (by omega)
          have hdig2 : Hid (∀ j (h : j < T.data.toList.length), j < pos + 1 → digB (T.data.toList[j]) = true) := by
            intro j h hj
            by_cases e : j = pos
            · subst e; exact hdg
            · exact hdig.out j h (by omega)
          clear hdig hdg hgt hr hbw
          go_wp2
          go_roundw
          case rel => exact ⟨pos + 1, hit2, hbw2, by omega, hdig2⟩
          case measure =>
            simp only [World.iterPos, hit2, hit]
            omega
        · have hres : (A.data.toList ++ B.data.toList).all digB = false := by
            rw [← hTl.out]
            apply Bool.eq_false_iff.mpr
            intro h
            exact hdg (List.all_eq_true.mp h _ (List.getElem_mem hpl))
          have hv2 := hv.out
          rw [if_neg (show ¬ ((A.data.toList ++ B.data.toList).all digB = true) by rw [hres]; decide)] at hv2
          have hv2 : Hid _ := hv2
          clear hdig hres hv
          have key : (((Utf8.decode T pos).1 : Int) < 48) = True ∨ ((((Utf8.decode T pos).1 : Int) < 48) = False ∧ (57 < ((Utf8.decode T pos).1 : Int)) = True) := by
            by_cases hbig : 128 ≤ (T.get! pos).toNat
            · have := dec_big T pos hbig
              exact .inr ⟨eq_false (by omega), eq_true (by omega)⟩
            · have e1 : (T[pos]'hp).toNat = (T.get! pos).toNat := by rw [hgt]; simp; rfl
              have e2 := decode_ascii T pos hp (by omega)
              rw [e2, e1]
              rw [hgt] at hbig ⊢
              simp [digB] at hdg
              by_cases h48 : 48 ≤ (T.data.toList[pos]).toNat
              · have := hdg (by simpa using h48)
                exact .inr ⟨eq_false (by simp; simp at h48; omega), eq_true (by simp; omega)⟩
              · exact .inl (eq_true (by simp; simp at h48; omega))
          have hnx : ∀ ty, (Instr.next (.pointer (some ⟨w.heap.size, 0, none⟩)) true ty).run Tryd.prog wr = _ := fun ty => Lib.run_next_any_at wr (w.heap.size) T pos ty hit hp
          have hbw2 := Lib.below_iterAt hbw.out (k := w.heap.size) (Nat.le_refl _) T (pos + (Utf8.decode T pos).2)
          have hbw2 : Hid _ := hbw2
          clear hdg hgt hbw
          rcases key with g1 | ⟨g1, g2⟩
          · go_wp2
            go_ret2
            rw [hv2.out]
            exact ⟨rfl, hbw2.out⟩
          · go_wp2
            go_ret2
            rw [hv2.out]
            exact ⟨rfl, hbw2.out⟩
      · obtain rfl : pos = T.size := by omega
        have hnx : ∀ ty, (Instr.next (.pointer (some ⟨w.heap.size, 0, none⟩)) true ty).run Tryd.prog wr = _ := fun ty => Lib.run_next_end_at wr (w.heap.size) T T.size ty hit hp
        have hall : (A.data.toList ++ B.data.toList).all digB = true := by
          rw [← hTl.out]
          refine List.all_eq_true.mpr fun c hc => ?_
          obtain ⟨j, hj, rfl⟩ := List.getElem_of_mem hc
          exact hdig.out j hj (by simpa using hj)
        have hv2 := hv.out
        rw [if_pos hall] at hv2
        have hv2 : Hid _ := hv2
        have hdT : Hid (∀ c ∈ A.data.toList ++ B.data.toList, digB c = true) := fun c hc => List.all_eq_true.mp hall c hc
        clear hdig hv hall
        have hBs : B.size ≤ s.size := by have := hin.out; simp at this; omega
        have hs3 : (9223372036854775807 < B.size + 3) = False := eq_false (by omega)
        have hs4 : (9223372036854775807 < A.size + ((B ++ (⟨#[48, 48, 48]⟩ : ByteArray)).extract 0 3).size) = False := eq_false (by simp; omega)
        go_wp2
        have hUl : Hid ((A ++ (B ++ (⟨#[48, 48, 48]⟩ : ByteArray)).extract 0 3).data.toList = A.data.toList ++ (B.data.toList ++ [48, 48, 48]).take 3) := by
          show _ = _
          rw [show (A ++ (B ++ (⟨#[48, 48, 48]⟩ : ByteArray)).extract 0 3).data.toList = A.data.toList ++ ((B ++ (⟨#[48, 48, 48]⟩ : ByteArray)).extract 0 3).data.toList by simp, Lib.extract_from_zero]
          simp
        generalize A ++ (B ++ (⟨#[48, 48, 48]⟩ : ByteArray)).extract 0 3 = U at *
        have hUd : Hid (∀ c ∈ U.data.toList, digB c = true) := by
          show ∀ c ∈ U.data.toList, digB c = true
          rw [hUl.out]
          intro c hc
          rcases List.mem_append.mp hc with h | h
          · exact hdT.out c (List.mem_append_left _ h)
          · rcases List.mem_append.mp (List.mem_of_mem_take h) with h | h
            · exact hdT.out c (List.mem_append_right _ h)
            · simp at h; subst h; decide
        have hU12 : U.size ≤ 12 := by
          have := congrArg List.length hUl.out
          simp at this
          omega
        have hb2 : Hid (Below w.heap.size w (wr.iter U 0)) := hbw.out.alloc hbw.out.size _
        have hit2 := World.iter_heap wr U 0
        have hwr : w.heap.size ≤ wr.heap.size := hbw.out.size
        clear hit hnx hbw hs3 hs4 hin hBs
        generalize wr.iter U 0 = wx at *
        generalize wr.heap.size = b2 at *
        go_loopw [9] (fun v wr => ∃ pos : Nat, v = .int .i64 ((numV 0 (U.data.toList.take pos) : Nat) : Int) ∧ wr.heap[b2]? = some (.stringIter U pos) ∧ Hid (Below w.heap.size w wr) ∧ pos ≤ U.size) (fun v wr => U.size - wr.iterPos b2)
        case atStart => exact ⟨0, rfl, hit2, hb2, by omega⟩
        case round =>
          clear hb2 hit2
          obtain ⟨pos, rfl, hit, hbw, hp0⟩ := hrel
          by_cases hp : pos < U.size
          · have hpl : pos < U.data.toList.length := by simpa using hp
            have eU : U[pos]'hp = U.data.toList[pos]'hpl := by simp; rfl
            have hdg : digB (U[pos]'hp) = true := by rw [eU]; exact hUd.out _ (List.getElem_mem hpl)
            have hr : 48 ≤ (U[pos]'hp).toNat ∧ (U[pos]'hp).toNat ≤ 57 := by simpa [digB] using hdg
            have hnx : ∀ ty, (Instr.next (.pointer (some ⟨b2, 0, none⟩)) true ty).run Tryd.prog wr = _ := fun ty => Lib.run_next_ascii_at wr b2 U pos ty hit hp (by omega)
            have hit2 := Lib.iterAt_heap wr b2 U pos (pos + 1) hit
            have hbw2 : Hid _ := Lib.below_iterAt hbw.out (k := b2) hwr U (pos + 1)
            have hnb := numV_lt (U.data.toList.take pos) (fun c hc => hUd.out c (List.mem_of_mem_take hc)) 12 (by rw [List.length_take]; omega)
            have hnx2 : Hid (numV 0 (U.data.toList.take (pos + 1)) = 10 * numV 0 (U.data.toList.take pos) + ((U[pos]'hp).toNat - 48)) := by
              show _ = _
              rw [List.take_add_one, List.getElem?_eq_getElem hpl, eU]
              exact numV_snoc 0 _ _
            generalize numV 0 (U.data.toList.take pos) = n at *
            generalize (U[pos]'hp).toNat = c at *
            have f1 : wrap64 (10 * (n : Int)) = ((10 * n : Nat) : Int) := by simp only [wrap64]; omega
            have f2 : IntKind.i32.wrap ((c : Int) - 48) = ((c - 48 : Nat) : Int) := by simp [IntKind.wrap, IntKind.signed, IntKind.bits]; omega
            clear eU hdg hbw
            go_wp2
            go_roundw
            case rel =>
              refine ⟨pos + 1, ?_, hit2, hbw2, by omega⟩
              rw [hnx2.out]
              exact congrArg (Value.int IntKind.i64) (by omega)
            case measure =>
              simp only [World.iterPos, hit2, hit]
              omega
          · obtain rfl : pos = U.size := by omega
            have hnx : ∀ ty, (Instr.next (.pointer (some ⟨b2, 0, none⟩)) true ty).run Tryd.prog wr = _ := fun ty => Lib.run_next_end_at wr b2 U U.size ty hit hp
            go_wp2
            go_ret2
            rw [hv2.out, ← hUl.out]
            have : U.data.toList.take U.size = U.data.toList := List.take_of_length_le (by simp)
            rw [this]
            exact ⟨rfl, hbw.out⟩
def lines_Delay.f (a0 : ByteArray) : Option (Int × Bool) := if a0.size < 140737488351233 then some (((delayV a0.data.toList).1 : Int), (delayV a0.data.toList).2) else none
theorem lines_Delay.calls (a0 : ByteArray) (r1 : Int) (r2 : Bool) (w : World) (h : lines_Delay.f a0 = some (r1, r2)) (hS_ : Shp w) :
    Calls Tryd.prog 13 #[.string a0] w fun e w' => e = .returned (.tuple #[.int .i64 r1, .bool r2]) ∧ Below w.heap.size w w' := by
  unfold lines_Delay.f at h
  split at h
  · rename_i hc
    obtain ⟨rfl, rfl⟩ := Prod.mk.inj (Option.some.inj h)
    exact delay_calls a0 w hc hS_
  · cases h
end Go.Proofs.YthbmedhejlhclaaDoor.GivenW

namespace Go.Proofs.YthbmedhejlhclaaDoor.GivenW
open Go.RowKit Go.Proofs.YthbmedhejlhclaaDoor.Given Go.Proofs.YthbmedhejlhclaaDoor.QBase Go.Proofs.YthbmedhejlhclaaDoorW.PrintWords Go.Proofs.YthbmedhejlhclaaDoorW.PrintLast Go.Proofs.YthbmedhejlhclaaDoorW.PrintMore
set_option linter.unusedVariables false
set_option linter.unusedSimpArgs false
attribute [local go_sem] max2_int min2_int max_two min_two max_three min_three max_four min_four
set_option maxHeartbeats 8000000 in
set_option maxRecDepth 1000000 in
theorem agent_calls (W0 w : World) (m : Nat) (gs : List S53) (op : Bool) (v : Value) (nm : ByteArray) (h : Mk W0 m gs op v w) (hn : nm.size ≤ 140737488351232) (hl : gs.length < 1000000) (hl0 : ∀ x ∈ gs, x.f0.length < 1000000) (hop : op = true → gs ≠ []) :
    Calls Tryd.prog 25 #[.pointer (some ⟨m, 0, none⟩), .string nm] w fun e w' => e = .returned (.tuple #[]) ∧ ∃ v', Mk W0 m (agentG gs op nm) true v' w' := by
  have hB := h.base
  have HL := Aside0.mk (show lines_lower.f nm = some ⟨(lowL nm.data.toList).toArray⟩ by rw [lines_lower.f, if_pos hn])
  have HMK := Aside0.mk h
  cases op with
  | false =>
    have hc0 := blk_cell h.box 0
    have hc1 := blk_cell h.box 1
    have hf0 := blk_frozen h.box 0
    have hf1 := blk_frozen h.box 1
    simp only [List.getElem?_toArray, List.getElem?_cons_zero, List.getElem?_cons_succ] at hc0 hc1
    clear h
    go_enter Tryd.func25, Tryd.ntmps25
    go_wp2_with (first
      | ((with_reducible refine gate_builtin (b := .append) (xs := #[.tmp 15, .tmp 17]) rfl ?_); at_builtin; (refine Kd.S_append k53 (w0 := W0) W0.heap.size rfl (.tmp 15) (.tmp 17) 34 53 (.agg #[.slice none 0 0, .slice none 0 0, .int .i64 0]) 56 rfl Tryd.underlying34 info53 rfl (by decide) (by omega) v gs z53 [.slice none 0 0, .slice none 0 0, .int .i64 0] (fun k_ => k_ ≠ m) (fun _ => False) rfl rfl (k53_mkM _ _ _ z53 (Kd.R_nil _ _ _ _ _) (Kd.R_nil _ _ _ _ _)) (fun _ hk => hk.elim) (Kd.freshB HMK.out.box) (Kd.S_mono (Kd.S_types HMK.out.row HMK.out.box (by decide)) (fun _ hk => ⟨hk.2, fun h => h⟩)) HMK.out.below HMK.out.below.size (by omega) ?_); intro v1 w1 ho hb hg hat; have hm1 := blk_grown HMK.out.box hg (Kd.S_away (Kd.S_mono (Kd.S_types HMK.out.row HMK.out.box (by decide)) (fun _ hk => hk.2)) (fun _ hk => hk)); obtain ⟨g1, cap1, rfl, hg1, hg1l, cells1, hcells1⟩ := Kd.S_form ho (by simp); simp only [List.length_append, List.length_singleton] at ho; have hfa := blk_frozen hm1 0; have hfb := blk_frozen hm1 1; have hca := blk_cell hm1 0; have hcb := blk_cell hm1 1; simp only [List.getElem?_toArray, List.getElem?_cons_zero, List.getElem?_cons_succ] at hca hcb; clear hat hg hcells1))
    have hB1 := hg1
    have HMk : Mk W0 m (gs ++ [z53]) true (.slice (some ⟨g1, 0, none⟩) (gs.length + 1) cap1) ((w1.setCell ⟨m, 0, none⟩ (.slice (some ⟨g1, 0, none⟩) (gs.length + 1) cap1)).setCell ⟨m, 1, none⟩ (.bool true)) :=
      ⟨blk_put (blk_put hm1 0 _ rfl) 1 _ rfl, hB, Kd.S_mono (Kd.S_far (p := ⟨m, 1, none⟩) (Kd.S_far (p := ⟨m, 0, none⟩) ho (fun _ hk => hk) _) (fun _ hk => hk) _) (fun _ _ => trivial), below_set (below_set hb hB) hB⟩
    have hg1m : g1 ≠ m := by obtain ⟨g', c', e', _, _, hne'⟩ := HMk.form (by simp); rw [Value.slice.injEq] at e'; have e2 := e'.1; simp at e2; rw [e2]; exact hne'
    have hfin : agentG gs false nm = setG (gs ++ [z53]) { lastG (gs ++ [z53]) with f0 := (lastG (gs ++ [z53])).f0 ++ [⟨(lowL nm.data.toList).toArray⟩] } := rfl
    have hl0' : (lastG (gs ++ [z53])).f0.length < 1000000 := by simp [lastG, z53]
    have hnG : gs.length + 1 = (gs ++ [z53]).length := by simp
    have hgs : 0 < (gs ++ [z53]).length := by simp
    have hll : (gs ++ [z53]).length < 1000001 := by simp; omega
    generalize gs ++ [z53] = G at *
    generalize gs.length + 1 = n at *
    generalize ((w1.setCell ⟨m, 0, none⟩ (.slice (some ⟨g1, 0, none⟩) n cap1)).setCell ⟨m, 1, none⟩ (.bool true)) = w2 at *
    subst hnG
    clear ho hb hm1 hfa hfb hca hcb hc0 hc1 hf0 hf1
    obtain ⟨hm2, _, hS2, hb2⟩ := HMk
    obtain ⟨oki, e0, e1, R0, R1, hcA, hcB, hcC, hfr, hne, hH⟩ := last_open53 hS2 hgs
    have hw1 : wrap64 ((G.length : Int) - 1) = ((G.length - 1 : Nat) : Int) := by simp only [wrap64]; omega
    have hw2 : IntKind.i64.wrap ((G.length : Int) - 1) = ((G.length - 1 : Nat) : Int) := by rw [i64_w]; exact hw1
    have hlt1 : (((G.length - 1 : Nat) : Int) < (G.length : Int)) = True := eq_true (by omega)
    have hc0 := blk_cell hm2 0
    simp only [List.getElem?_toArray, List.getElem?_cons_zero] at hc0
    have hadd : (⟨g1, 0, none⟩ : Addr).add ((G.length - 1) * 3) = ⟨g1, (G.length - 1) * 3, none⟩ := by unfold Addr.add; split <;> simp_all
    have HH := Aside0.mk hH
    have HR0 := Aside0.mk R0
    have HR1 := Aside0.mk R1
    have Hm2 := Aside0.mk hm2
    clear hH R0 R1 hS2 hm2
    go_wp2
    go_region
    go_wp2
    have HH3 := Aside0.mk (Kd.H_drew (Kd.H_drew HH.out))
    have HR03 := Aside0.mk (Kd.R_drew (Kd.R_drew HR0.out))
    have HR13 := Aside0.mk (Kd.R_drew (Kd.R_drew HR1.out))
    have Hm3 := Aside0.mk (show w2.drew.drew.heap[m]? = _ from Hm2.out)
    have HB3 := Aside0.mk (below_drew1 (below_drew1 hb2))
    have hcA3 : w2.drew.drew.cell? ⟨g1, (G.length - 1) * 3, none⟩ = some e0 := hcA
    have hfr3 : w2.drew.drew.frozen? ⟨g1, (G.length - 1) * 3, none⟩ = false := hfr 0
    refine start_ (n := 12) (S := fun w' => w'.cell? ⟨g1, (G.length - 1) * 3, none⟩ = some e0) (ds := [11]) #[false, false, false, false, false, false, false, false, false, false, false, false] (by kernel_rfl) rfl rfl hcA3 (fun hHeld => ?_)
    generalize w2.drew.drew = w3 at HH3 HR03 HR13 Hm3 HB3 hcA3 hfr3 hHeld ⊢
    clear HH HR0 HR1 Hm2 hcA hcB hcC hfr hc0
    refine pure_ (i := 0) (N := some 34) (v := ?_) (a' := ?_) #[true, false, false, false, false, false, false, false, false, false, false, false] rfl rfl (by kernel_rfl) (fun _ _ _ h => h) (Or.inl ⟨by rfl, ?_⟩) ?_ ?_
    rotate_left
    · intro w'
      go_simp
      with_reducible rfl
    rotate_left
    · simp only [Act.put, List.setIfInBounds_toArray, List.set_cons_zero, List.set_cons_succ, i64_w, i32_w]
      rfl
    refine pure_ (i := 1) (N := some 35) (v := ?_) (a' := ?_) #[true, true, false, false, false, false, false, false, false, false, false, false] rfl rfl (by kernel_rfl) (fun _ _ _ h => h) (Or.inl ⟨by rfl, ?_⟩) ?_ ?_
    rotate_left
    · intro w'
      go_simp
      with_reducible rfl
    rotate_left
    · simp only [Act.put, List.setIfInBounds_toArray, List.set_cons_zero, List.set_cons_succ, i64_w, i32_w]
      rfl
    refine pure_ (i := 2) (N := some 36) (v := ?_) (a' := ?_) #[true, true, true, false, false, false, false, false, false, false, false, false] rfl rfl (by kernel_rfl) (fun _ _ _ h => h) (Or.inl ⟨by rfl, ?_⟩) ?_ ?_
    rotate_left
    · intro w'
      go_simp
      with_reducible rfl
    rotate_left
    · simp only [Act.put, List.setIfInBounds_toArray, List.set_cons_zero, List.set_cons_succ, i64_w, i32_w]
      rfl
    refine pure_ (i := 3) (N := some 37) (v := ?_) (a' := ?_) #[true, true, true, true, false, false, false, false, false, false, false, false] rfl rfl (by kernel_rfl) (fun _ _ _ h => h) (Or.inl ⟨by rfl, ?_⟩) ?_ ?_
    rotate_left
    · intro w'
      go_simp
      with_reducible rfl
    rotate_left
    · simp only [Act.put, List.setIfInBounds_toArray, List.set_cons_zero, List.set_cons_succ, i64_w, i32_w]
      rfl
    refine pure_ (i := 5) (N := some 39) (v := ?_) (a' := ?_) #[true, true, true, true, false, true, false, false, false, false, false, false] rfl rfl (by kernel_rfl) (fun _ _ _ h => h) (Or.inl ⟨by rfl, ?_⟩) ?_ ?_
    rotate_left
    · intro w'
      go_simp
      with_reducible rfl
    rotate_left
    · simp only [Act.put, List.setIfInBounds_toArray, List.set_cons_zero, List.set_cons_succ, i64_w, i32_w]
      rfl
    refine take_ (i := 4) (N := some 38) (v := ?_) (a' := ?_) #[true, true, true, true, true, true, false, false, false, false, false, false] rfl rfl (by kernel_rfl) (fun _ _ _ h => h) (Or.inl ⟨by rfl, ?_⟩) hHeld ?_ ?_
    rotate_left
    · rintro w' s0
      go_simp
      with_reducible rfl
    rotate_left
    · simp only [Act.put, List.setIfInBounds_toArray, List.set_cons_zero, List.set_cons_succ, i64_w, i32_w]
      rfl
    refine one_ (i := 6) (N := some 40) #[true, true, true, true, true, true, true, false, false, false, false, false] rfl rfl (by kernel_rfl) (by decide) (fun K hK => ?_)
    refine goes_ Tryd.func28 (by kernel_rfl) rfl #[.string nm] (by rfl) rfl rfl (by (try simp only [List.map_toArray, List.map_cons, List.map_nil]); first | done | rfl) ?_
    with_reducible refine (lines_lower.calls nm _ _ HL.out).mono ?_
    rintro e w4 ⟨rfl, hb4⟩
    refine ⟨_, rfl, ?_⟩
    have HH4 := Aside0.mk (Kd.H_below HH3.out hb4)
    have HR04 := Aside0.mk (Kd.R_below HR03.out hb4)
    have HR14 := Aside0.mk (Kd.R_below HR13.out hb4)
    have Hm4 := Aside0.mk (blk_below Hm3.out hb4)
    have HB4 := Aside0.mk (below_step HB3.out hb4)
    have hcA4 := (hb4.cell (World.block_lt_of_cell? _ _ hcA3)).trans hcA3
    have hfr4 : w4.frozen? ⟨g1, (G.length - 1) * 3, none⟩ = false := (World.frozen?_of_block (w := w3) (hb4.block g1 (World.block_lt_of_cell? _ _ hcA3))).trans hfr3
    clear HH3 HR03 HR13 Hm3 HB3 hcA3 hfr3 hb4
    refine hK.out _ _ hcA4 (fun hHeld => ?_)
    clear hK K
    refine norm_ (a' := ?_) ?_ ?_
    rotate_left
    · show Act.put _ (some 40) _ = _
      simp only [Act.put, List.setIfInBounds_toArray, List.set_cons_zero, List.set_cons_succ, i64_w, i32_w]
      rfl
    refine one_ (i := 7) (N := some 41) #[true, true, true, true, true, true, true, true, false, false, false, false] rfl rfl (by kernel_rfl) (by decide) (fun K hK => ?_)
    refine value_ (w1 := ?_) (v := ?_) (by rfl) rfl ?_ ?_
    rotate_left 2
    · go_simp
      constructor
      · rfl
      · rfl
    refine hK.out _ _ ((World.cell?_alloc_lt _ _ _ (World.block_lt_of_cell? _ _ hcA4)).trans hcA4) (fun hHeld => ?_)
    clear hK K
    refine norm_ (a' := ?_) ?_ ?_
    rotate_left
    · show Act.put _ (some 41) _ = _
      simp only [Act.put, List.setIfInBounds_toArray, List.set_cons_zero, List.set_cons_succ, i64_w, i32_w]
      rfl
    refine one_ (i := 8) (N := some 42) #[true, true, true, true, true, true, true, true, true, false, false, false] rfl rfl (by kernel_rfl) (by decide) (fun K hK => ?_)
    refine Kd.R_append_step Kd.string (w0 := W0) W0.heap.size (by rfl) (.tmp 38) (.tmp 41) 44 9 (.string ⟨#[]⟩) 16 rfl Tryd.underlying44 info9 rfl (by decide) (by omega) e0 (G.getD (G.length - 1) z53).f0 ⟨(lowL nm.data.toList).toArray⟩ [.string ⟨(lowL nm.data.toList).toArray⟩] (fun k => oki k ∨ True ∧ w4.heap.size ≤ k) (fun _ => False) rfl rfl rfl (fun _ hk => hk.elim) (fun k hk => .inr ⟨trivial, hk⟩) (Kd.R_mono HR04.out (fun _ hk => .inl hk)) HB4.out HB4.out.size (by have := hl0'; simp only [lastG] at this; omega) ?_
    intro v1 w5 ho hb5 hg hat
    have hgne : some g1 ≠ e0.ownBlock := fun e => hne g1 (HR04.out.1 g1 e.symm) rfl
    have HH5 := Aside0.mk (Kd.H_grown (Kd.H_widen HH4.out) hg (fun k hk => .inl (HR04.out.1 k hk)))
    have HR15 := Aside0.mk (Kd.R_mono (ok' := fun k => oki k ∨ True ∧ w4.heap.size ≤ k) (Kd.R_over' HR14.out (Kd.R_typed HR04.out) (by decide) hg) (fun _ hk => .inl hk))
    have Hm5 := Aside0.mk (blk_grown Hm4.out hg (Kd.R_ne HR04.out Hm4.out (by decide)))
    have hbk := hg.block g1 (World.block_lt_of_cell? _ _ hcA4) hgne
    have hcA5 : w5.cell? ⟨g1, (G.length - 1) * 3, none⟩ = some e0 := (World.cell?_of_block (w := w4) hbk).trans hcA4
    have hfr5 : w5.frozen? ⟨g1, (G.length - 1) * 3, none⟩ = false := (World.frozen?_of_block (w := w4) hbk).trans hfr4
    have hlt4 : Hid (g1 < w4.heap.size) := World.block_lt_of_cell? _ _ hcA4
    have ho5 := Aside0.mk ho
    have hone := (Kd.R_val ho).2
    have hv1 : ∃ A n c, v1 = .slice A n c := by obtain ⟨A, c, e⟩ := Kd.R_slice ho; exact ⟨A, _, c, e⟩
    refine hK.out _ _ hcA5 (fun hHeld => ?_)
    clear hK K
    refine norm_ (a' := ?_) ?_ ?_
    rotate_left
    · show Act.put _ (some 42) _ = _
      simp only [Act.put, List.setIfInBounds_toArray, List.set_cons_zero, List.set_cons_succ, i64_w, i32_w]
      rfl
    clear HH4 HR04 HR14 Hm4 HB4 hcA4 hfr4 hgne hg hat hbk ho
    obtain ⟨A1, N1, c1, rfl⟩ := hv1
    refine pure_ (i := 9) (N := some 43) (v := ?_) (a' := ?_) #[true, true, true, true, true, true, true, true, true, true, false, false] rfl rfl (by kernel_rfl) (fun _ _ _ h => h) (Or.inl ⟨by rfl, ?_⟩) ?_ ?_
    rotate_left
    · intro w'
      go_simp
      with_reducible rfl
    rotate_left
    · simp only [Act.put, List.setIfInBounds_toArray, List.set_cons_zero, List.set_cons_succ, i64_w, i32_w]
      rfl
    refine pure_ (i := 10) (N := some 44) (v := ?_) (a' := ?_) #[true, true, true, true, true, true, true, true, true, true, true, false] rfl rfl (by kernel_rfl) (fun _ _ _ h => h) (Or.inl ⟨by rfl, ?_⟩) ?_ ?_
    rotate_left
    · intro w'
      go_simp
      with_reducible rfl
    rotate_left
    · simp only [Act.put, List.setIfInBounds_toArray, List.set_cons_zero, List.set_cons_succ, i64_w, i32_w]
      rfl
    refine last_ (i := 11) (N := none) #[true, true, true, true, true, true, true, true, true, true, true, true] rfl rfl (by kernel_rfl) (by decide) (fun K hK => ?_)
    refine skip_ (w1 := ?_) (by rfl) rfl ?_ ?_
    rotate_left
    · go_simp
      rfl
    refine hK.out _ _ ?_
    clear hK K
    refine done_ (by kernel_rfl) ?_
    go_wp2
    go_end0
    have hput := last_put53 HH5.out hgs 0 (by omega) _ hone { lastG G with f0 := (lastG G).f0 ++ [⟨(lowL nm.data.toList).toArray⟩] } (k53_mkM _ _ _ _ ho5.out HR15.out) (fun k hk => hk.elim (hne k) (fun h e => by have := hlt4.out; have := h.2; omega))
    rw [hfin]
    rw [Nat.add_zero] at hput
    exact ⟨rfl, _, ⟨blk_far Hm5.out (Ne.symm hg1m) _, hB, hput.1, hb5.setCell (hB1) _⟩⟩
  | true =>
    have hgs : 0 < gs.length := List.length_pos_iff.mpr (hop rfl)
    obtain ⟨g1, cap1, rfl, hg1, _, hg1m⟩ := h.form hgs
    have hB1 := hg1
    have hc1 := blk_cell h.box 1
    simp only [List.getElem?_toArray, List.getElem?_cons_zero, List.getElem?_cons_succ] at hc1
    have HMk := h
    clear h
    have hfin : agentG gs true nm = setG gs { lastG gs with f0 := (lastG gs).f0 ++ [⟨(lowL nm.data.toList).toArray⟩] } := rfl
    have hl0' : (lastG gs).f0.length < 1000000 := by
      have : lastG gs ∈ gs := by
        unfold lastG
        rw [List.getD_eq_getElem?_getD, List.getElem?_eq_getElem (by omega)]
        exact List.getElem_mem _
      exact hl0 _ this
    have hll : gs.length < 1000001 := by omega
    go_enter Tryd.func25, Tryd.ntmps25
    go_upto_region 2 with (fail)
    clear hc1
    obtain ⟨hm2, _, hS2, hb2⟩ := HMk
    obtain ⟨oki, e0, e1, R0, R1, hcA, hcB, hcC, hfr, hne, hH⟩ := last_open53 hS2 hgs
    have hw1 : wrap64 ((gs.length : Int) - 1) = ((gs.length - 1 : Nat) : Int) := by simp only [wrap64]; omega
    have hw2 : IntKind.i64.wrap ((gs.length : Int) - 1) = ((gs.length - 1 : Nat) : Int) := by rw [i64_w]; exact hw1
    have hlt1 : (((gs.length - 1 : Nat) : Int) < (gs.length : Int)) = True := eq_true (by omega)
    have hc0 := blk_cell hm2 0
    simp only [List.getElem?_toArray, List.getElem?_cons_zero] at hc0
    have hadd : (⟨g1, 0, none⟩ : Addr).add ((gs.length - 1) * 3) = ⟨g1, (gs.length - 1) * 3, none⟩ := by unfold Addr.add; split <;> simp_all
    have HH := Aside0.mk hH
    have HR0 := Aside0.mk R0
    have HR1 := Aside0.mk R1
    have Hm2 := Aside0.mk hm2
    clear hH R0 R1 hS2 hm2
    go_wp2
    go_region
    go_wp2
    have HH3 := Aside0.mk (Kd.H_drew (Kd.H_drew HH.out))
    have HR03 := Aside0.mk (Kd.R_drew (Kd.R_drew HR0.out))
    have HR13 := Aside0.mk (Kd.R_drew (Kd.R_drew HR1.out))
    have Hm3 := Aside0.mk (show w.drew.drew.heap[m]? = _ from Hm2.out)
    have HB3 := Aside0.mk (below_drew1 (below_drew1 hb2))
    have hcA3 : w.drew.drew.cell? ⟨g1, (gs.length - 1) * 3, none⟩ = some e0 := hcA
    have hfr3 : w.drew.drew.frozen? ⟨g1, (gs.length - 1) * 3, none⟩ = false := hfr 0
    refine start_ (n := 12) (S := fun w' => w'.cell? ⟨g1, (gs.length - 1) * 3, none⟩ = some e0) (ds := [11]) #[false, false, false, false, false, false, false, false, false, false, false, false] (by kernel_rfl) rfl rfl hcA3 (fun hHeld => ?_)
    generalize w.drew.drew = w3 at HH3 HR03 HR13 Hm3 HB3 hcA3 hfr3 hHeld ⊢
    clear HH HR0 HR1 Hm2 hcA hcB hcC hfr hc0
    refine pure_ (i := 0) (N := some 34) (v := ?_) (a' := ?_) #[true, false, false, false, false, false, false, false, false, false, false, false] rfl rfl (by kernel_rfl) (fun _ _ _ h => h) (Or.inl ⟨by rfl, ?_⟩) ?_ ?_
    rotate_left
    · intro w'
      go_simp
      with_reducible rfl
    rotate_left
    · simp only [Act.put, List.setIfInBounds_toArray, List.set_cons_zero, List.set_cons_succ, i64_w, i32_w]
      rfl
    refine pure_ (i := 1) (N := some 35) (v := ?_) (a' := ?_) #[true, true, false, false, false, false, false, false, false, false, false, false] rfl rfl (by kernel_rfl) (fun _ _ _ h => h) (Or.inl ⟨by rfl, ?_⟩) ?_ ?_
    rotate_left
    · intro w'
      go_simp
      with_reducible rfl
    rotate_left
    · simp only [Act.put, List.setIfInBounds_toArray, List.set_cons_zero, List.set_cons_succ, i64_w, i32_w]
      rfl
    refine pure_ (i := 2) (N := some 36) (v := ?_) (a' := ?_) #[true, true, true, false, false, false, false, false, false, false, false, false] rfl rfl (by kernel_rfl) (fun _ _ _ h => h) (Or.inl ⟨by rfl, ?_⟩) ?_ ?_
    rotate_left
    · intro w'
      go_simp
      with_reducible rfl
    rotate_left
    · simp only [Act.put, List.setIfInBounds_toArray, List.set_cons_zero, List.set_cons_succ, i64_w, i32_w]
      rfl
    refine pure_ (i := 3) (N := some 37) (v := ?_) (a' := ?_) #[true, true, true, true, false, false, false, false, false, false, false, false] rfl rfl (by kernel_rfl) (fun _ _ _ h => h) (Or.inl ⟨by rfl, ?_⟩) ?_ ?_
    rotate_left
    · intro w'
      go_simp
      with_reducible rfl
    rotate_left
    · simp only [Act.put, List.setIfInBounds_toArray, List.set_cons_zero, List.set_cons_succ, i64_w, i32_w]
      rfl
    refine pure_ (i := 5) (N := some 39) (v := ?_) (a' := ?_) #[true, true, true, true, false, true, false, false, false, false, false, false] rfl rfl (by kernel_rfl) (fun _ _ _ h => h) (Or.inl ⟨by rfl, ?_⟩) ?_ ?_
    rotate_left
    · intro w'
      go_simp
      with_reducible rfl
    rotate_left
    · simp only [Act.put, List.setIfInBounds_toArray, List.set_cons_zero, List.set_cons_succ, i64_w, i32_w]
      rfl
    refine take_ (i := 4) (N := some 38) (v := ?_) (a' := ?_) #[true, true, true, true, true, true, false, false, false, false, false, false] rfl rfl (by kernel_rfl) (fun _ _ _ h => h) (Or.inl ⟨by rfl, ?_⟩) hHeld ?_ ?_
    rotate_left
    · rintro w' s0
      go_simp
      with_reducible rfl
    rotate_left
    · simp only [Act.put, List.setIfInBounds_toArray, List.set_cons_zero, List.set_cons_succ, i64_w, i32_w]
      rfl
    refine one_ (i := 6) (N := some 40) #[true, true, true, true, true, true, true, false, false, false, false, false] rfl rfl (by kernel_rfl) (by decide) (fun K hK => ?_)
    refine goes_ Tryd.func28 (by kernel_rfl) rfl #[.string nm] (by rfl) rfl rfl (by (try simp only [List.map_toArray, List.map_cons, List.map_nil]); first | done | rfl) ?_
    with_reducible refine (lines_lower.calls nm _ _ HL.out).mono ?_
    rintro e w4 ⟨rfl, hb4⟩
    refine ⟨_, rfl, ?_⟩
    have HH4 := Aside0.mk (Kd.H_below HH3.out hb4)
    have HR04 := Aside0.mk (Kd.R_below HR03.out hb4)
    have HR14 := Aside0.mk (Kd.R_below HR13.out hb4)
    have Hm4 := Aside0.mk (blk_below Hm3.out hb4)
    have HB4 := Aside0.mk (below_step HB3.out hb4)
    have hcA4 := (hb4.cell (World.block_lt_of_cell? _ _ hcA3)).trans hcA3
    have hfr4 : w4.frozen? ⟨g1, (gs.length - 1) * 3, none⟩ = false := (World.frozen?_of_block (w := w3) (hb4.block g1 (World.block_lt_of_cell? _ _ hcA3))).trans hfr3
    clear HH3 HR03 HR13 Hm3 HB3 hcA3 hfr3 hb4
    refine hK.out _ _ hcA4 (fun hHeld => ?_)
    clear hK K
    refine norm_ (a' := ?_) ?_ ?_
    rotate_left
    · show Act.put _ (some 40) _ = _
      simp only [Act.put, List.setIfInBounds_toArray, List.set_cons_zero, List.set_cons_succ, i64_w, i32_w]
      rfl
    refine one_ (i := 7) (N := some 41) #[true, true, true, true, true, true, true, true, false, false, false, false] rfl rfl (by kernel_rfl) (by decide) (fun K hK => ?_)
    refine value_ (w1 := ?_) (v := ?_) (by rfl) rfl ?_ ?_
    rotate_left 2
    · go_simp
      constructor
      · rfl
      · rfl
    refine hK.out _ _ ((World.cell?_alloc_lt _ _ _ (World.block_lt_of_cell? _ _ hcA4)).trans hcA4) (fun hHeld => ?_)
    clear hK K
    refine norm_ (a' := ?_) ?_ ?_
    rotate_left
    · show Act.put _ (some 41) _ = _
      simp only [Act.put, List.setIfInBounds_toArray, List.set_cons_zero, List.set_cons_succ, i64_w, i32_w]
      rfl
    refine one_ (i := 8) (N := some 42) #[true, true, true, true, true, true, true, true, true, false, false, false] rfl rfl (by kernel_rfl) (by decide) (fun K hK => ?_)
    refine Kd.R_append_step Kd.string (w0 := W0) W0.heap.size (by rfl) (.tmp 38) (.tmp 41) 44 9 (.string ⟨#[]⟩) 16 rfl Tryd.underlying44 info9 rfl (by decide) (by omega) e0 (gs.getD (gs.length - 1) z53).f0 ⟨(lowL nm.data.toList).toArray⟩ [.string ⟨(lowL nm.data.toList).toArray⟩] (fun k => oki k ∨ True ∧ w4.heap.size ≤ k) (fun _ => False) rfl rfl rfl (fun _ hk => hk.elim) (fun k hk => .inr ⟨trivial, hk⟩) (Kd.R_mono HR04.out (fun _ hk => .inl hk)) HB4.out HB4.out.size (by have := hl0'; simp only [lastG] at this; omega) ?_
    intro v1 w5 ho hb5 hg hat
    have hgne : some g1 ≠ e0.ownBlock := fun e => hne g1 (HR04.out.1 g1 e.symm) rfl
    have HH5 := Aside0.mk (Kd.H_grown (Kd.H_widen HH4.out) hg (fun k hk => .inl (HR04.out.1 k hk)))
    have HR15 := Aside0.mk (Kd.R_mono (ok' := fun k => oki k ∨ True ∧ w4.heap.size ≤ k) (Kd.R_over' HR14.out (Kd.R_typed HR04.out) (by decide) hg) (fun _ hk => .inl hk))
    have Hm5 := Aside0.mk (blk_grown Hm4.out hg (Kd.R_ne HR04.out Hm4.out (by decide)))
    have hbk := hg.block g1 (World.block_lt_of_cell? _ _ hcA4) hgne
    have hcA5 : w5.cell? ⟨g1, (gs.length - 1) * 3, none⟩ = some e0 := (World.cell?_of_block (w := w4) hbk).trans hcA4
    have hfr5 : w5.frozen? ⟨g1, (gs.length - 1) * 3, none⟩ = false := (World.frozen?_of_block (w := w4) hbk).trans hfr4
    have hlt4 : Hid (g1 < w4.heap.size) := World.block_lt_of_cell? _ _ hcA4
    have ho5 := Aside0.mk ho
    have hone := (Kd.R_val ho).2
    have hv1 : ∃ A n c, v1 = .slice A n c := by obtain ⟨A, c, e⟩ := Kd.R_slice ho; exact ⟨A, _, c, e⟩
    refine hK.out _ _ hcA5 (fun hHeld => ?_)
    clear hK K
    refine norm_ (a' := ?_) ?_ ?_
    rotate_left
    · show Act.put _ (some 42) _ = _
      simp only [Act.put, List.setIfInBounds_toArray, List.set_cons_zero, List.set_cons_succ, i64_w, i32_w]
      rfl
    clear HH4 HR04 HR14 Hm4 HB4 hcA4 hfr4 hgne hg hat hbk ho
    obtain ⟨A1, N1, c1, rfl⟩ := hv1
    refine pure_ (i := 9) (N := some 43) (v := ?_) (a' := ?_) #[true, true, true, true, true, true, true, true, true, true, false, false] rfl rfl (by kernel_rfl) (fun _ _ _ h => h) (Or.inl ⟨by rfl, ?_⟩) ?_ ?_
    rotate_left
    · intro w'
      go_simp
      with_reducible rfl
    rotate_left
    · simp only [Act.put, List.setIfInBounds_toArray, List.set_cons_zero, List.set_cons_succ, i64_w, i32_w]
      rfl
    refine pure_ (i := 10) (N := some 44) (v := ?_) (a' := ?_) #[true, true, true, true, true, true, true, true, true, true, true, false] rfl rfl (by kernel_rfl) (fun _ _ _ h => h) (Or.inl ⟨by rfl, ?_⟩) ?_ ?_
    rotate_left
    · intro w'
      go_simp
      with_reducible rfl
    rotate_left
    · simp only [Act.put, List.setIfInBounds_toArray, List.set_cons_zero, List.set_cons_succ, i64_w, i32_w]
      rfl
    refine last_ (i := 11) (N := none) #[true, true, true, true, true, true, true, true, true, true, true, true] rfl rfl (by kernel_rfl) (by decide) (fun K hK => ?_)
    refine skip_ (w1 := ?_) (by rfl) rfl ?_ ?_
    rotate_left
    · go_simp
      rfl
    refine hK.out _ _ ?_
    clear hK K
    refine done_ (by kernel_rfl) ?_
    go_wp2
    go_end0
    have hput := last_put53 HH5.out hgs 0 (by omega) _ hone { lastG gs with f0 := (lastG gs).f0 ++ [⟨(lowL nm.data.toList).toArray⟩] } (k53_mkM _ _ _ _ ho5.out HR15.out) (fun k hk => hk.elim (hne k) (fun h e => by have := hlt4.out; have := h.2; omega))
    rw [hfin]
    rw [Nat.add_zero] at hput
    exact ⟨rfl, _, ⟨blk_far Hm5.out (Ne.symm hg1m) _, hB, hput.1, hb5.setCell (hB1) _⟩⟩

set_option maxHeartbeats 8000000 in
set_option maxRecDepth 1000000 in
theorem add_calls (W0 w : World) (m : Nat) (gs : List S53) (op : Bool) (v : Value) (l : S40) (h : Mk W0 m gs op v w) (hn : l.f1.size < 140737488351233) (hl : gs.length < 1000000) (hS_ : Shp W0) :
    Calls Tryd.prog 26 #[.pointer (some ⟨m, 0, none⟩), .agg #[.string l.f0, .string l.f1]] w fun e w' => e = .returned (.tuple #[]) ∧ Mk W0 m (addG gs op l).1 (addG gs op l).2 v w' := by
  obtain ⟨kk, vv⟩ := l
  have hB := h.base
  have HSH := Aside0.mk hS_
  clear hS_
  have HM0 := Aside0.mk h
  by_cases hgs0 : gs = []
  · subst hgs0
    obtain ⟨A, c, rfl⟩ := h.len
    simp only [List.length_nil] at *
    clear h
    go_enter Tryd.func26, Tryd.ntmps26
    go_wp2_with (first | ((with_reducible refine gate_dst (N := 3) rfl ?_); refine box_event ?hg (N := 3) ?hd (cs := #[.string kk, .string vv]) (t := 40) ?hr ?_; (case hd => rfl); (case hg => rfl); (case hr => first | (go_simp; done) | (go_simp; rfl)); intro b3 hb3 w1 hbox hb; have HMK := Aside0.mk (HM0.out.step hb); have hc0 := blk_cell HMK.out.box 0; have hc1 := blk_cell HMK.out.box 1; have hf0 := blk_frozen HMK.out.box 0; have hf1 := blk_frozen HMK.out.box 1; simp only [List.getElem?_toArray, List.getElem?_cons_zero, List.getElem?_cons_succ] at hc0 hc1; have hk0 := blk_cell hbox 0; have hk1 := blk_cell hbox 1; simp only [List.getElem?_toArray, List.getElem?_cons_zero, List.getElem?_cons_succ] at hk0 hk1; have Hk := Aside0.mk hbox; clear hbox hb))
    refine bodyPost_ret (results_none rfl _ _ _) rfl ?_
    exact ⟨rfl, by simpa [addG] using HMK.out⟩
  have hgs : 0 < gs.length := List.length_pos_iff.mpr hgs0
  obtain ⟨g1, cap1, rfl, hg1, hg1l, hg1m⟩ := h.form hgs
  have hbm : w.heap.size ≠ m := by have := blk_lt h.box; omega
  have hbg : w.heap.size ≠ g1 := by omega
  clear h
  have hw1 : wrap64 ((gs.length : Int) - 1) = ((gs.length - 1 : Nat) : Int) := by simp only [wrap64]; omega
  have hw2 : IntKind.i64.wrap ((gs.length : Int) - 1) = ((gs.length - 1 : Nat) : Int) := by rw [i64_w]; exact hw1
  have hlt1 : (((gs.length - 1 : Nat) : Int) < (gs.length : Int)) = True := eq_true (by omega)
  have hadd : (⟨g1, 0, none⟩ : Addr).add ((gs.length - 1) * 3) = ⟨g1, (gs.length - 1) * 3, none⟩ := by unfold Addr.add; split <;> simp_all
  have hn0 : ((gs.length : Int) == 0) = false := by simp; exact hgs0
  go_enter Tryd.func26, Tryd.ntmps26
  go_upto_region 2 with (first | ((with_reducible refine gate_dst (N := 3) rfl ?_); refine box_event ?hg (N := 3) ?hd (cs := #[.string kk, .string vv]) (t := 40) ?hr ?_; (case hd => rfl); (case hg => rfl); (case hr => first | (go_simp; done) | (go_simp; rfl)); intro b3 hb3 w1 hbox hb; have HMK := Aside0.mk (HM0.out.step hb); have hc0 := blk_cell HMK.out.box 0; have hc1 := blk_cell HMK.out.box 1; have hf0 := blk_frozen HMK.out.box 0; have hf1 := blk_frozen HMK.out.box 1; simp only [List.getElem?_toArray, List.getElem?_cons_zero, List.getElem?_cons_succ] at hc0 hc1; have hk0 := blk_cell hbox 0; have hk1 := blk_cell hbox 1; simp only [List.getElem?_toArray, List.getElem?_cons_zero, List.getElem?_cons_succ] at hk0 hk1; have Hk := Aside0.mk hbox; clear hbox hb))
  go_wp2
  go_region
  have HMK2 : Aside0 (Mk W0 m gs op (.slice (some ⟨g1, 0, none⟩) gs.length cap1) w1.drew) := ⟨HMK.out.step (below_drew1 (Below.refl _ _))⟩
  have Hk2 : Aside0 (w1.drew.heap[w.heap.size]? = some (.cells #[.string kk, .string vv] 40 (0, 0))) := ⟨by rw [← hb3]; exact Hk.out⟩
  generalize w1.drew = w2 at HMK2 Hk2 ⊢
  clear hc0 hc1 hf0 hf1 hk0 hk1 HMK Hk
  have hc0 := blk_cell HMK2.out.box 0
  have hc1 := blk_cell HMK2.out.box 1
  have hf0 := blk_frozen HMK2.out.box 0
  have hf1 := blk_frozen HMK2.out.box 1
  have hk0 := blk_cell Hk2.out 0
  have hk1 := blk_cell Hk2.out 1
  simp only [List.getElem?_toArray, List.getElem?_cons_zero, List.getElem?_cons_succ] at hc0 hc1 hk0 hk1
  clear hb3
  try clear b3
  by_cases hA : (kk.toList == sAllow) = true ∨ (kk.toList == sDis) = true
  · have hAD : ∃ isA : Bool, (kk.toList == sAllow) = isA ∧ ((kk.toList == [97, 108, 108, 111, 119]) = true ∧ isA = true ∨ (kk.toList == [97, 108, 108, 111, 119]) = false ∧ (kk.toList == [100, 105, 115, 97, 108, 108, 111, 119]) = true ∧ isA = false) := by
      cases h1 : (kk.toList == sAllow) with
      | true => exact ⟨true, rfl, .inl ⟨h1, rfl⟩⟩
      | false => exact ⟨false, rfl, .inr ⟨h1, by rcases hA with h | h; rw [h1] at h; cases h; exact h, rfl⟩⟩
    obtain ⟨isA, hisA, hAD⟩ := hAD
    rcases hAD with ⟨hk, rfl⟩ | ⟨hk, hk', rfl⟩
    · have hfin1 : ∀ x, (if vv.toList.isEmpty = false ∧ (lastG gs).f1.length < 64 then setG gs { lastG gs with f1 := (lastG gs).f1 ++ [⟨kk.toList == sAllow, vv⟩] } else gs) = x → addG gs op ⟨kk, vv⟩ = (x, false) := by intro x hx; simp only [addG]; rw [if_neg hgs0, if_pos hA, hx]
      rw [hisA] at hfin1
      clear hA hisA
      go_upto_region 7 with (fail)
      have HM3 := Aside0.mk (HMK2.out.shut false)
      have Hk3 := Aside0.mk (blk_far Hk2.out (p := ⟨m, 1, none⟩) hbm (.bool false))
      generalize (w2.setCell ⟨m, 1, none⟩ (.bool false)) = w3 at HM3 Hk3 ⊢
      clear hc0 hc1 hf0 hf1 hk0 hk1 HMK2 Hk2
      have hk0 := blk_cell Hk3.out 0
      have hk1 := blk_cell Hk3.out 1
      simp only [List.getElem?_toArray, List.getElem?_cons_zero, List.getElem?_cons_succ] at hk0 hk1
      obtain ⟨oki, e0, e1, R0, R1, hcA, hcB, hcC, hfr, hne, hH⟩ := last_open53 HM3.out.row hgs
      obtain ⟨A1, c1, he1⟩ := Kd.R_slice R1
      obtain ⟨N1, hN1⟩ : ∃ N, N = (gs.getD (gs.length - 1) z53).f1.length := ⟨_, rfl⟩
      rw [← hN1] at he1
      subst he1
      replace hN1 : Hid (N1 = (gs.getD (gs.length - 1) z53).f1.length) := hN1
      by_cases hv : vv.toList.isEmpty = false ∧ N1 < 64
      · obtain ⟨hv1, hv2⟩ := hv
        have hfin := hfin1 _ (if_pos ⟨hv1, by have := hN1.out; show (gs.getD (gs.length - 1) z53).f1.length < 64; omega⟩)
        have hv3 : ((N1 : Int) < 64) = True := eq_true (by omega)
        have hv4 : (vv.toList = []) = False := eq_false (by intro e; rw [e] at hv1; cases hv1)
        have HH := Aside0.mk hH
        have HR0 := Aside0.mk R0
        have HR1 := Aside0.mk R1
        have hB2 := HM3.out.below
        have hcB0 := hcB
        have hfr1 := hfr 1
        clear hH R0 R1 hcA hcC hfr hfin1
        go_wp2
        have HH3 := Aside0.mk (Kd.H_drew HH.out)
        have HR03 := Aside0.mk (Kd.R_drew HR0.out)
        have HR13 := Aside0.mk (Kd.R_drew HR1.out)
        have HM4 := Aside0.mk (HM3.out.step (below_drew1 (Below.refl _ _)))
        have hcB3 : w3.drew.cell? ⟨g1, (gs.length - 1) * 3 + 1, none⟩ = some (.slice A1 N1 c1) := hcB
        have hfr3 : w3.drew.frozen? ⟨g1, (gs.length - 1) * 3 + 1, none⟩ = false := hfr1
        have hk03 : w3.drew.cell? ⟨w.heap.size, 0, none⟩ = some (.string kk) := hk0
        have hk13 : w3.drew.cell? ⟨w.heap.size, 1, none⟩ = some (.string vv) := hk1
        have Hk4 : Aside0 (w3.drew.heap[w.heap.size]? = some (.cells #[.string kk, .string vv] 40 (0, 0))) := ⟨Hk3.out⟩
        refine start_ (n := 16) (S := fun w' => w'.cell? ⟨g1, (gs.length - 1) * 3 + 1, none⟩ = some (.slice A1 N1 c1) ∧ w'.cell? ⟨w.heap.size, 0, none⟩ = some (.string kk) ∧ w'.cell? ⟨w.heap.size, 1, none⟩ = some (.string vv)) (ds := [15]) #[false, false, false, false, false, false, false, false, false, false, false, false, false, false, false, false] (by kernel_rfl) rfl rfl ⟨hcB3, hk03, hk13⟩ (fun hHeld => ?_)
        generalize w3.drew = w4 at HH3 HR03 HR13 HM4 Hk4 hcB3 hfr3 hk03 hk13 hHeld ⊢
        clear HH HR0 HR1 hcB hcB0 hfr1 hk0 hk1 HM3 Hk3
        refine pure_ (i := 0) (N := some 43) (v := ?_) (a' := ?_) #[true, false, false, false, false, false, false, false, false, false, false, false, false, false, false, false] rfl rfl (by kernel_rfl) (fun _ _ _ h => h) (Or.inl ⟨by rfl, ?_⟩) ?_ ?_
        rotate_left
        · intro w'
          go_simp
          with_reducible rfl
        rotate_left
        · simp only [Act.put, List.setIfInBounds_toArray, List.set_cons_zero, List.set_cons_succ, i64_w, i32_w]
          rfl
        refine pure_ (i := 1) (N := some 44) (v := ?_) (a' := ?_) #[true, true, false, false, false, false, false, false, false, false, false, false, false, false, false, false] rfl rfl (by kernel_rfl) (fun _ _ _ h => h) (Or.inl ⟨by rfl, ?_⟩) ?_ ?_
        rotate_left
        · intro w'
          go_simp
          with_reducible rfl
        rotate_left
        · simp only [Act.put, List.setIfInBounds_toArray, List.set_cons_zero, List.set_cons_succ, i64_w, i32_w]
          rfl
        refine pure_ (i := 2) (N := some 45) (v := ?_) (a' := ?_) #[true, true, true, false, false, false, false, false, false, false, false, false, false, false, false, false] rfl rfl (by kernel_rfl) (fun _ _ _ h => h) (Or.inl ⟨by rfl, ?_⟩) ?_ ?_
        rotate_left
        · intro w'
          go_simp
          with_reducible rfl
        rotate_left
        · simp only [Act.put, List.setIfInBounds_toArray, List.set_cons_zero, List.set_cons_succ, i64_w, i32_w]
          rfl
        refine pure_ (i := 3) (N := some 46) (v := ?_) (a' := ?_) #[true, true, true, true, false, false, false, false, false, false, false, false, false, false, false, false] rfl rfl (by kernel_rfl) (fun _ _ _ h => h) (Or.inl ⟨by rfl, ?_⟩) ?_ ?_
        rotate_left
        · intro w'
          go_simp
          with_reducible rfl
        rotate_left
        · simp only [Act.put, List.setIfInBounds_toArray, List.set_cons_zero, List.set_cons_succ, i64_w, i32_w]
          rfl
        refine pure_ (i := 5) (N := some 48) (v := ?_) (a' := ?_) #[true, true, true, true, false, true, false, false, false, false, false, false, false, false, false, false] rfl rfl (by kernel_rfl) (fun _ _ _ h => h) (Or.inl ⟨by rfl, ?_⟩) ?_ ?_
        rotate_left
        · intro w'
          go_simp
          with_reducible rfl
        rotate_left
        · simp only [Act.put, List.setIfInBounds_toArray, List.set_cons_zero, List.set_cons_succ, i64_w, i32_w]
          rfl
        refine pure_ (i := 8) (N := some 51) (v := ?_) (a' := ?_) #[true, true, true, true, false, true, false, false, true, false, false, false, false, false, false, false] rfl rfl (by kernel_rfl) (fun _ _ _ h => h) (Or.inl ⟨by rfl, ?_⟩) ?_ ?_
        rotate_left
        · intro w'
          go_simp
          with_reducible rfl
        rotate_left
        · simp only [Act.put, List.setIfInBounds_toArray, List.set_cons_zero, List.set_cons_succ, i64_w, i32_w]
          rfl
        refine take_ (i := 4) (N := some 47) (v := ?_) (a' := ?_) #[true, true, true, true, true, true, false, false, true, false, false, false, false, false, false, false] rfl rfl (by kernel_rfl) (fun _ _ _ h => h) (Or.inl ⟨by rfl, ?_⟩) hHeld ?_ ?_
        rotate_left
        · rintro w' ⟨s0, s1, s2⟩
          go_simp
          with_reducible rfl
        rotate_left
        · simp only [Act.put, List.setIfInBounds_toArray, List.set_cons_zero, List.set_cons_succ, i64_w, i32_w]
          rfl
        refine take_ (i := 6) (N := some 49) (v := ?_) (a' := ?_) #[true, true, true, true, true, true, true, false, true, false, false, false, false, false, false, false] rfl rfl (by kernel_rfl) (fun _ _ _ h => h) (Or.inl ⟨by rfl, ?_⟩) hHeld ?_ ?_
        rotate_left
        · rintro w' ⟨s0, s1, s2⟩
          go_simp
          with_reducible rfl
        rotate_left
        · simp only [Act.put, List.setIfInBounds_toArray, List.set_cons_zero, List.set_cons_succ, i64_w, i32_w]
          rfl
        refine take_ (i := 9) (N := some 52) (v := ?_) (a' := ?_) #[true, true, true, true, true, true, true, false, true, true, false, false, false, false, false, false] rfl rfl (by kernel_rfl) (fun _ _ _ h => h) (Or.inl ⟨by rfl, ?_⟩) hHeld ?_ ?_
        rotate_left
        · rintro w' ⟨s0, s1, s2⟩
          go_simp
          with_reducible rfl
        rotate_left
        · simp only [Act.put, List.setIfInBounds_toArray, List.set_cons_zero, List.set_cons_succ, i64_w, i32_w]
          rfl
        refine pure_ (i := 7) (N := some 50) (v := ?_) (a' := ?_) #[true, true, true, true, true, true, true, true, true, true, false, false, false, false, false, false] rfl rfl (by kernel_rfl) (fun _ _ _ h => h) (Or.inl ⟨by rfl, ?_⟩) ?_ ?_
        rotate_left
        · intro w'
          go_simp
          with_reducible rfl
        rotate_left
        · simp only [Act.put, List.setIfInBounds_toArray, List.set_cons_zero, List.set_cons_succ, i64_w, i32_w]
          rfl
        refine pure_ (i := 10) (N := some 53) (v := ?_) (a' := ?_) #[true, true, true, true, true, true, true, true, true, true, true, false, false, false, false, false] rfl rfl (by kernel_rfl) (fun _ _ _ h => h) (Or.inl ⟨by rfl, ?_⟩) ?_ ?_
        rotate_left
        · intro w'
          go_simp
          with_reducible rfl
        rotate_left
        · simp only [Act.put, List.setIfInBounds_toArray, List.set_cons_zero, List.set_cons_succ, i64_w, i32_w]
          rfl
        refine one_ (i := 11) (N := some 54) #[true, true, true, true, true, true, true, true, true, true, true, true, false, false, false, false] rfl rfl (by kernel_rfl) (by decide) (fun K hK => ?_)
        refine value_ (w1 := ?_) (v := ?_) (by rfl) rfl ?_ ?_
        rotate_left 2
        · go_simp
          constructor
          · rfl
          · rfl
        refine hK.out _ _ ⟨(World.cell?_alloc_lt _ _ _ (World.block_lt_of_cell? _ _ hcB3)).trans hcB3, (World.cell?_alloc_lt _ _ _ (World.block_lt_of_cell? _ _ hk03)).trans hk03, (World.cell?_alloc_lt _ _ _ (World.block_lt_of_cell? _ _ hk13)).trans hk13⟩ (fun hHeld => ?_)
        clear hK K
        refine norm_ (a' := ?_) ?_ ?_
        rotate_left
        · show Act.put _ (some 54) _ = _
          simp only [Act.put, List.setIfInBounds_toArray, List.set_cons_zero, List.set_cons_succ, i64_w, i32_w]
          rfl
        refine one_ (i := 12) (N := some 55) #[true, true, true, true, true, true, true, true, true, true, true, true, true, false, false, false] rfl rfl (by kernel_rfl) (by decide) (fun K hK => ?_)
        refine Kd.R_append_step k59 (w0 := W0) W0.heap.size (by rfl) (.tmp 47) (.tmp 54) 51 59 (.agg #[.bool false, .string ⟨#[]⟩]) 24 rfl Tryd.underlying51 info59 rfl (by decide) (by omega) (.slice A1 N1 c1) (gs.getD (gs.length - 1) z53).f1 ⟨true, vv⟩ [.bool true, .string vv] (fun k => oki k ∨ True ∧ w4.heap.size ≤ k) (fun _ => False) rfl rfl (k59_mkM _ _ _ _) (fun _ hk => hk.elim) (fun k hk => .inr ⟨trivial, hk⟩) (Kd.R_mono HR13.out (fun _ hk => .inl hk)) HM4.out.below HM4.out.below.size (by have := hN1.out; omega) ?_
        intro v1 w5 ho hb5 hg hat
        have hgne : some g1 ≠ (Value.slice A1 N1 c1).ownBlock := fun e => hne g1 (HR13.out.1 g1 e.symm) rfl
        have HH5 := Aside0.mk (Kd.H_grown (Kd.H_widen HH3.out) hg (fun k hk => .inl (HR13.out.1 k hk)))
        have HR05 := Aside0.mk (Kd.R_mono (ok' := fun k => oki k ∨ True ∧ w4.heap.size ≤ k) (Kd.R_over' HR03.out (Kd.R_typed HR13.out) (by decide) hg) (fun _ hk => .inl hk))
        have Hm5 := Aside0.mk (blk_grown HM4.out.box hg (Kd.R_ne HR13.out HM4.out.box (by decide)))
        have hbk := hg.block g1 (World.block_lt_of_cell? _ _ hcB3) hgne
        have hbk3 := hg.block w.heap.size (World.block_lt_of_cell? _ _ hk03) (Kd.R_ne HR13.out Hk4.out (by decide))
        have hcB5 : w5.cell? ⟨g1, (gs.length - 1) * 3 + 1, none⟩ = some (.slice A1 N1 c1) := (World.cell?_of_block (w := w4) hbk).trans hcB3
        have hfr5 : w5.frozen? ⟨g1, (gs.length - 1) * 3 + 1, none⟩ = false := (World.frozen?_of_block (w := w4) hbk).trans hfr3
        have hk05 : w5.cell? ⟨w.heap.size, 0, none⟩ = some (.string kk) := (World.cell?_of_block (w := w4) hbk3).trans hk03
        have hk15 : w5.cell? ⟨w.heap.size, 1, none⟩ = some (.string vv) := (World.cell?_of_block (w := w4) hbk3).trans hk13
        have hlt4 : Hid (g1 < w4.heap.size) := World.block_lt_of_cell? _ _ hcB3
        have ho5 := Aside0.mk ho
        have hone := (Kd.R_val ho).2
        have hv1 : ∃ A n c, v1 = .slice A n c := by obtain ⟨A, c, e⟩ := Kd.R_slice ho; exact ⟨A, _, c, e⟩
        refine hK.out _ _ ⟨hcB5, hk05, hk15⟩ (fun hHeld => ?_)
        clear hK K
        refine norm_ (a' := ?_) ?_ ?_
        rotate_left
        · show Act.put _ (some 55) _ = _
          simp only [Act.put, List.setIfInBounds_toArray, List.set_cons_zero, List.set_cons_succ, i64_w, i32_w]
          rfl
        clear HH3 HR03 HR13 HM4 hcB3 hfr3 hgne hg hat hbk hbk3 ho hk03 hk13
        obtain ⟨A2, N2, c2, rfl⟩ := hv1
        refine pure_ (i := 13) (N := some 56) (v := ?_) (a' := ?_) #[true, true, true, true, true, true, true, true, true, true, true, true, true, true, false, false] rfl rfl (by kernel_rfl) (fun _ _ _ h => h) (Or.inl ⟨by rfl, ?_⟩) ?_ ?_
        rotate_left
        · intro w'
          go_simp
          with_reducible rfl
        rotate_left
        · simp only [Act.put, List.setIfInBounds_toArray, List.set_cons_zero, List.set_cons_succ, i64_w, i32_w]
          rfl
        refine pure_ (i := 14) (N := some 57) (v := ?_) (a' := ?_) #[true, true, true, true, true, true, true, true, true, true, true, true, true, true, true, false] rfl rfl (by kernel_rfl) (fun _ _ _ h => h) (Or.inl ⟨by rfl, ?_⟩) ?_ ?_
        rotate_left
        · intro w'
          go_simp
          with_reducible rfl
        rotate_left
        · simp only [Act.put, List.setIfInBounds_toArray, List.set_cons_zero, List.set_cons_succ, i64_w, i32_w]
          rfl
        refine last_ (i := 15) (N := none) #[true, true, true, true, true, true, true, true, true, true, true, true, true, true, true, true] rfl rfl (by kernel_rfl) (by decide) (fun K hK => ?_)
        refine skip_ (w1 := ?_) (by rfl) rfl ?_ ?_
        rotate_left
        · go_simp
          rfl
        refine hK.out _ _ ?_
        clear hK K
        refine done_ (by kernel_rfl) ?_
        go_wp2
        go_end0
        have hput := last_put53 HH5.out hgs 1 (by omega) _ hone { lastG gs with f1 := (lastG gs).f1 ++ [⟨true, vv⟩] } (k53_mkM _ _ _ ({ lastG gs with f1 := (lastG gs).f1 ++ [⟨true, vv⟩] } : S53) HR05.out ho5.out) (fun k hk => hk.elim (hne k) (fun h e => by have := hlt4.out; have := h.2; omega))
        rw [hfin]
        exact ⟨rfl, ⟨blk_far Hm5.out (Ne.symm hg1m) _, hB, hput.1, hb5.setCell hg1 _⟩⟩
      · have hfin := hfin1 _ (if_neg (fun hh => hv ⟨hh.1, by have h2 : (gs.getD (gs.length - 1) z53).f1.length < 64 := hh.2; have := hN1.out; omega⟩))
        have key : vv.toList.isEmpty = true ∨ (vv.toList.isEmpty = false ∧ ((N1 : Int) < 64) = False) := by cases h : vv.toList.isEmpty; exact .inr ⟨rfl, eq_false (fun h2 => hv ⟨h, by omega⟩)⟩; exact .inl rfl
        clear hH R0 R1 hcA hcC hfr hfin1 hv
        rcases key with hv1 | ⟨hv1, hv3⟩
        · have hv4 : (vv.toList = []) = True := eq_true (by simpa using hv1)
          go_wp2
          go_end0
          rw [hfin]
          exact ⟨rfl, HM3.out⟩
        · have hv4 : (vv.toList = []) = False := eq_false (by intro e; rw [e] at hv1; cases hv1)
          go_wp2
          go_end0
          rw [hfin]
          exact ⟨rfl, HM3.out⟩
    · have hfin1 : ∀ x, (if vv.toList.isEmpty = false ∧ (lastG gs).f1.length < 64 then setG gs { lastG gs with f1 := (lastG gs).f1 ++ [⟨kk.toList == sAllow, vv⟩] } else gs) = x → addG gs op ⟨kk, vv⟩ = (x, false) := by intro x hx; simp only [addG]; rw [if_neg hgs0, if_pos hA, hx]
      rw [hisA] at hfin1
      clear hA hisA
      go_upto_region 7 with (fail)
      have HM3 := Aside0.mk (HMK2.out.shut false)
      have Hk3 := Aside0.mk (blk_far Hk2.out (p := ⟨m, 1, none⟩) hbm (.bool false))
      generalize (w2.setCell ⟨m, 1, none⟩ (.bool false)) = w3 at HM3 Hk3 ⊢
      clear hc0 hc1 hf0 hf1 hk0 hk1 HMK2 Hk2
      have hk0 := blk_cell Hk3.out 0
      have hk1 := blk_cell Hk3.out 1
      simp only [List.getElem?_toArray, List.getElem?_cons_zero, List.getElem?_cons_succ] at hk0 hk1
      obtain ⟨oki, e0, e1, R0, R1, hcA, hcB, hcC, hfr, hne, hH⟩ := last_open53 HM3.out.row hgs
      obtain ⟨A1, c1, he1⟩ := Kd.R_slice R1
      obtain ⟨N1, hN1⟩ : ∃ N, N = (gs.getD (gs.length - 1) z53).f1.length := ⟨_, rfl⟩
      rw [← hN1] at he1
      subst he1
      replace hN1 : Hid (N1 = (gs.getD (gs.length - 1) z53).f1.length) := hN1
      by_cases hv : vv.toList.isEmpty = false ∧ N1 < 64
      · obtain ⟨hv1, hv2⟩ := hv
        have hfin := hfin1 _ (if_pos ⟨hv1, by have := hN1.out; show (gs.getD (gs.length - 1) z53).f1.length < 64; omega⟩)
        have hv3 : ((N1 : Int) < 64) = True := eq_true (by omega)
        have hv4 : (vv.toList = []) = False := eq_false (by intro e; rw [e] at hv1; cases hv1)
        have HH := Aside0.mk hH
        have HR0 := Aside0.mk R0
        have HR1 := Aside0.mk R1
        have hB2 := HM3.out.below
        have hcB0 := hcB
        have hfr1 := hfr 1
        clear hH R0 R1 hcA hcC hfr hfin1
        go_wp2
        have HH3 := Aside0.mk (Kd.H_drew HH.out)
        have HR03 := Aside0.mk (Kd.R_drew HR0.out)
        have HR13 := Aside0.mk (Kd.R_drew HR1.out)
        have HM4 := Aside0.mk (HM3.out.step (below_drew1 (Below.refl _ _)))
        have hcB3 : w3.drew.cell? ⟨g1, (gs.length - 1) * 3 + 1, none⟩ = some (.slice A1 N1 c1) := hcB
        have hfr3 : w3.drew.frozen? ⟨g1, (gs.length - 1) * 3 + 1, none⟩ = false := hfr1
        have hk03 : w3.drew.cell? ⟨w.heap.size, 0, none⟩ = some (.string kk) := hk0
        have hk13 : w3.drew.cell? ⟨w.heap.size, 1, none⟩ = some (.string vv) := hk1
        have Hk4 : Aside0 (w3.drew.heap[w.heap.size]? = some (.cells #[.string kk, .string vv] 40 (0, 0))) := ⟨Hk3.out⟩
        refine start_ (n := 16) (S := fun w' => w'.cell? ⟨g1, (gs.length - 1) * 3 + 1, none⟩ = some (.slice A1 N1 c1) ∧ w'.cell? ⟨w.heap.size, 0, none⟩ = some (.string kk) ∧ w'.cell? ⟨w.heap.size, 1, none⟩ = some (.string vv)) (ds := [15]) #[false, false, false, false, false, false, false, false, false, false, false, false, false, false, false, false] (by kernel_rfl) rfl rfl ⟨hcB3, hk03, hk13⟩ (fun hHeld => ?_)
        generalize w3.drew = w4 at HH3 HR03 HR13 HM4 Hk4 hcB3 hfr3 hk03 hk13 hHeld ⊢
        clear HH HR0 HR1 hcB hcB0 hfr1 hk0 hk1 HM3 Hk3
        refine pure_ (i := 0) (N := some 43) (v := ?_) (a' := ?_) #[true, false, false, false, false, false, false, false, false, false, false, false, false, false, false, false] rfl rfl (by kernel_rfl) (fun _ _ _ h => h) (Or.inl ⟨by rfl, ?_⟩) ?_ ?_
        rotate_left
        · intro w'
          go_simp
          with_reducible rfl
        rotate_left
        · simp only [Act.put, List.setIfInBounds_toArray, List.set_cons_zero, List.set_cons_succ, i64_w, i32_w]
          rfl
        refine pure_ (i := 1) (N := some 44) (v := ?_) (a' := ?_) #[true, true, false, false, false, false, false, false, false, false, false, false, false, false, false, false] rfl rfl (by kernel_rfl) (fun _ _ _ h => h) (Or.inl ⟨by rfl, ?_⟩) ?_ ?_
        rotate_left
        · intro w'
          go_simp
          with_reducible rfl
        rotate_left
        · simp only [Act.put, List.setIfInBounds_toArray, List.set_cons_zero, List.set_cons_succ, i64_w, i32_w]
          rfl
        refine pure_ (i := 2) (N := some 45) (v := ?_) (a' := ?_) #[true, true, true, false, false, false, false, false, false, false, false, false, false, false, false, false] rfl rfl (by kernel_rfl) (fun _ _ _ h => h) (Or.inl ⟨by rfl, ?_⟩) ?_ ?_
        rotate_left
        · intro w'
          go_simp
          with_reducible rfl
        rotate_left
        · simp only [Act.put, List.setIfInBounds_toArray, List.set_cons_zero, List.set_cons_succ, i64_w, i32_w]
          rfl
        refine pure_ (i := 3) (N := some 46) (v := ?_) (a' := ?_) #[true, true, true, true, false, false, false, false, false, false, false, false, false, false, false, false] rfl rfl (by kernel_rfl) (fun _ _ _ h => h) (Or.inl ⟨by rfl, ?_⟩) ?_ ?_
        rotate_left
        · intro w'
          go_simp
          with_reducible rfl
        rotate_left
        · simp only [Act.put, List.setIfInBounds_toArray, List.set_cons_zero, List.set_cons_succ, i64_w, i32_w]
          rfl
        refine pure_ (i := 5) (N := some 48) (v := ?_) (a' := ?_) #[true, true, true, true, false, true, false, false, false, false, false, false, false, false, false, false] rfl rfl (by kernel_rfl) (fun _ _ _ h => h) (Or.inl ⟨by rfl, ?_⟩) ?_ ?_
        rotate_left
        · intro w'
          go_simp
          with_reducible rfl
        rotate_left
        · simp only [Act.put, List.setIfInBounds_toArray, List.set_cons_zero, List.set_cons_succ, i64_w, i32_w]
          rfl
        refine pure_ (i := 8) (N := some 51) (v := ?_) (a' := ?_) #[true, true, true, true, false, true, false, false, true, false, false, false, false, false, false, false] rfl rfl (by kernel_rfl) (fun _ _ _ h => h) (Or.inl ⟨by rfl, ?_⟩) ?_ ?_
        rotate_left
        · intro w'
          go_simp
          with_reducible rfl
        rotate_left
        · simp only [Act.put, List.setIfInBounds_toArray, List.set_cons_zero, List.set_cons_succ, i64_w, i32_w]
          rfl
        refine take_ (i := 4) (N := some 47) (v := ?_) (a' := ?_) #[true, true, true, true, true, true, false, false, true, false, false, false, false, false, false, false] rfl rfl (by kernel_rfl) (fun _ _ _ h => h) (Or.inl ⟨by rfl, ?_⟩) hHeld ?_ ?_
        rotate_left
        · rintro w' ⟨s0, s1, s2⟩
          go_simp
          with_reducible rfl
        rotate_left
        · simp only [Act.put, List.setIfInBounds_toArray, List.set_cons_zero, List.set_cons_succ, i64_w, i32_w]
          rfl
        refine take_ (i := 6) (N := some 49) (v := ?_) (a' := ?_) #[true, true, true, true, true, true, true, false, true, false, false, false, false, false, false, false] rfl rfl (by kernel_rfl) (fun _ _ _ h => h) (Or.inl ⟨by rfl, ?_⟩) hHeld ?_ ?_
        rotate_left
        · rintro w' ⟨s0, s1, s2⟩
          go_simp
          with_reducible rfl
        rotate_left
        · simp only [Act.put, List.setIfInBounds_toArray, List.set_cons_zero, List.set_cons_succ, i64_w, i32_w]
          rfl
        refine take_ (i := 9) (N := some 52) (v := ?_) (a' := ?_) #[true, true, true, true, true, true, true, false, true, true, false, false, false, false, false, false] rfl rfl (by kernel_rfl) (fun _ _ _ h => h) (Or.inl ⟨by rfl, ?_⟩) hHeld ?_ ?_
        rotate_left
        · rintro w' ⟨s0, s1, s2⟩
          go_simp
          with_reducible rfl
        rotate_left
        · simp only [Act.put, List.setIfInBounds_toArray, List.set_cons_zero, List.set_cons_succ, i64_w, i32_w]
          rfl
        refine pure_ (i := 7) (N := some 50) (v := ?_) (a' := ?_) #[true, true, true, true, true, true, true, true, true, true, false, false, false, false, false, false] rfl rfl (by kernel_rfl) (fun _ _ _ h => h) (Or.inl ⟨by rfl, ?_⟩) ?_ ?_
        rotate_left
        · intro w'
          go_simp
          with_reducible rfl
        rotate_left
        · simp only [Act.put, List.setIfInBounds_toArray, List.set_cons_zero, List.set_cons_succ, i64_w, i32_w]
          rfl
        refine pure_ (i := 10) (N := some 53) (v := ?_) (a' := ?_) #[true, true, true, true, true, true, true, true, true, true, true, false, false, false, false, false] rfl rfl (by kernel_rfl) (fun _ _ _ h => h) (Or.inl ⟨by rfl, ?_⟩) ?_ ?_
        rotate_left
        · intro w'
          go_simp
          with_reducible rfl
        rotate_left
        · simp only [Act.put, List.setIfInBounds_toArray, List.set_cons_zero, List.set_cons_succ, i64_w, i32_w]
          rfl
        refine one_ (i := 11) (N := some 54) #[true, true, true, true, true, true, true, true, true, true, true, true, false, false, false, false] rfl rfl (by kernel_rfl) (by decide) (fun K hK => ?_)
        refine value_ (w1 := ?_) (v := ?_) (by rfl) rfl ?_ ?_
        rotate_left 2
        · go_simp
          constructor
          · rfl
          · rfl
        refine hK.out _ _ ⟨(World.cell?_alloc_lt _ _ _ (World.block_lt_of_cell? _ _ hcB3)).trans hcB3, (World.cell?_alloc_lt _ _ _ (World.block_lt_of_cell? _ _ hk03)).trans hk03, (World.cell?_alloc_lt _ _ _ (World.block_lt_of_cell? _ _ hk13)).trans hk13⟩ (fun hHeld => ?_)
        clear hK K
        refine norm_ (a' := ?_) ?_ ?_
        rotate_left
        · show Act.put _ (some 54) _ = _
          simp only [Act.put, List.setIfInBounds_toArray, List.set_cons_zero, List.set_cons_succ, i64_w, i32_w]
          rfl
        refine one_ (i := 12) (N := some 55) #[true, true, true, true, true, true, true, true, true, true, true, true, true, false, false, false] rfl rfl (by kernel_rfl) (by decide) (fun K hK => ?_)
        refine Kd.R_append_step k59 (w0 := W0) W0.heap.size (by rfl) (.tmp 47) (.tmp 54) 51 59 (.agg #[.bool false, .string ⟨#[]⟩]) 24 rfl Tryd.underlying51 info59 rfl (by decide) (by omega) (.slice A1 N1 c1) (gs.getD (gs.length - 1) z53).f1 ⟨false, vv⟩ [.bool false, .string vv] (fun k => oki k ∨ True ∧ w4.heap.size ≤ k) (fun _ => False) rfl rfl (k59_mkM _ _ _ _) (fun _ hk => hk.elim) (fun k hk => .inr ⟨trivial, hk⟩) (Kd.R_mono HR13.out (fun _ hk => .inl hk)) HM4.out.below HM4.out.below.size (by have := hN1.out; omega) ?_
        intro v1 w5 ho hb5 hg hat
        have hgne : some g1 ≠ (Value.slice A1 N1 c1).ownBlock := fun e => hne g1 (HR13.out.1 g1 e.symm) rfl
        have HH5 := Aside0.mk (Kd.H_grown (Kd.H_widen HH3.out) hg (fun k hk => .inl (HR13.out.1 k hk)))
        have HR05 := Aside0.mk (Kd.R_mono (ok' := fun k => oki k ∨ True ∧ w4.heap.size ≤ k) (Kd.R_over' HR03.out (Kd.R_typed HR13.out) (by decide) hg) (fun _ hk => .inl hk))
        have Hm5 := Aside0.mk (blk_grown HM4.out.box hg (Kd.R_ne HR13.out HM4.out.box (by decide)))
        have hbk := hg.block g1 (World.block_lt_of_cell? _ _ hcB3) hgne
        have hbk3 := hg.block w.heap.size (World.block_lt_of_cell? _ _ hk03) (Kd.R_ne HR13.out Hk4.out (by decide))
        have hcB5 : w5.cell? ⟨g1, (gs.length - 1) * 3 + 1, none⟩ = some (.slice A1 N1 c1) := (World.cell?_of_block (w := w4) hbk).trans hcB3
        have hfr5 : w5.frozen? ⟨g1, (gs.length - 1) * 3 + 1, none⟩ = false := (World.frozen?_of_block (w := w4) hbk).trans hfr3
        have hk05 : w5.cell? ⟨w.heap.size, 0, none⟩ = some (.string kk) := (World.cell?_of_block (w := w4) hbk3).trans hk03
        have hk15 : w5.cell? ⟨w.heap.size, 1, none⟩ = some (.string vv) := (World.cell?_of_block (w := w4) hbk3).trans hk13
        have hlt4 : Hid (g1 < w4.heap.size) := World.block_lt_of_cell? _ _ hcB3
        have ho5 := Aside0.mk ho
        have hone := (Kd.R_val ho).2
        have hv1 : ∃ A n c, v1 = .slice A n c := by obtain ⟨A, c, e⟩ := Kd.R_slice ho; exact ⟨A, _, c, e⟩
        refine hK.out _ _ ⟨hcB5, hk05, hk15⟩ (fun hHeld => ?_)
        clear hK K
        refine norm_ (a' := ?_) ?_ ?_
        rotate_left
        · show Act.put _ (some 55) _ = _
          simp only [Act.put, List.setIfInBounds_toArray, List.set_cons_zero, List.set_cons_succ, i64_w, i32_w]
          rfl
        clear HH3 HR03 HR13 HM4 hcB3 hfr3 hgne hg hat hbk hbk3 ho hk03 hk13
        obtain ⟨A2, N2, c2, rfl⟩ := hv1
        refine pure_ (i := 13) (N := some 56) (v := ?_) (a' := ?_) #[true, true, true, true, true, true, true, true, true, true, true, true, true, true, false, false] rfl rfl (by kernel_rfl) (fun _ _ _ h => h) (Or.inl ⟨by rfl, ?_⟩) ?_ ?_
        rotate_left
        · intro w'
          go_simp
          with_reducible rfl
        rotate_left
        · simp only [Act.put, List.setIfInBounds_toArray, List.set_cons_zero, List.set_cons_succ, i64_w, i32_w]
          rfl
        refine pure_ (i := 14) (N := some 57) (v := ?_) (a' := ?_) #[true, true, true, true, true, true, true, true, true, true, true, true, true, true, true, false] rfl rfl (by kernel_rfl) (fun _ _ _ h => h) (Or.inl ⟨by rfl, ?_⟩) ?_ ?_
        rotate_left
        · intro w'
          go_simp
          with_reducible rfl
        rotate_left
        · simp only [Act.put, List.setIfInBounds_toArray, List.set_cons_zero, List.set_cons_succ, i64_w, i32_w]
          rfl
        refine last_ (i := 15) (N := none) #[true, true, true, true, true, true, true, true, true, true, true, true, true, true, true, true] rfl rfl (by kernel_rfl) (by decide) (fun K hK => ?_)
        refine skip_ (w1 := ?_) (by rfl) rfl ?_ ?_
        rotate_left
        · go_simp
          rfl
        refine hK.out _ _ ?_
        clear hK K
        refine done_ (by kernel_rfl) ?_
        go_wp2
        go_end0
        have hput := last_put53 HH5.out hgs 1 (by omega) _ hone { lastG gs with f1 := (lastG gs).f1 ++ [⟨false, vv⟩] } (k53_mkM _ _ _ ({ lastG gs with f1 := (lastG gs).f1 ++ [⟨false, vv⟩] } : S53) HR05.out ho5.out) (fun k hk => hk.elim (hne k) (fun h e => by have := hlt4.out; have := h.2; omega))
        rw [hfin]
        exact ⟨rfl, ⟨blk_far Hm5.out (Ne.symm hg1m) _, hB, hput.1, hb5.setCell hg1 _⟩⟩
      · have hfin := hfin1 _ (if_neg (fun hh => hv ⟨hh.1, by have h2 : (gs.getD (gs.length - 1) z53).f1.length < 64 := hh.2; have := hN1.out; omega⟩))
        have key : vv.toList.isEmpty = true ∨ (vv.toList.isEmpty = false ∧ ((N1 : Int) < 64) = False) := by cases h : vv.toList.isEmpty; exact .inr ⟨rfl, eq_false (fun h2 => hv ⟨h, by omega⟩)⟩; exact .inl rfl
        clear hH R0 R1 hcA hcC hfr hfin1 hv
        rcases key with hv1 | ⟨hv1, hv3⟩
        · have hv4 : (vv.toList = []) = True := eq_true (by simpa using hv1)
          go_wp2
          go_end0
          rw [hfin]
          exact ⟨rfl, HM3.out⟩
        · have hv4 : (vv.toList = []) = False := eq_false (by intro e; rw [e] at hv1; cases hv1)
          go_wp2
          go_end0
          rw [hfin]
          exact ⟨rfl, HM3.out⟩
  by_cases hC : (kk.toList == sDelay) = true
  · have e1 : (kk.toList == [97, 108, 108, 111, 119]) = false := by cases h : (kk.toList == [97, 108, 108, 111, 119]); rfl; exact absurd (.inl h) hA
    have e2 : (kk.toList == [100, 105, 115, 97, 108, 108, 111, 119]) = false := by cases h : (kk.toList == [100, 105, 115, 97, 108, 108, 111, 119]); rfl; exact absurd (.inr h) hA
    have e3 : (kk.toList == [99, 114, 97, 119, 108, 45, 100, 101, 108, 97, 121]) = true := hC
    have hfin1 : ∀ x, (if (delayV vv.data.toList).2 = true then setG gs { lastG gs with f2 := max (lastG gs).f2 ((delayV vv.data.toList).1 : Int) } else gs) = x → addG gs op ⟨kk, vv⟩ = (x, false) := by intro x hx; simp only [addG]; rw [if_neg hgs0, if_neg hA, if_pos hC, hx]
    clear hA hC
    go_upto_region 11 with (fail)
    have HM3 := Aside0.mk (HMK2.out.shut false)
    have Hk3 := Aside0.mk (blk_far Hk2.out (p := ⟨m, 1, none⟩) hbm (.bool false))
    generalize (w2.setCell ⟨m, 1, none⟩ (.bool false)) = w3 at HM3 Hk3 ⊢
    clear hc0 hc1 hf0 hf1 hk0 hk1 HMK2 Hk2
    have hk1 := blk_cell Hk3.out 1
    simp only [List.getElem?_toArray, List.getElem?_cons_zero, List.getElem?_cons_succ] at hk1
    have HSh := Aside0.mk (Shp.below HSH.out HM3.out.below)
    have HD := Aside0.mk (show lines_Delay.f vv = some (((delayV vv.data.toList).1 : Int), (delayV vv.data.toList).2) by rw [lines_Delay.f, if_pos hn])
    cases hok : (delayV vv.data.toList).2 with
    | true =>
      rw [hok] at HD hfin1
      have hfin := hfin1 _ (if_pos rfl)
      clear hfin1 hok
      generalize (delayV vv.data.toList).1 = n at HD hfin
      go_upto_region 13 with (first | ((with_reducible refine gate_callee (f := 13) rfl ?_); refine goesL_ (some 66) rfl rfl Tryd.func13 (by kernel_rfl) rfl #[.string vv] rfl (by (try simp only [List.map_toArray, List.map_cons, List.map_nil]); first | done | rfl) ?_; (with_reducible refine (lines_Delay.calls vv (n : Int) true _ HD.out HSh.out).mono ?_); rintro e w4 ⟨rfl, hb4⟩; refine ⟨_, rfl, ?_⟩; have HM4 := Aside0.mk (HM3.out.step hb4); clear hb4))
      obtain ⟨oki, e0, e1', R0, R1, hcA, hcB, hcC, hfr, hne, hH⟩ := last_open53 HM4.out.row hgs
      have hfr2 := hfr 2
      have HH := Aside0.mk hH
      have HR0 := Aside0.mk R0
      have HR1 := Aside0.mk R1
      clear hH R0 R1 hcA hcB hfr hk1 Hk3 HM3
      have hput : ∀ u : Int, u = max (lastG gs).f2 (n : Int) → Kd.S k53 53 (w4.setCell ⟨g1, (gs.length - 1) * 3 + 2, none⟩ (.int .i64 u)) W0.heap.size (fun _ => True) (.slice (some ⟨g1, 0, none⟩) gs.length cap1) (setG gs { lastG gs with f2 := max (lastG gs).f2 (n : Int) }) := by
        intro u hu
        subst hu
        exact (last_put53 HH.out hgs 2 (by omega) (.int .i64 (max (lastG gs).f2 (n : Int))) rfl { lastG gs with f2 := max (lastG gs).f2 (n : Int) } (k53_mkM _ _ _ ({ lastG gs with f2 := max (lastG gs).f2 (n : Int) } : S53) HR0.out HR1.out) hne).1
      have hput := Aside0.mk hput
      go_wp2
      all_goals go_end0
      all_goals try rw [hfin]
      all_goals
        refine ⟨rfl, ⟨blk_far HM4.out.box (Ne.symm hg1m) _, hB, hput.out _ ?_, HM4.out.below.setCell hg1 _⟩⟩
        show _ = max (gs.getD (gs.length - 1) z53).f2 _
        rw [List.getD_eq_getElem?_getD]
        omega
    | false =>
      rw [hok] at HD hfin1
      have hfin := hfin1 _ (if_neg (by decide))
      clear hfin1 hok
      generalize (delayV vv.data.toList).1 = n at HD
      go_wp2_with (first | ((with_reducible refine gate_callee (f := 13) rfl ?_); refine goesL_ (some 66) rfl rfl Tryd.func13 (by kernel_rfl) rfl #[.string vv] rfl (by (try simp only [List.map_toArray, List.map_cons, List.map_nil]); first | done | rfl) ?_; (with_reducible refine (lines_Delay.calls vv (n : Int) false _ HD.out HSh.out).mono ?_); rintro e w4 ⟨rfl, hb4⟩; refine ⟨_, rfl, ?_⟩; have HM4 := Aside0.mk (HM3.out.step hb4); clear hb4))
      go_end0
      try rw [hfin]
      exact ⟨rfl, HM4.out⟩
  · have e1 : (kk.toList == [97, 108, 108, 111, 119]) = false := by cases h : (kk.toList == [97, 108, 108, 111, 119]); rfl; exact absurd (.inl h) hA
    have e2 : (kk.toList == [100, 105, 115, 97, 108, 108, 111, 119]) = false := by cases h : (kk.toList == [100, 105, 115, 97, 108, 108, 111, 119]); rfl; exact absurd (.inr h) hA
    have e3 : (kk.toList == [99, 114, 97, 119, 108, 45, 100, 101, 108, 97, 121]) = false := by cases h : (kk.toList == [99, 114, 97, 119, 108, 45, 100, 101, 108, 97, 121]); rfl; exact absurd h hC
    have hfin : addG gs op ⟨kk, vv⟩ = (gs, op) := by simp only [addG]; rw [if_neg hgs0, if_neg hA, if_neg hC]
    clear hA hC
    go_wp2
    go_end0
    rw [hfin]
    exact ⟨rfl, HMK2.out⟩
end Go.Proofs.YthbmedhejlhclaaDoor.GivenW

namespace Go.Proofs.YthbmedhejlhclaaDoor.GivenW
open Go.RowKit Go.Proofs.YthbmedhejlhclaaDoor.Given Go.Proofs.YthbmedhejlhclaaDoor.QBase Go.Proofs.YthbmedhejlhclaaDoorW.PrintWords Go.Proofs.YthbmedhejlhclaaDoorW.PrintLast Go.Proofs.YthbmedhejlhclaaDoorW.PrintMore
set_option linter.unusedVariables false
set_option linter.unusedSimpArgs false
attribute [local go_sem] max2_int min2_int max_two min_two max_three min_three max_four min_four
def lines_Groups.f (l0 : List S40) : Option (List S53) := if l0.length < 1000000 ∧ (∀ l ∈ l0, l.f1.size < 140737488351233) then some (l0.foldl Given.stepG ([], false)).1 else none
set_option maxHeartbeats 8000000 in
set_option maxRecDepth 1000000 in
theorem lines_Groups.calls (A0 : Option Addr) (c0 : Nat) (l0 : List S40) (r : List S53) (w : World) (hr0 : Kd.C k40 w A0 l0.length l0) (hc0 : l0.length ≤ c0) (h : lines_Groups.f l0 = some r) (hS_ : Shp w) :
    Calls Tryd.prog 16 #[.slice A0 l0.length c0] w fun e w' => ∃ v0_ : Value, e = .returned v0_ ∧ Kd.S k53 53 w' w.heap.size (fun _ => True) v0_ r ∧ Below w.heap.size w w' := by
  unfold lines_Groups.f at h
  split at h
  case isFalse => cases h
  rename_i hc
  obtain ⟨hl, hv⟩ := hc
  have hfin := Aside0.mk (Option.some.inj h)
  have HSH := Aside0.mk hS_
  have HR0 := Aside0.mk hr0
  have HV := Aside0.mk hv
  clear h hS_ hr0 hc0 hv
  go_enter Tryd.func16, Tryd.ntmps16
  go_wp2_with (first | ((with_reducible refine gate_dst (N := 7) rfl ?_); refine box_event ?hg (N := 7) ?hd (cs := #[.slice none 0 0, .bool false]) (t := 62) ?hr ?_; (case hd => rfl); (case hg => rfl); (case hr => first | (go_simp; done) | (go_simp; rfl)); intro m hm w1 hbox hb; subst hm; have HM := Aside0.mk (Mk.mk hbox (Nat.le_refl _) (Kd.S_nil k53 53 w1 w.heap.size (fun _ => True)) hb); clear hbox hb))
  go_loopw [10] (fun v10 wr => ∃ (i : Nat) (st : List S53 × Bool) (v : Value), v10 = .int .i64 i ∧ i ≤ l0.length ∧ Hid (InvG i st) ∧ Aside0 (((l0.drop i).foldl Given.stepG st).1 = r) ∧ Aside0 (Mk w w.heap.size st.1 st.2 v wr)) (fun v10 wr => l0.length - (intOf v10).toNat)
  case atStart => exact ⟨0, ([], false), _, rfl, by omega, ⟨Nat.le_refl _, by simp, by simp⟩, hfin, HM⟩
  case round =>
    clear HM hfin
    obtain ⟨i, ⟨gs, op⟩, v, rfl, hi, hinv, hF, HM⟩ := hrel
    simp only at HM
    by_cases hlt : i < l0.length
    · have hlt' : ((i : Int) < (l0.length : Int)) = True := eq_true (by omega)
      obtain ⟨ad, rfl, hx0, hx1⟩ := at_T40 HR0.out (i : Int) (by omega) (by omega)
      have hrd : rd_T40 l0 (i : Int) = l0[i] := by simp [rd_T40, hlt]
      rw [hrd, Int.toNat_natCast] at hx0 hx1
      have hx0 := (HM.out.below.cell (World.block_lt_of_cell? w _ hx0)).trans hx0
      have hx1 := (HM.out.below.cell (World.block_lt_of_cell? w _ hx1)).trans hx1
      have hsz : Hid (l0[i].f1.size < 140737488351233) := HV.out _ (List.getElem_mem hlt)
      have hF2 := hF.out
      rw [List.drop_eq_getElem_cons hlt, List.foldl_cons] at hF2
      have hF2 := Aside0.mk hF2
      obtain ⟨l, hl0⟩ : ∃ l, l = l0[i] := ⟨_, rfl⟩
      rw [← hl0] at hx0 hx1 hsz hF2
      obtain ⟨kk, vv⟩ := l
      simp only at hx0 hx1 hsz
      clear hF hrd hl0
      go_upto_region 5 with (first | ((with_reducible refine gate_dst (N := 5) rfl ?_); refine box_event ?hg (N := 5) ?hd (cs := #[.string (⟨#[]⟩ : ByteArray), .string (⟨#[]⟩ : ByteArray)]) (t := 40) ?hr ?_; (case hd => rfl); (case hg => rfl); (case hr => first | (go_simp; done) | (go_simp; rfl)); intro b5 hb5 w2 hbox hb; have HM2 := Aside0.mk (HM.out.step hb); have Hbx := Aside0.mk hbox; have hf50 := blk_frozen hbox 0; have hf51 := blk_frozen hbox 1; have hz0 := blk_cell hbox 0; have hz1 := blk_cell hbox 1; simp only [List.getElem?_toArray, List.getElem?_cons_zero, List.getElem?_cons_succ] at hz0 hz1; have hlb := Aside0.mk (by rw [hb5]; exact HM.out.below.size : w.heap.size ≤ b5); clear hbox hb hb5))
      have HM3 := Aside0.mk (Mk.far (Mk.far HM2.out Hbx.out hlb.out 0 (.string kk)) (blk_put Hbx.out 0 (.string kk) rfl) hlb.out 1 (.string vv))
      have Hb3 := Aside0.mk (show ((w2.setCell { block := b5, off := 0 } (Value.string kk)).setCell { block := b5, off := 1 } (Value.string vv)).heap[b5]? = some (Obj.cells #[.string kk, .string vv] 40 (0, 0)) from blk_put (blk_put Hbx.out 0 (.string kk) rfl) 1 (.string vv) rfl)
      clear HM HM2 Hbx hf50 hf51 hz0 hz1
      generalize ((w2.setCell { block := b5, off := 0 } (Value.string kk)).setCell { block := b5, off := 1 } (Value.string vv)) = w3 at *
      have hk0 : w3.cell? ⟨b5, 0, none⟩ = some (.string kk) := blk_cell Hb3.out 0
      have hk1 : w3.cell? ⟨b5, 1, none⟩ = some (.string vv) := blk_cell Hb3.out 1
      by_cases hk : (kk.toList == sAgent) = true
      · have hk' : (kk.toList == [117, 115, 101, 114, 45, 97, 103, 101, 110, 116]) = true := hk
        have hstep : Given.stepG (gs, op) ⟨kk, vv⟩ = (agentG gs op vv, true) := by simp only [Given.stepG]; exact if_pos hk
        rw [hstep] at hF2
        have hle : Aside0 (vv.size ≤ 140737488351232 ∧ gs.length < 1000000 ∧ (∀ x ∈ gs, x.f0.length < 1000000) ∧ (op = true → gs ≠ [])) := ⟨⟨by have h1 := hsz.out; omega, by have h1 : gs.length ≤ i := hinv.out.len; omega, fun x hx => by have h1 : x.f0.length ≤ i := hinv.out.ags x hx; omega, hinv.out.op⟩⟩
        have hinv : Hid (InvG (i + 1) (agentG gs op vv, true)) := InvG.agent hinv.out vv
        go_wp2_with (first
          | ((with_reducible refine gate_callee (f := 25) rfl ?_); refine goesL_ (some 20) rfl rfl Tryd.func25 (by kernel_rfl) rfl #[.pointer (some ⟨w.heap.size, 0, none⟩), .string vv] rfl (by (try simp only [List.map_toArray, List.map_cons, List.map_nil]); first | done | rfl) ?_; (with_reducible refine (agent_calls w _ w.heap.size gs op v vv HM3.out hle.out.1 hle.out.2.1 hle.out.2.2.1 hle.out.2.2.2).mono ?_); rintro e w4 ⟨rfl, v', HM4⟩; refine ⟨_, rfl, ?_⟩; have HM4 := Aside0.mk HM4; clear HM3 Hb3 hk0 hk1))
        go_roundw
        case rel => exact ⟨i + 1, (agentG gs op vv, true), v', by go_num, by omega, hinv, hF2, HM4⟩
        case measure => simp [intOf]; omega
      · have hk' : (kk.toList == [117, 115, 101, 114, 45, 97, 103, 101, 110, 116]) = false := by cases h : (kk.toList == [117, 115, 101, 114, 45, 97, 103, 101, 110, 116]); rfl; exact absurd h hk
        have hstep : Given.stepG (gs, op) ⟨kk, vv⟩ = addG gs op ⟨kk, vv⟩ := by simp only [Given.stepG]; exact if_neg hk
        rw [hstep] at hF2
        have hle : Aside0 (gs.length < 1000000) := ⟨by have h1 : gs.length ≤ i := hinv.out.len; omega⟩
        have hinv : Hid (InvG (i + 1) (addG gs op ⟨kk, vv⟩)) := InvG.add hinv.out ⟨kk, vv⟩
        go_wp2_with (first
          | ((with_reducible refine gate_callee (f := 26) rfl ?_); refine goesL_ (some 23) rfl rfl Tryd.func26 (by kernel_rfl) rfl #[.pointer (some ⟨w.heap.size, 0, none⟩), .agg #[.string kk, .string vv]] rfl (by (try simp only [List.map_toArray, List.map_cons, List.map_nil]); first | done | rfl) ?_; (with_reducible refine (add_calls w _ w.heap.size gs op v ⟨kk, vv⟩ HM3.out hsz.out hle.out HSH.out).mono ?_); rintro e w4 ⟨rfl, HM4⟩; refine ⟨_, rfl, ?_⟩; have HM4 := Aside0.mk HM4; clear HM3 Hb3 hk0 hk1))
        go_roundw
        case rel => exact ⟨i + 1, addG gs op ⟨kk, vv⟩, v, by go_num, by omega, hinv, hF2, HM4⟩
        case measure => simp [intOf]; omega
    · have hlt' : ((i : Int) < (l0.length : Int)) = False := eq_false (by omega)
      obtain rfl : i = l0.length := by omega
      have hr := hF.out
      rw [List.drop_length, List.foldl_nil] at hr
      simp only at hr
      subst hr
      have hc0 := blk_cell HM.out.box 0
      simp only [List.getElem?_toArray, List.getElem?_cons_zero] at hc0
      clear hF
      go_wp2
      go_ret
      exact ⟨_, rfl, HM.out.row, HM.out.below⟩
end Go.Proofs.YthbmedhejlhclaaDoor.GivenW

namespace Go.Proofs.YthbmedhejlhclaaDoor.PureW
open Go.RowKit Go.Proofs.YthbmedhejlhclaaDoor.Given Go.Proofs.YthbmedhejlhclaaDoor.QBase Go.Proofs.YthbmedhejlhclaaDoorW.PrintWords Go.Proofs.YthbmedhejlhclaaDoorW.PrintLast Go.Proofs.YthbmedhejlhclaaDoorW.PrintMore
set_option linter.unusedVariables false
set_option linter.unusedSimpArgs false
attribute [local go_sem] max2_int min2_int max_two min_two max_three min_three max_four min_four
open Go.Proofs.YthbmedhejlhclaaDoor.Pure
theorem refD (s : ByteArray) (hs : s.size < 140737488351233) : ∀ (l : List UInt8) (i ms g : Nat) (d : Bool) (b k : Nat), s.data.toList.drop i = l → i ≤ s.size → g ≤ 9 → (ms + 1000 ≤ 1000 * 10 ^ g ∧ d = false ∧ b = 0 ∨ d = true ∧ ms < 1000000000000 + 900 * b) → b ≤ i → 4 * l.length + 1 ≤ k →
    decorumref09_Delay.l0 k s (ms : Int) (g : Int) (if d then 1 else 0) (b : Int) (i : Int) = some (((refL l ms g d b).1 : Int), (refL l ms g d b).2) := by
  intro l
  induction l with
  | nil =>
    intro i ms g d b k hd hi hg hm hb hk
    obtain ⟨k, rfl⟩ : ∃ k', k = k' + 1 := ⟨k - 1, by omega⟩
    have hi' := drop_end hd hi
    rw [decorumref09_Delay.l0, if_neg (by omega)]
    have hw : Aside0 (wrap64 ((g : Int) + b) = ((g + b : Nat) : Int)) := ⟨by simp only [wrap64]; omega⟩
    rw [hw.out, refL]
    cases d with
    | false =>
      by_cases hc : 0 < g + b
      · rw [if_pos (by omega)]
        simp [hc]
      · rw [if_neg (by omega)]
        simp [hc]
    | true =>
      by_cases hc : 0 < g + b
      · rw [if_pos (by omega), if_neg (by simp)]
        simp [hc]
      · rw [if_neg (by omega)]
        have : ¬ 0 < b := by omega
        simp [this]
  | cons c t ih =>
    intro i ms g d b k hd hi hg hm hb hk
    obtain ⟨h1, h2, h3⟩ := bt_drop hd
    rw [List.length_cons] at hk
    obtain ⟨k, rfl⟩ : ∃ k', k = k' + 4 := ⟨k - 4, by omega⟩
    have hwi : Aside0 (wrap64 ((i : Int) + 1) = ((i + 1 : Nat) : Int)) := ⟨by simp only [wrap64]; omega⟩
    have hcl := UInt8.toNat_lt c
    rw [decorumref09_Delay.l0, if_pos (by omega), if_pos (by omega), h2]
    have hpow : 10 ^ g ≤ 1000000000 := Nat.le_trans (Nat.pow_le_pow_right (by decide) hg) (by decide)
    have hps : 10 ^ (g + 1) = 10 ^ g * 10 := Nat.pow_succ ..
    generalize 10 ^ g = P at hpow hps hm
    -- the sign's own road
    have road : (c = 46 ∧ d = false → False) → decorumref09_Delay.j1 (k + 3) s ms g (if d then 1 else 0) b i (c.toNat : Int) false = some (((refL (c :: t) ms g d b).1 : Int), (refL (c :: t) ms g d b).2) := by
      intro hno
      rw [decorumref09_Delay.j1, if_neg (by decide), refL, if_neg hno]
      by_cases hlo : c.toNat < 48
      · have hdg : digB c = false := by simp [digB]; omega
        rw [if_pos (by omega), if_pos hdg, decorumref09_Delay.j2, if_pos rfl]
        rfl
      rw [if_neg (by omega)]
      by_cases hhi : 57 < c.toNat
      · have hdg : digB c = false := by simp [digB]; omega
        have : decide ((c.toNat : Int) > 57) = true := decide_eq_true (by omega)
        rw [this, if_pos hdg, decorumref09_Delay.j2, if_pos rfl]
        rfl
      have hdg : digB c = true := by simp [digB]; omega
      have : decide ((c.toNat : Int) > 57) = false := decide_eq_false (by omega)
      have hmod : ((c.toNat : Int) - 48) % 256 = ((c.toNat - 48 : Nat) : Int) := by omega
      rw [this, if_neg (show ¬ (digB c = false) by rw [hdg]; decide), decorumref09_Delay.j2, if_neg (by decide)]
      cases d with
      | false =>
        obtain ⟨hm1, rfl⟩ : ms + 1000 ≤ 1000 * P ∧ b = 0 := by
          rcases hm with ⟨a, _, c⟩ | ⟨a, _⟩
          · exact ⟨a, c⟩
          · cases a
        have hwg : Aside0 (wrap64 ((g : Int) + 1) = ((g + 1 : Nat) : Int)) := ⟨by simp only [wrap64]; omega⟩
        rw [if_pos (show (if false = true then (1 : Int) else 0) = 0 from rfl), if_pos (show false = false from rfl), hwg.out]
        by_cases h9 : 9 ≤ g
        · rw [if_pos (by omega), if_pos h9]
          rfl
        rw [if_neg (by omega), if_neg h9, hmod, hwi.out]
        have hw1 : Aside0 (wrap64 (10 * (ms : Int)) = ((10 * ms : Nat) : Int)) := ⟨by simp only [wrap64]; omega⟩
        have hw2 : Aside0 (wrap64 (((10 * ms : Nat) : Int) + 1000 * ((c.toNat - 48 : Nat) : Int)) = ((10 * ms + 1000 * (c.toNat - 48) : Nat) : Int)) := ⟨by simp only [wrap64]; omega⟩
        rw [hw1.out, hw2.out]
        have := ih (i + 1) (10 * ms + 1000 * (c.toNat - 48)) (g + 1) false 0 (k + 1) h3 (by omega) (by omega) (.inl ⟨by rw [hps]; omega, rfl, rfl⟩) (by omega) (by omega)
        exact this
      | true =>
        have hm1 : ms < 1000000000000 + 900 * b := by
          rcases hm with ⟨_, a, _⟩ | ⟨_, a⟩
          · cases a
          · exact a
        have hwb : Aside0 (wrap64 ((b : Int) + 1) = ((b + 1 : Nat) : Int)) := ⟨by simp only [wrap64]; omega⟩
        have hun : ∀ u : Nat, u ≤ 100 → Aside0 (wrap64 ((ms : Int) + (u : Int) * ((c.toNat - 48 : Nat) : Int)) = ((ms + u * (c.toNat - 48) : Nat) : Int)) := by
          intro u hu
          constructor
          have : u * (c.toNat - 48) ≤ 100 * 9 := Nat.mul_le_mul hu (by omega)
          rw [← Int.natCast_mul, ← Int.natCast_add]
          simp only [wrap64]; omega
        have hbnd : unit b * (c.toNat - 48) ≤ 900 := by
          have : unit b ≤ 100 := by unfold unit; repeat' split
                                    all_goals omega
          have := Nat.mul_le_mul this (show c.toNat - 48 ≤ 9 by omega)
          omega
        have key := ih (i + 1) (ms + unit b * (c.toNat - 48)) g true (b + 1) k h3 (by omega) hg (.inr ⟨rfl, by omega⟩) (by omega) (by omega)
        rw [if_neg (show ¬ ((if true = true then (1 : Int) else 0) = 0) by decide), if_neg (show ¬ (true = false) by decide), hwb.out, hmod]
        by_cases hb0 : b = 0
        · subst hb0
          rw [if_pos (by rfl), decorumref09_Delay.j3, if_neg (by decide), if_neg (by decide), hwi.out]
          have := (hun 100 (by omega)).out
          rw [show ((100 : Nat) : Int) = 100 from rfl] at this
          rw [this]
          rw [show unit 0 = 100 from rfl] at key ⊢
          exact key
        rw [if_neg (by omega), decorumref09_Delay.j3]
        rw [hmod, hwi.out]
        by_cases hb1 : b = 1
        · subst hb1
          rw [if_pos (by rfl), if_neg (by decide)]
          have := (hun 10 (by omega)).out
          rw [show ((10 : Nat) : Int) = 10 from rfl] at this
          rw [this]
          rw [show unit 1 = 10 from rfl] at key ⊢
          exact key
        rw [if_neg (by omega)]
        by_cases hb2 : b = 2
        · subst hb2
          rw [if_pos (by rfl)]
          have := (hun 1 (by omega)).out
          rw [show ((1 : Nat) : Int) = 1 from rfl, Int.one_mul] at this
          rw [this]
          rw [show unit 2 = 1 from rfl] at key ⊢
          exact key
        rw [if_neg (by omega)]
        have hu0 : unit b = 0 := by unfold unit; rw [if_neg hb0, if_neg hb1, if_neg hb2]
        rw [hu0, Nat.zero_mul, Nat.add_zero] at key
        rw [hu0, Nat.zero_mul, Nat.add_zero]
        exact key
    by_cases h46 : c = 46
    · rw [if_pos ((u8_46 c).mpr h46)]
      cases d with
      | false =>
        rw [show (((if false = true then (1 : Int) else 0)) == 0) = true from rfl, decorumref09_Delay.j1, if_pos rfl, hwi.out, refL, if_pos ⟨h46, rfl⟩]
        have hm1 : ms < 1000000000000 + 900 * b := by
          rcases hm with ⟨a, _, c⟩ | ⟨a, _⟩
          · omega
          · cases a
        exact ih (i + 1) ms g true b (k + 2) h3 (by omega) hg (.inr ⟨rfl, hm1⟩) (by omega) (by omega)
      | true =>
        exact road (fun h => by cases h.2)
    · rw [if_neg (fun h => h46 ((u8_46 c).mp h))]
      exact road (fun h => h46 h.1)

end Go.Proofs.YthbmedhejlhclaaDoor.PureW

namespace Go.Proofs.YthbmedhejlhclaaDoor.GivenW
open Go.RowKit Go.Proofs.YthbmedhejlhclaaDoor.Given Go.Proofs.YthbmedhejlhclaaDoor.QBase Go.Proofs.YthbmedhejlhclaaDoorW.PrintWords Go.Proofs.YthbmedhejlhclaaDoorW.PrintLast Go.Proofs.YthbmedhejlhclaaDoorW.PrintMore
set_option linter.unusedVariables false
set_option linter.unusedSimpArgs false
attribute [local go_sem] max2_int min2_int max_two min_two max_three min_three max_four min_four
def decorumref09_Groups.f (l0 : List S28) : Option (List S57) := if l0.length < 1000000 ∧ (∀ l ∈ l0, l.f1.size < 140737488351233) then some (l0.foldl stepR ([], true)).1 else none
theorem delay_any (v : ByteArray) (hv : v.size < 140737488351233) : ∃ k, decorumref09_Delay.f k v = some (((refD v).1 : Int), (refD v).2) :=
  ⟨4 * v.data.toList.length + 1, PureW.refD v hv v.data.toList 0 0 0 false 0 _ rfl (Nat.zero_le _) (by omega) (.inl ⟨by decide, rfl, rfl⟩) (by omega) (Nat.le_refl _)⟩

set_option maxHeartbeats 8000000 in
set_option maxRecDepth 1000000 in
theorem decorumref09_Groups.calls (A0 : Option Addr) (c0 : Nat) (l0 : List S28) (r : List S57) (w : World) (hr0 : Kd.C k28 w A0 l0.length l0) (hc0 : l0.length ≤ c0) (h : decorumref09_Groups.f l0 = some r) :
    Calls Tryd.prog 17 #[.slice A0 l0.length c0] w fun e w' => ∃ v0_ : Value, e = .returned v0_ ∧ Kd.S k57 57 w' w.heap.size (fun _ => True) v0_ r ∧ Below w.heap.size w w' := by
  unfold decorumref09_Groups.f at h
  split at h
  case isFalse => cases h
  rename_i hc
  obtain ⟨hl, hv⟩ := hc
  have hfin := Aside0.mk (Option.some.inj h)
  have HR0 := Aside0.mk hr0
  have HV := Aside0.mk hv
  clear h hr0 hc0 hv
  go_enter Tryd.func17, Tryd.ntmps17
  go_wp2_with (first | ((with_reducible refine gate_dst (N := 11) rfl ?_); refine Kd.S_lit k57 _ 57 ?hg (N := 11) ?hd (xs := ([] : List S57)) (inner := []) (ok := fun _ => True) (okp := fun _ => True) ?hr ?hp (fun _ hk => hk) trivial (Below.refl _ _) (Nat.le_refl _) (by simp) ?_; (case hd => rfl); (case hg => rfl); (case hr => first | (go_simp; done) | (go_simp; rfl)); (case hp => exact (Reps.none _ _)); intro v3 w1 ho hb hg_ hnew_; have HS := Aside0.mk ho; have HB := Aside0.mk hb; clear hg_ hnew_ ho hb))
  go_loopw [3, 4, 5] (fun v3 v4 v5 wr => ∃ (i : Nat) (gs : List S57) (told : Bool), v5 = .int .i64 i ∧ v4 = .bool told ∧ i ≤ l0.length ∧ Hid (InvR i (gs, told)) ∧ Aside0 (((l0.drop i).foldl stepR (gs, told)).1 = r) ∧ Aside0 (Kd.S k57 57 wr w.heap.size (fun _ => True) v3 gs) ∧ Aside0 (Below w.heap.size w wr)) (fun v3 v4 v5 wr => l0.length - (intOf v5).toNat)
  case atStart => exact ⟨0, [], true, rfl, rfl, by omega, ⟨Nat.le_refl _, by simp, by simp⟩, hfin, HS, HB⟩
  case round =>
    clear HS HB hfin
    obtain ⟨i, gs, told, rfl, rfl, hi, hinv, hF, HS, HB⟩ := hrel
    by_cases hlt : i < l0.length
    · have hlt' : ((i : Int) < (l0.length : Int)) = True := eq_true (by omega)
      obtain ⟨ad, rfl, hx0, hx1⟩ := at_T28 HR0.out (i : Int) (by omega) (by omega)
      have hrd : rd_T28 l0 (i : Int) = l0[i] := by simp [rd_T28, hlt]
      rw [hrd, Int.toNat_natCast] at hx0 hx1
      have hx0 := (HB.out.cell (World.block_lt_of_cell? w _ hx0)).trans hx0
      have hx1 := (HB.out.cell (World.block_lt_of_cell? w _ hx1)).trans hx1
      have hsz : Hid (l0[i].f1.size < 140737488351233) := HV.out _ (List.getElem_mem hlt)
      have hF2 := hF.out
      rw [List.drop_eq_getElem_cons hlt, List.foldl_cons] at hF2
      have hF2 := Aside0.mk hF2
      obtain ⟨l, hl0⟩ : ∃ l, l = l0[i] := ⟨_, rfl⟩
      rw [← hl0] at hx0 hx1 hsz hF2
      have hnext : Hid (InvR (i + 1) (stepR (gs, told) l)) := InvR.next hinv.out l
      obtain ⟨kk, vv⟩ := l
      simp only at hx0 hx1 hsz
      clear hF hrd hl0
      by_cases hk : (kk.toList == sAgent) = true
      · have hk' : (kk.toList == [117, 115, 101, 114, 45, 97, 103, 101, 110, 116]) = true := hk
        have hstep : stepR (gs, told) ⟨kk, vv⟩ = (agentR gs told vv, false) := by simp only [stepR]; exact if_pos hk
        rw [hstep] at hF2 hnext
        have hle : Aside0 (vv.size ≤ 140737488351232 ∧ gs.length < 1000000 ∧ (∀ x ∈ gs, x.f0.length < 1000000) ∧ (told = false → gs ≠ [])) := ⟨⟨by have h1 := hsz.out; omega, by have h1 : gs.length ≤ i := hinv.out.len; omega, fun x hx => by have h1 : x.f0.length ≤ i := hinv.out.ags x hx; omega, hinv.out.op⟩⟩
        clear hinv
        cases told with
        | true =>
          obtain ⟨A3, c3, rfl⟩ := Kd.S_slice HS.out
          go_upto_region 6 with (fail)
          go_region
          go_upto_region 11 with (first
            | ((with_reducible refine gate_builtin (b := .append) (xs := #[.tmp 31, .tmp 33]) rfl ?_); at_builtin; (refine Kd.S_append k57 (w0 := w) w.heap.size rfl (.tmp 31) (.tmp 33) 36 57 (.agg #[.slice none 0 0, .slice none 0 0, .int .i64 0]) 56 rfl Tryd.underlying36 info57 rfl (by decide) (by omega) (.slice A3 gs.length c3) gs z57 [.slice none 0 0, .slice none 0 0, .int .i64 0] (fun _ => True) (fun _ => False) rfl rfl (k57_mkM _ _ _ z57 (Kd.R_nil _ _ _ _ _) (Kd.R_nil _ _ _ _ _)) (fun _ hk => hk.elim) (fun _ _ => trivial) (Kd.S_mono (Kd.S_drew HS.out) (fun _ _ => ⟨trivial, id⟩)) (below_drew1 HB.out) (below_drew1 HB.out).size (by have h1 := hle.out.2.1; omega) ?_); intro v1 w1 ho hb hg hat; obtain ⟨g1, cap1, rfl, hg1, hg1l, cells1, hcells1⟩ := Kd.S_form ho (by simp); simp only [List.length_append, List.length_singleton] at ho; have HS2 := Aside0.mk ho; have HB2 := Aside0.mk hb; clear hat hg hcells1 ho hb))
          have hfin : agentR gs true vv = setR (gs ++ [z57]) { lastR (gs ++ [z57]) with f0 := (lastR (gs ++ [z57])).f0 ++ [⟨(lowL vv.data.toList).toArray⟩] } := rfl
          have hl0' : (lastR (gs ++ [z57])).f0.length < 1000000 := by simp [lastR, z57]
          have hnG : gs.length + 1 = (gs ++ [z57]).length := by simp
          have hgs : 0 < (gs ++ [z57]).length := by simp
          have hll : (gs ++ [z57]).length < 1000001 := by have := hle.out.2.1; simp; omega
          generalize gs ++ [z57] = G at HS2 hfin hl0' hnG hgs hll ⊢
          generalize gs.length + 1 = n at *
          subst hnG
          clear HS HB hx0 hx1
          generalize w1 = w2 at *
          have HL := Aside0.mk (show decorumref09_Lower.f vv = some ⟨(lowL vv.data.toList).toArray⟩ by rw [decorumref09_Lower.f, if_pos hle.out.1])
          obtain ⟨oki, e0, e1, R0, R1, hcA, hcB, hcC, hfr, hne, hH⟩ := last_open57 HS2.out hgs
          have hw1 : wrap64 ((G.length : Int) - 1) = ((G.length - 1 : Nat) : Int) := by simp only [wrap64]; omega
          have hw2 : IntKind.i64.wrap ((G.length : Int) - 1) = ((G.length - 1 : Nat) : Int) := by rw [i64_w]; exact hw1
          have hlt1 : (((G.length - 1 : Nat) : Int) < (G.length : Int)) = True := eq_true (by omega)
          have hadd : (⟨g1, 0, none⟩ : Addr).add ((G.length - 1) * 3) = ⟨g1, (G.length - 1) * 3, none⟩ := by unfold Addr.add; split <;> simp_all
          have HH := Aside0.mk hH
          have HR0' := Aside0.mk R0
          have HR1 := Aside0.mk R1
          clear hH R0 R1 HS2
          go_wp2
          have HH3 := Aside0.mk (Kd.H_drew HH.out)
          have HR03 := Aside0.mk (Kd.R_drew HR0'.out)
          have HR13 := Aside0.mk (Kd.R_drew HR1.out)
          have HB3 := Aside0.mk (below_drew1 HB2.out)
          have hcA3 : w2.drew.cell? ⟨g1, (G.length - 1) * 3, none⟩ = some e0 := hcA
          have hfr3 : w2.drew.frozen? ⟨g1, (G.length - 1) * 3, none⟩ = false := hfr 0
          refine start_ (n := 18) (S := fun w' => w'.cell? ⟨g1, (G.length - 1) * 3, none⟩ = some e0) (ds := [17]) #[false, false, false, false, false, false, false, false, false, false, false, false, false, false, false, false, false, false] (by kernel_rfl) rfl rfl hcA3 (fun hHeld => ?_)
          generalize w2.drew = w3 at HH3 HR03 HR13 HB3 hcA3 hfr3 hHeld ⊢
          clear HH HR0' HR1 hcA hcB hcC hfr HB2
          refine pure_ (i := 0) (N := some 35) (v := ?_) (a' := ?_) #[true, false, false, false, false, false, false, false, false, false, false, false, false, false, false, false, false, false] rfl rfl (by kernel_rfl) (fun _ _ _ h => h) (Or.inl ⟨by rfl, ?_⟩) ?_ ?_
          rotate_left
          · intro w'
            go_simp
            with_reducible rfl
          rotate_left
          · simp only [Act.put, List.setIfInBounds_toArray, List.set_cons_zero, List.set_cons_succ, i64_w, i32_w]
            rfl
          refine pure_ (i := 1) (N := some 36) (v := ?_) (a' := ?_) #[true, true, false, false, false, false, false, false, false, false, false, false, false, false, false, false, false, false] rfl rfl (by kernel_rfl) (fun _ _ _ h => h) (Or.inl ⟨by rfl, ?_⟩) ?_ ?_
          rotate_left
          · intro w'
            go_simp
            with_reducible rfl
          rotate_left
          · simp only [Act.put, List.setIfInBounds_toArray, List.set_cons_zero, List.set_cons_succ, i64_w, i32_w]
            rfl
          refine pure_ (i := 2) (N := some 37) (v := ?_) (a' := ?_) #[true, true, true, false, false, false, false, false, false, false, false, false, false, false, false, false, false, false] rfl rfl (by kernel_rfl) (fun _ _ _ h => h) (Or.inl ⟨by rfl, ?_⟩) ?_ ?_
          rotate_left
          · intro w'
            go_simp
            with_reducible rfl
          rotate_left
          · simp only [Act.put, List.setIfInBounds_toArray, List.set_cons_zero, List.set_cons_succ, i64_w, i32_w]
            rfl
          refine pure_ (i := 3) (N := some 38) (v := ?_) (a' := ?_) #[true, true, true, true, false, false, false, false, false, false, false, false, false, false, false, false, false, false] rfl rfl (by kernel_rfl) (fun _ _ _ h => h) (Or.inl ⟨by rfl, ?_⟩) ?_ ?_
          rotate_left
          · intro w'
            go_simp
            with_reducible rfl
          rotate_left
          · simp only [Act.put, List.setIfInBounds_toArray, List.set_cons_zero, List.set_cons_succ, i64_w, i32_w]
            rfl
          refine pure_ (i := 4) (N := some 39) (v := ?_) (a' := ?_) #[true, true, true, true, true, false, false, false, false, false, false, false, false, false, false, false, false, false] rfl rfl (by kernel_rfl) (fun _ _ _ h => h) (Or.inl ⟨by rfl, ?_⟩) ?_ ?_
          rotate_left
          · intro w'
            go_simp
            with_reducible rfl
          rotate_left
          · simp only [Act.put, List.setIfInBounds_toArray, List.set_cons_zero, List.set_cons_succ, i64_w, i32_w]
            rfl
          refine pure_ (i := 5) (N := some 40) (v := ?_) (a' := ?_) #[true, true, true, true, true, true, false, false, false, false, false, false, false, false, false, false, false, false] rfl rfl (by kernel_rfl) (fun _ _ _ h => h) (Or.inl ⟨by rfl, ?_⟩) ?_ ?_
          rotate_left
          · intro w'
            go_simp
            with_reducible rfl
          rotate_left
          · simp only [Act.put, List.setIfInBounds_toArray, List.set_cons_zero, List.set_cons_succ, i64_w, i32_w]
            rfl
          refine pure_ (i := 6) (N := some 41) (v := ?_) (a' := ?_) #[true, true, true, true, true, true, true, false, false, false, false, false, false, false, false, false, false, false] rfl rfl (by kernel_rfl) (fun _ _ _ h => h) (Or.inl ⟨by rfl, ?_⟩) ?_ ?_
          rotate_left
          · intro w'
            go_simp
            with_reducible rfl
          rotate_left
          · simp only [Act.put, List.setIfInBounds_toArray, List.set_cons_zero, List.set_cons_succ, i64_w, i32_w]
            rfl
          refine pure_ (i := 7) (N := some 42) (v := ?_) (a' := ?_) #[true, true, true, true, true, true, true, true, false, false, false, false, false, false, false, false, false, false] rfl rfl (by kernel_rfl) (fun _ _ _ h => h) (Or.inl ⟨by rfl, ?_⟩) ?_ ?_
          rotate_left
          · intro w'
            go_simp
            with_reducible rfl
          rotate_left
          · simp only [Act.put, List.setIfInBounds_toArray, List.set_cons_zero, List.set_cons_succ, i64_w, i32_w]
            rfl
          refine pure_ (i := 8) (N := some 43) (v := ?_) (a' := ?_) #[true, true, true, true, true, true, true, true, true, false, false, false, false, false, false, false, false, false] rfl rfl (by kernel_rfl) (fun _ _ _ h => h) (Or.inl ⟨by rfl, ?_⟩) ?_ ?_
          rotate_left
          · intro w'
            go_simp
            with_reducible rfl
          rotate_left
          · simp only [Act.put, List.setIfInBounds_toArray, List.set_cons_zero, List.set_cons_succ, i64_w, i32_w]
            rfl
          refine pure_ (i := 9) (N := some 44) (v := ?_) (a' := ?_) #[true, true, true, true, true, true, true, true, true, true, false, false, false, false, false, false, false, false] rfl rfl (by kernel_rfl) (fun _ _ _ h => h) (Or.inl ⟨by rfl, ?_⟩) ?_ ?_
          rotate_left
          · intro w'
            go_simp
            with_reducible rfl
          rotate_left
          · simp only [Act.put, List.setIfInBounds_toArray, List.set_cons_zero, List.set_cons_succ, i64_w, i32_w]
            rfl
          refine pure_ (i := 11) (N := some 46) (v := ?_) (a' := ?_) #[true, true, true, true, true, true, true, true, true, true, false, true, false, false, false, false, false, false] rfl rfl (by kernel_rfl) (fun _ _ _ h => h) (Or.inl ⟨by rfl, ?_⟩) ?_ ?_
          rotate_left
          · intro w'
            go_simp
            with_reducible rfl
          rotate_left
          · simp only [Act.put, List.setIfInBounds_toArray, List.set_cons_zero, List.set_cons_succ, i64_w, i32_w]
            rfl
          refine take_ (i := 10) (N := some 45) (v := ?_) (a' := ?_) #[true, true, true, true, true, true, true, true, true, true, true, true, false, false, false, false, false, false] rfl rfl (by kernel_rfl) (fun _ _ _ h => h) (Or.inl ⟨by rfl, ?_⟩) hHeld ?_ ?_
          rotate_left
          · rintro w' s0
            go_simp
            with_reducible rfl
          rotate_left
          · simp only [Act.put, List.setIfInBounds_toArray, List.set_cons_zero, List.set_cons_succ, i64_w, i32_w]
            rfl
          refine one_ (i := 12) (N := some 47) #[true, true, true, true, true, true, true, true, true, true, true, true, true, false, false, false, false, false] rfl rfl (by kernel_rfl) (by decide) (fun K hK => ?_)
          refine goes_ Tryd.func23 (by kernel_rfl) rfl #[.string vv] (by rfl) rfl rfl (by (try simp only [List.map_toArray, List.map_cons, List.map_nil]); first | done | rfl) ?_
          with_reducible refine (decorumref09_Lower.calls vv _ _ HL.out).mono ?_
          rintro e w4 ⟨rfl, hb4⟩
          refine ⟨_, rfl, ?_⟩
          have HH4 := Aside0.mk (Kd.H_below HH3.out hb4)
          have HR04 := Aside0.mk (Kd.R_below HR03.out hb4)
          have HR14 := Aside0.mk (Kd.R_below HR13.out hb4)
          have HB4 := Aside0.mk (below_step HB3.out hb4)
          have hcA4 := (hb4.cell (World.block_lt_of_cell? _ _ hcA3)).trans hcA3
          have hfr4 : w4.frozen? ⟨g1, (G.length - 1) * 3, none⟩ = false := (World.frozen?_of_block (w := w3) (hb4.block g1 (World.block_lt_of_cell? _ _ hcA3))).trans hfr3
          clear HH3 HR03 HR13 HB3 hcA3 hfr3 hb4
          refine hK.out _ _ hcA4 (fun hHeld => ?_)
          clear hK K
          refine norm_ (a' := ?_) ?_ ?_
          rotate_left
          · show Act.put _ (some 47) _ = _
            simp only [Act.put, List.setIfInBounds_toArray, List.set_cons_zero, List.set_cons_succ, i64_w, i32_w]
            rfl
          refine one_ (i := 13) (N := some 48) #[true, true, true, true, true, true, true, true, true, true, true, true, true, true, false, false, false, false] rfl rfl (by kernel_rfl) (by decide) (fun K hK => ?_)
          refine value_ (w1 := ?_) (v := ?_) (by rfl) rfl ?_ ?_
          rotate_left 2
          · go_simp
            constructor
            · rfl
            · rfl
          refine hK.out _ _ ((World.cell?_alloc_lt _ _ _ (World.block_lt_of_cell? _ _ hcA4)).trans hcA4) (fun hHeld => ?_)
          clear hK K
          refine norm_ (a' := ?_) ?_ ?_
          rotate_left
          · show Act.put _ (some 48) _ = _
            simp only [Act.put, List.setIfInBounds_toArray, List.set_cons_zero, List.set_cons_succ, i64_w, i32_w]
            rfl
          refine one_ (i := 14) (N := some 49) #[true, true, true, true, true, true, true, true, true, true, true, true, true, true, true, false, false, false] rfl rfl (by kernel_rfl) (by decide) (fun K hK => ?_)
          refine Kd.R_append_step Kd.string (w0 := w) w.heap.size (by rfl) (.tmp 45) (.tmp 48) 44 9 (.string ⟨#[]⟩) 16 rfl Tryd.underlying44 info9 rfl (by decide) (by omega) e0 (G.getD (G.length - 1) z57).f0 ⟨(lowL vv.data.toList).toArray⟩ [.string ⟨(lowL vv.data.toList).toArray⟩] (fun k => oki k ∨ True ∧ w4.heap.size ≤ k) (fun _ => False) rfl rfl rfl (fun _ hk => hk.elim) (fun k hk => .inr ⟨trivial, hk⟩) (Kd.R_mono HR04.out (fun _ hk => .inl hk)) HB4.out HB4.out.size (by have := hl0'; simp only [lastR] at this; omega) ?_
          intro v1 w5 ho hb5 hg hat
          have hgne : some g1 ≠ e0.ownBlock := fun e => hne g1 (HR04.out.1 g1 e.symm) rfl
          have HH5 := Aside0.mk (Kd.H_grown (Kd.H_widen HH4.out) hg (fun k hk => .inl (HR04.out.1 k hk)))
          have HR15 := Aside0.mk (Kd.R_mono (ok' := fun k => oki k ∨ True ∧ w4.heap.size ≤ k) (Kd.R_over' HR14.out (Kd.R_typed HR04.out) (by decide) hg) (fun _ hk => .inl hk))
          have hbk := hg.block g1 (World.block_lt_of_cell? _ _ hcA4) hgne
          have hcA5 : w5.cell? ⟨g1, (G.length - 1) * 3, none⟩ = some e0 := (World.cell?_of_block (w := w4) hbk).trans hcA4
          have hfr5 : w5.frozen? ⟨g1, (G.length - 1) * 3, none⟩ = false := (World.frozen?_of_block (w := w4) hbk).trans hfr4
          have hlt4 : Hid (g1 < w4.heap.size) := World.block_lt_of_cell? _ _ hcA4
          have ho5 := Aside0.mk ho
          have hone := (Kd.R_val ho).2
          have hv1 : ∃ A n c, v1 = .slice A n c := by obtain ⟨A, c, e⟩ := Kd.R_slice ho; exact ⟨A, _, c, e⟩
          refine hK.out _ _ hcA5 (fun hHeld => ?_)
          clear hK K
          refine norm_ (a' := ?_) ?_ ?_
          rotate_left
          · show Act.put _ (some 49) _ = _
            simp only [Act.put, List.setIfInBounds_toArray, List.set_cons_zero, List.set_cons_succ, i64_w, i32_w]
            rfl
          clear HH4 HR04 HR14 HB4 hcA4 hfr4 hgne hg hat hbk ho
          obtain ⟨A1, N1, c1, rfl⟩ := hv1
          refine pure_ (i := 15) (N := some 50) (v := ?_) (a' := ?_) #[true, true, true, true, true, true, true, true, true, true, true, true, true, true, true, true, false, false] rfl rfl (by kernel_rfl) (fun _ _ _ h => h) (Or.inl ⟨by rfl, ?_⟩) ?_ ?_
          rotate_left
          · intro w'
            go_simp
            with_reducible rfl
          rotate_left
          · simp only [Act.put, List.setIfInBounds_toArray, List.set_cons_zero, List.set_cons_succ, i64_w, i32_w]
            rfl
          refine pure_ (i := 16) (N := some 51) (v := ?_) (a' := ?_) #[true, true, true, true, true, true, true, true, true, true, true, true, true, true, true, true, true, false] rfl rfl (by kernel_rfl) (fun _ _ _ h => h) (Or.inl ⟨by rfl, ?_⟩) ?_ ?_
          rotate_left
          · intro w'
            go_simp
            with_reducible rfl
          rotate_left
          · simp only [Act.put, List.setIfInBounds_toArray, List.set_cons_zero, List.set_cons_succ, i64_w, i32_w]
            rfl
          refine last_ (i := 17) (N := none) #[true, true, true, true, true, true, true, true, true, true, true, true, true, true, true, true, true, true] rfl rfl (by kernel_rfl) (by decide) (fun K hK => ?_)
          refine skip_ (w1 := ?_) (by rfl) rfl ?_ ?_
          rotate_left
          · go_simp
            rfl
          refine hK.out _ _ ?_
          clear hK K
          refine done_ (by kernel_rfl) ?_
          have hput := last_put57 HH5.out hgs 0 (by omega) _ hone { lastR G with f0 := (lastR G).f0 ++ [⟨(lowL vv.data.toList).toArray⟩] } (k57_mkM _ _ _ _ ho5.out HR15.out) (fun k hk => hk.elim (hne k) (fun h e => by have := hlt4.out; have := h.2; omega))
          rw [Nat.add_zero] at hput
          have HSn : Aside0 (Kd.S k57 57 (w5.setCell ⟨g1, (G.length - 1) * 3, none⟩ (.slice A1 N1 c1)) w.heap.size (fun _ => True) (.slice (some ⟨g1, 0, none⟩) G.length cap1) (agentR gs true vv)) := ⟨by rw [hfin]; exact hput.1⟩
          have HBn := Aside0.mk (hb5.setCell (p := ⟨g1, (G.length - 1) * 3, none⟩) hg1 (.slice A1 N1 c1))
          clear hput hb5 HH5 HR15 ho5 hcA5 hfr5
          go_wp2
          go_roundw
          case rel => exact ⟨i + 1, agentR gs true vv, false, by go_num, rfl, by omega, hnext, hF2, HSn, HBn⟩
          case measure => simp [intOf]; omega
        | false =>
          have hgs : 0 < gs.length := List.length_pos_iff.mpr (hle.out.2.2.2 rfl)
          obtain ⟨g1, cap1, rfl, hg1, hg1l, cells1, hcells1⟩ := Kd.S_form HS.out hgs
          go_upto_region 6 with (fail)
          go_region
          go_upto_region 11 with (fail)
          have HS2 := Aside0.mk (Kd.S_drew HS.out)
          have HB2 := Aside0.mk (below_drew1 HB.out)
          have hfin : agentR gs false vv = setR gs { lastR gs with f0 := (lastR gs).f0 ++ [⟨(lowL vv.data.toList).toArray⟩] } := rfl
          have hl0' : (lastR gs).f0.length < 1000000 := by
            have : lastR gs ∈ gs := by
              unfold lastR
              rw [List.getD_eq_getElem?_getD, List.getElem?_eq_getElem (by omega)]
              exact List.getElem_mem _
            exact hle.out.2.2.1 _ this
          have hll : gs.length < 1000001 := by have := hle.out.2.1; omega
          clear HS HB hx0 hx1 hcells1
          generalize wr.drew = w2 at *
          have HL := Aside0.mk (show decorumref09_Lower.f vv = some ⟨(lowL vv.data.toList).toArray⟩ by rw [decorumref09_Lower.f, if_pos hle.out.1])
          obtain ⟨oki, e0, e1, R0, R1, hcA, hcB, hcC, hfr, hne, hH⟩ := last_open57 HS2.out hgs
          have hw1 : wrap64 ((gs.length : Int) - 1) = ((gs.length - 1 : Nat) : Int) := by simp only [wrap64]; omega
          have hw2 : IntKind.i64.wrap ((gs.length : Int) - 1) = ((gs.length - 1 : Nat) : Int) := by rw [i64_w]; exact hw1
          have hlt1 : (((gs.length - 1 : Nat) : Int) < (gs.length : Int)) = True := eq_true (by omega)
          have hadd : (⟨g1, 0, none⟩ : Addr).add ((gs.length - 1) * 3) = ⟨g1, (gs.length - 1) * 3, none⟩ := by unfold Addr.add; split <;> simp_all
          have HH := Aside0.mk hH
          have HR0' := Aside0.mk R0
          have HR1 := Aside0.mk R1
          clear hH R0 R1 HS2
          go_wp2
          have HH3 := Aside0.mk (Kd.H_drew HH.out)
          have HR03 := Aside0.mk (Kd.R_drew HR0'.out)
          have HR13 := Aside0.mk (Kd.R_drew HR1.out)
          have HB3 := Aside0.mk (below_drew1 HB2.out)
          have hcA3 : w2.drew.cell? ⟨g1, (gs.length - 1) * 3, none⟩ = some e0 := hcA
          have hfr3 : w2.drew.frozen? ⟨g1, (gs.length - 1) * 3, none⟩ = false := hfr 0
          refine start_ (n := 18) (S := fun w' => w'.cell? ⟨g1, (gs.length - 1) * 3, none⟩ = some e0) (ds := [17]) #[false, false, false, false, false, false, false, false, false, false, false, false, false, false, false, false, false, false] (by kernel_rfl) rfl rfl hcA3 (fun hHeld => ?_)
          generalize w2.drew = w3 at HH3 HR03 HR13 HB3 hcA3 hfr3 hHeld ⊢
          clear HH HR0' HR1 hcA hcB hcC hfr HB2
          refine pure_ (i := 0) (N := some 35) (v := ?_) (a' := ?_) #[true, false, false, false, false, false, false, false, false, false, false, false, false, false, false, false, false, false] rfl rfl (by kernel_rfl) (fun _ _ _ h => h) (Or.inl ⟨by rfl, ?_⟩) ?_ ?_
          rotate_left
          · intro w'
            go_simp
            with_reducible rfl
          rotate_left
          · simp only [Act.put, List.setIfInBounds_toArray, List.set_cons_zero, List.set_cons_succ, i64_w, i32_w]
            rfl
          refine pure_ (i := 1) (N := some 36) (v := ?_) (a' := ?_) #[true, true, false, false, false, false, false, false, false, false, false, false, false, false, false, false, false, false] rfl rfl (by kernel_rfl) (fun _ _ _ h => h) (Or.inl ⟨by rfl, ?_⟩) ?_ ?_
          rotate_left
          · intro w'
            go_simp
            with_reducible rfl
          rotate_left
          · simp only [Act.put, List.setIfInBounds_toArray, List.set_cons_zero, List.set_cons_succ, i64_w, i32_w]
            rfl
          refine pure_ (i := 2) (N := some 37) (v := ?_) (a' := ?_) #[true, true, true, false, false, false, false, false, false, false, false, false, false, false, false, false, false, false] rfl rfl (by kernel_rfl) (fun _ _ _ h => h) (Or.inl ⟨by rfl, ?_⟩) ?_ ?_
          rotate_left
          · intro w'
            go_simp
            with_reducible rfl
          rotate_left
          · simp only [Act.put, List.setIfInBounds_toArray, List.set_cons_zero, List.set_cons_succ, i64_w, i32_w]
            rfl
          refine pure_ (i := 3) (N := some 38) (v := ?_) (a' := ?_) #[true, true, true, true, false, false, false, false, false, false, false, false, false, false, false, false, false, false] rfl rfl (by kernel_rfl) (fun _ _ _ h => h) (Or.inl ⟨by rfl, ?_⟩) ?_ ?_
          rotate_left
          · intro w'
            go_simp
            with_reducible rfl
          rotate_left
          · simp only [Act.put, List.setIfInBounds_toArray, List.set_cons_zero, List.set_cons_succ, i64_w, i32_w]
            rfl
          refine pure_ (i := 4) (N := some 39) (v := ?_) (a' := ?_) #[true, true, true, true, true, false, false, false, false, false, false, false, false, false, false, false, false, false] rfl rfl (by kernel_rfl) (fun _ _ _ h => h) (Or.inl ⟨by rfl, ?_⟩) ?_ ?_
          rotate_left
          · intro w'
            go_simp
            with_reducible rfl
          rotate_left
          · simp only [Act.put, List.setIfInBounds_toArray, List.set_cons_zero, List.set_cons_succ, i64_w, i32_w]
            rfl
          refine pure_ (i := 5) (N := some 40) (v := ?_) (a' := ?_) #[true, true, true, true, true, true, false, false, false, false, false, false, false, false, false, false, false, false] rfl rfl (by kernel_rfl) (fun _ _ _ h => h) (Or.inl ⟨by rfl, ?_⟩) ?_ ?_
          rotate_left
          · intro w'
            go_simp
            with_reducible rfl
          rotate_left
          · simp only [Act.put, List.setIfInBounds_toArray, List.set_cons_zero, List.set_cons_succ, i64_w, i32_w]
            rfl
          refine pure_ (i := 6) (N := some 41) (v := ?_) (a' := ?_) #[true, true, true, true, true, true, true, false, false, false, false, false, false, false, false, false, false, false] rfl rfl (by kernel_rfl) (fun _ _ _ h => h) (Or.inl ⟨by rfl, ?_⟩) ?_ ?_
          rotate_left
          · intro w'
            go_simp
            with_reducible rfl
          rotate_left
          · simp only [Act.put, List.setIfInBounds_toArray, List.set_cons_zero, List.set_cons_succ, i64_w, i32_w]
            rfl
          refine pure_ (i := 7) (N := some 42) (v := ?_) (a' := ?_) #[true, true, true, true, true, true, true, true, false, false, false, false, false, false, false, false, false, false] rfl rfl (by kernel_rfl) (fun _ _ _ h => h) (Or.inl ⟨by rfl, ?_⟩) ?_ ?_
          rotate_left
          · intro w'
            go_simp
            with_reducible rfl
          rotate_left
          · simp only [Act.put, List.setIfInBounds_toArray, List.set_cons_zero, List.set_cons_succ, i64_w, i32_w]
            rfl
          refine pure_ (i := 8) (N := some 43) (v := ?_) (a' := ?_) #[true, true, true, true, true, true, true, true, true, false, false, false, false, false, false, false, false, false] rfl rfl (by kernel_rfl) (fun _ _ _ h => h) (Or.inl ⟨by rfl, ?_⟩) ?_ ?_
          rotate_left
          · intro w'
            go_simp
            with_reducible rfl
          rotate_left
          · simp only [Act.put, List.setIfInBounds_toArray, List.set_cons_zero, List.set_cons_succ, i64_w, i32_w]
            rfl
          refine pure_ (i := 9) (N := some 44) (v := ?_) (a' := ?_) #[true, true, true, true, true, true, true, true, true, true, false, false, false, false, false, false, false, false] rfl rfl (by kernel_rfl) (fun _ _ _ h => h) (Or.inl ⟨by rfl, ?_⟩) ?_ ?_
          rotate_left
          · intro w'
            go_simp
            with_reducible rfl
          rotate_left
          · simp only [Act.put, List.setIfInBounds_toArray, List.set_cons_zero, List.set_cons_succ, i64_w, i32_w]
            rfl
          refine pure_ (i := 11) (N := some 46) (v := ?_) (a' := ?_) #[true, true, true, true, true, true, true, true, true, true, false, true, false, false, false, false, false, false] rfl rfl (by kernel_rfl) (fun _ _ _ h => h) (Or.inl ⟨by rfl, ?_⟩) ?_ ?_
          rotate_left
          · intro w'
            go_simp
            with_reducible rfl
          rotate_left
          · simp only [Act.put, List.setIfInBounds_toArray, List.set_cons_zero, List.set_cons_succ, i64_w, i32_w]
            rfl
          refine take_ (i := 10) (N := some 45) (v := ?_) (a' := ?_) #[true, true, true, true, true, true, true, true, true, true, true, true, false, false, false, false, false, false] rfl rfl (by kernel_rfl) (fun _ _ _ h => h) (Or.inl ⟨by rfl, ?_⟩) hHeld ?_ ?_
          rotate_left
          · rintro w' s0
            go_simp
            with_reducible rfl
          rotate_left
          · simp only [Act.put, List.setIfInBounds_toArray, List.set_cons_zero, List.set_cons_succ, i64_w, i32_w]
            rfl
          refine one_ (i := 12) (N := some 47) #[true, true, true, true, true, true, true, true, true, true, true, true, true, false, false, false, false, false] rfl rfl (by kernel_rfl) (by decide) (fun K hK => ?_)
          refine goes_ Tryd.func23 (by kernel_rfl) rfl #[.string vv] (by rfl) rfl rfl (by (try simp only [List.map_toArray, List.map_cons, List.map_nil]); first | done | rfl) ?_
          with_reducible refine (decorumref09_Lower.calls vv _ _ HL.out).mono ?_
          rintro e w4 ⟨rfl, hb4⟩
          refine ⟨_, rfl, ?_⟩
          have HH4 := Aside0.mk (Kd.H_below HH3.out hb4)
          have HR04 := Aside0.mk (Kd.R_below HR03.out hb4)
          have HR14 := Aside0.mk (Kd.R_below HR13.out hb4)
          have HB4 := Aside0.mk (below_step HB3.out hb4)
          have hcA4 := (hb4.cell (World.block_lt_of_cell? _ _ hcA3)).trans hcA3
          have hfr4 : w4.frozen? ⟨g1, (gs.length - 1) * 3, none⟩ = false := (World.frozen?_of_block (w := w3) (hb4.block g1 (World.block_lt_of_cell? _ _ hcA3))).trans hfr3
          clear HH3 HR03 HR13 HB3 hcA3 hfr3 hb4
          refine hK.out _ _ hcA4 (fun hHeld => ?_)
          clear hK K
          refine norm_ (a' := ?_) ?_ ?_
          rotate_left
          · show Act.put _ (some 47) _ = _
            simp only [Act.put, List.setIfInBounds_toArray, List.set_cons_zero, List.set_cons_succ, i64_w, i32_w]
            rfl
          refine one_ (i := 13) (N := some 48) #[true, true, true, true, true, true, true, true, true, true, true, true, true, true, false, false, false, false] rfl rfl (by kernel_rfl) (by decide) (fun K hK => ?_)
          refine value_ (w1 := ?_) (v := ?_) (by rfl) rfl ?_ ?_
          rotate_left 2
          · go_simp
            constructor
            · rfl
            · rfl
          refine hK.out _ _ ((World.cell?_alloc_lt _ _ _ (World.block_lt_of_cell? _ _ hcA4)).trans hcA4) (fun hHeld => ?_)
          clear hK K
          refine norm_ (a' := ?_) ?_ ?_
          rotate_left
          · show Act.put _ (some 48) _ = _
            simp only [Act.put, List.setIfInBounds_toArray, List.set_cons_zero, List.set_cons_succ, i64_w, i32_w]
            rfl
          refine one_ (i := 14) (N := some 49) #[true, true, true, true, true, true, true, true, true, true, true, true, true, true, true, false, false, false] rfl rfl (by kernel_rfl) (by decide) (fun K hK => ?_)
          refine Kd.R_append_step Kd.string (w0 := w) w.heap.size (by rfl) (.tmp 45) (.tmp 48) 44 9 (.string ⟨#[]⟩) 16 rfl Tryd.underlying44 info9 rfl (by decide) (by omega) e0 (gs.getD (gs.length - 1) z57).f0 ⟨(lowL vv.data.toList).toArray⟩ [.string ⟨(lowL vv.data.toList).toArray⟩] (fun k => oki k ∨ True ∧ w4.heap.size ≤ k) (fun _ => False) rfl rfl rfl (fun _ hk => hk.elim) (fun k hk => .inr ⟨trivial, hk⟩) (Kd.R_mono HR04.out (fun _ hk => .inl hk)) HB4.out HB4.out.size (by have := hl0'; simp only [lastR] at this; omega) ?_
          intro v1 w5 ho hb5 hg hat
          have hgne : some g1 ≠ e0.ownBlock := fun e => hne g1 (HR04.out.1 g1 e.symm) rfl
          have HH5 := Aside0.mk (Kd.H_grown (Kd.H_widen HH4.out) hg (fun k hk => .inl (HR04.out.1 k hk)))
          have HR15 := Aside0.mk (Kd.R_mono (ok' := fun k => oki k ∨ True ∧ w4.heap.size ≤ k) (Kd.R_over' HR14.out (Kd.R_typed HR04.out) (by decide) hg) (fun _ hk => .inl hk))
          have hbk := hg.block g1 (World.block_lt_of_cell? _ _ hcA4) hgne
          have hcA5 : w5.cell? ⟨g1, (gs.length - 1) * 3, none⟩ = some e0 := (World.cell?_of_block (w := w4) hbk).trans hcA4
          have hfr5 : w5.frozen? ⟨g1, (gs.length - 1) * 3, none⟩ = false := (World.frozen?_of_block (w := w4) hbk).trans hfr4
          have hlt4 : Hid (g1 < w4.heap.size) := World.block_lt_of_cell? _ _ hcA4
          have ho5 := Aside0.mk ho
          have hone := (Kd.R_val ho).2
          have hv1 : ∃ A n c, v1 = .slice A n c := by obtain ⟨A, c, e⟩ := Kd.R_slice ho; exact ⟨A, _, c, e⟩
          refine hK.out _ _ hcA5 (fun hHeld => ?_)
          clear hK K
          refine norm_ (a' := ?_) ?_ ?_
          rotate_left
          · show Act.put _ (some 49) _ = _
            simp only [Act.put, List.setIfInBounds_toArray, List.set_cons_zero, List.set_cons_succ, i64_w, i32_w]
            rfl
          clear HH4 HR04 HR14 HB4 hcA4 hfr4 hgne hg hat hbk ho
          obtain ⟨A1, N1, c1, rfl⟩ := hv1
          refine pure_ (i := 15) (N := some 50) (v := ?_) (a' := ?_) #[true, true, true, true, true, true, true, true, true, true, true, true, true, true, true, true, false, false] rfl rfl (by kernel_rfl) (fun _ _ _ h => h) (Or.inl ⟨by rfl, ?_⟩) ?_ ?_
          rotate_left
          · intro w'
            go_simp
            with_reducible rfl
          rotate_left
          · simp only [Act.put, List.setIfInBounds_toArray, List.set_cons_zero, List.set_cons_succ, i64_w, i32_w]
            rfl
          refine pure_ (i := 16) (N := some 51) (v := ?_) (a' := ?_) #[true, true, true, true, true, true, true, true, true, true, true, true, true, true, true, true, true, false] rfl rfl (by kernel_rfl) (fun _ _ _ h => h) (Or.inl ⟨by rfl, ?_⟩) ?_ ?_
          rotate_left
          · intro w'
            go_simp
            with_reducible rfl
          rotate_left
          · simp only [Act.put, List.setIfInBounds_toArray, List.set_cons_zero, List.set_cons_succ, i64_w, i32_w]
            rfl
          refine last_ (i := 17) (N := none) #[true, true, true, true, true, true, true, true, true, true, true, true, true, true, true, true, true, true] rfl rfl (by kernel_rfl) (by decide) (fun K hK => ?_)
          refine skip_ (w1 := ?_) (by rfl) rfl ?_ ?_
          rotate_left
          · go_simp
            rfl
          refine hK.out _ _ ?_
          clear hK K
          refine done_ (by kernel_rfl) ?_
          have hput := last_put57 HH5.out hgs 0 (by omega) _ hone { lastR gs with f0 := (lastR gs).f0 ++ [⟨(lowL vv.data.toList).toArray⟩] } (k57_mkM _ _ _ _ ho5.out HR15.out) (fun k hk => hk.elim (hne k) (fun h e => by have := hlt4.out; have := h.2; omega))
          rw [Nat.add_zero] at hput
          have HSn : Aside0 (Kd.S k57 57 (w5.setCell ⟨g1, (gs.length - 1) * 3, none⟩ (.slice A1 N1 c1)) w.heap.size (fun _ => True) (.slice (some ⟨g1, 0, none⟩) gs.length cap1) (agentR gs false vv)) := ⟨by rw [hfin]; exact hput.1⟩
          have HBn := Aside0.mk (hb5.setCell (p := ⟨g1, (gs.length - 1) * 3, none⟩) hg1 (.slice A1 N1 c1))
          clear hput hb5 HH5 HR15 ho5 hcA5 hfr5
          go_wp2
          go_roundw
          case rel => exact ⟨i + 1, agentR gs false vv, false, by go_num, rfl, by omega, hnext, hF2, HSn, HBn⟩
          case measure => simp [intOf]; omega
      · have hk' : (kk.toList == [117, 115, 101, 114, 45, 97, 103, 101, 110, 116]) = false := by cases h : (kk.toList == [117, 115, 101, 114, 45, 97, 103, 101, 110, 116]); rfl; exact absurd h hk
        by_cases hgs0 : gs = []
        · subst hgs0
          have hstep : stepR ([], told) ⟨kk, vv⟩ = ([], told) := by simp only [stepR]; rw [if_neg hk]; rfl
          rw [hstep] at hF2 hnext
          obtain ⟨A3, c3, rfl⟩ := Kd.S_slice HS.out
          clear hinv hk hstep
          simp only [List.length_nil] at HS ⊢
          go_upto_region 6 with (fail)
          go_region
          go_wp2
          go_roundw
          case rel => exact ⟨i + 1, [], told, by go_num, rfl, by omega, hnext, hF2, ⟨Kd.S_drew HS.out⟩, ⟨below_drew1 HB.out⟩⟩
          case measure => simp [intOf]; omega
        have hgs : 0 < gs.length := List.length_pos_iff.mpr hgs0
        have hll : gs.length < 1000000 := by have h1 : gs.length ≤ i := hinv.out.len; omega
        obtain ⟨g1, cap1, rfl, hg1, hg1l, cells1, hcells1⟩ := Kd.S_form HS.out hgs
        have hn0 : ((gs.length : Int) == 0) = false := by simp; exact hgs0
        clear hinv hcells1 hg1l
        go_upto_region 6 with (fail)
        go_region
        have HS2 := Aside0.mk (Kd.S_drew HS.out)
        have HB2 := Aside0.mk (below_drew1 HB.out)
        clear HS HB hx0 hx1
        generalize wr.drew = w2 at HS2 HB2 ⊢
        by_cases hA : (kk.toList == sAllow) = true ∨ (kk.toList == sDis) = true
        · have hAD : ∃ isA : Bool, (kk.toList == sAllow) = isA ∧ ((kk.toList == [97, 108, 108, 111, 119]) = true ∧ isA = true ∨ (kk.toList == [97, 108, 108, 111, 119]) = false ∧ (kk.toList == [100, 105, 115, 97, 108, 108, 111, 119]) = true ∧ isA = false) := by
            cases h1 : (kk.toList == sAllow) with
            | true => exact ⟨true, rfl, .inl ⟨h1, rfl⟩⟩
            | false => exact ⟨false, rfl, .inr ⟨h1, by rcases hA with h | h; rw [h1] at h; cases h; exact h, rfl⟩⟩
          obtain ⟨isA, hisA, hAD⟩ := hAD
          rcases hAD with ⟨hkA, rfl⟩ | ⟨hkA, hkD, rfl⟩
          · have e3 : (kk.toList == [99, 114, 97, 119, 108, 45, 100, 101, 108, 97, 121]) = false := by rw [eq_of_beq hkA]; decide
            have hfin1 : ∀ x, (if vv.toList.isEmpty = false ∧ (lastR gs).f1.length < 64 then setR gs { lastR gs with f1 := (lastR gs).f1 ++ [⟨kk.toList == sAllow, vv⟩] } else gs) = x → stepR (gs, told) ⟨kk, vv⟩ = (x, true) := by intro x hx; simp only [stepR]; rw [if_neg hk, if_neg hgs0, if_pos hA, hx]
            rw [hisA] at hfin1
            clear hA hisA hk
            obtain ⟨oki, e0, e1, R0, R1, hcA, hcB, hcC, hfr, hne, hH⟩ := last_open57 HS2.out hgs
            obtain ⟨A1, c1, he1⟩ := Kd.R_slice R1
            obtain ⟨N1, hN1⟩ : ∃ N, N = (gs.getD (gs.length - 1) z57).f1.length := ⟨_, rfl⟩
            rw [← hN1] at he1
            subst he1
            replace hN1 : Hid (N1 = (gs.getD (gs.length - 1) z57).f1.length) := hN1
            have hw1 : wrap64 ((gs.length : Int) - 1) = ((gs.length - 1 : Nat) : Int) := by simp only [wrap64]; omega
            have hw2 : IntKind.i64.wrap ((gs.length : Int) - 1) = ((gs.length - 1 : Nat) : Int) := by rw [i64_w]; exact hw1
            have hlt1 : (((gs.length - 1 : Nat) : Int) < (gs.length : Int)) = True := eq_true (by clear hw1 hw2; omega)
            have hadd : (⟨g1, 0, none⟩ : Addr).add ((gs.length - 1) * 3) = ⟨g1, (gs.length - 1) * 3, none⟩ := by unfold Addr.add; split <;> simp_all
            by_cases hv : vv.toList.isEmpty = false ∧ N1 < 64
            · obtain ⟨hv1, hv2⟩ := hv
              have hfin := hfin1 _ (if_pos ⟨hv1, by have := hN1.out; show (gs.getD (gs.length - 1) z57).f1.length < 64; clear hw1 hw2; omega⟩)
              rw [hfin] at hF2 hnext
              have hv3 : ((N1 : Int) < 64) = True := eq_true (by clear hw1 hw2; omega)
              have hv4 : (vv.toList = []) = False := eq_false (by intro e; rw [e] at hv1; cases hv1)
              have HH := Aside0.mk hH
              have HR0' := Aside0.mk R0
              have HR1 := Aside0.mk R1
              have hcB0 := Aside0.mk hcB
              have hfr1 := Aside0.mk (hfr 1)
              have hne' := Aside0.mk hne
              clear hH R0 R1 hcA hcC hfr hfin1 hfin hne hn0
              replace hn0 : ((gs.length : Int) == 0) = false := by simp; exact hgs0
              go_wp2_with (first
                | ((with_reducible refine gate_builtin (b := .append) (xs := #[.tmp 106, .tmp 111]) rfl ?_); at_builtin; (refine Kd.R_append k59 (w0 := w) w.heap.size rfl (.tmp 106) (.tmp 111) 51 59 (.agg #[.bool false, .string ⟨#[]⟩]) 24 rfl Tryd.underlying51 info59 rfl (by decide) (by omega) (.slice A1 N1 c1) (gs.getD (gs.length - 1) z57).f1 ⟨true, vv⟩ [.bool true, .string vv] (fun k => oki k ∨ True ∧ w2.heap.size ≤ k) (fun _ => False) rfl rfl (k59_mkM _ _ _ _) (fun _ hk => hk.elim) (fun k hk => .inr ⟨trivial, hk⟩) (Kd.R_mono HR1.out (fun _ hk => .inl hk)) HB2.out HB2.out.size (by have := hN1.out; clear hw1 hw2; omega) ?_); intro v1 w5 ho hb5 hg hat; have hgne : some g1 ≠ (Value.slice A1 N1 c1).ownBlock := fun e => hne'.out g1 (HR1.out.1 g1 e.symm) rfl; have HH5 := Aside0.mk (Kd.H_grown (Kd.H_widen HH.out) hg (fun k hk => .inl (HR1.out.1 k hk))); have HR05 := Aside0.mk (Kd.R_mono (ok' := fun k => oki k ∨ True ∧ w2.heap.size ≤ k) (Kd.R_over' HR0'.out (Kd.R_typed HR1.out) (by decide) hg) (fun _ hk => .inl hk)); have hbk := hg.block g1 (World.block_lt_of_cell? _ _ hcB0.out) hgne; have hfr5 : w5.frozen? ⟨g1, (gs.length - 1) * 3 + 1, none⟩ = false := (World.frozen?_of_block (w := w2) hbk).trans hfr1.out; have hcB5 : w5.cell? ⟨g1, (gs.length - 1) * 3 + 1, none⟩ = some (.slice A1 N1 c1) := (World.cell?_of_block (w := w2) hbk).trans hcB0.out; have hlt4 : Hid (g1 < w2.heap.size) := World.block_lt_of_cell? _ _ hcB0.out; have ho5 := Aside0.mk ho; have hone := Aside0.mk (Kd.R_val ho).2; have HB5 := Aside0.mk hb5; have hv1' : ∃ A n c, v1 = .slice A n c := (by obtain ⟨A, c, e⟩ := Kd.R_slice ho; exact ⟨A, _, c, e⟩); obtain ⟨A2, N2, c2, rfl⟩ := hv1'; clear hcB hg hat hbk ho hb5 hgne))
              have hput := last_put57 HH5.out hgs 1 (by clear hw1 hw2; omega) _ hone.out { lastR gs with f1 := (lastR gs).f1 ++ [⟨true, vv⟩] } (k57_mkM _ _ _ ({ lastR gs with f1 := (lastR gs).f1 ++ [⟨true, vv⟩] } : S57) HR05.out ho5.out) (fun k hk => hk.elim (hne'.out k) (fun h e => by have h1 := hlt4.out; have h2 := h.2; clear hw1 hw2; omega))
              have HSn : Aside0 (Kd.S k57 57 (w5.setCell ⟨g1, (gs.length - 1) * 3 + 1, none⟩ (.slice A2 N2 c2)) w.heap.size (fun _ => True) (.slice (some ⟨g1, 0, none⟩) gs.length cap1) (setR gs { lastR gs with f1 := (lastR gs).f1 ++ [⟨true, vv⟩] })) := ⟨hput.1⟩
              have HBn := Aside0.mk (HB5.out.setCell (p := ⟨g1, (gs.length - 1) * 3 + 1, none⟩) hg1 (.slice A2 N2 c2))
              clear hput
              go_roundw
              case rel => exact ⟨i + 1, _, true, by go_num, rfl, by omega, hnext, hF2, HSn, HBn⟩
              case measure => simp [intOf]; omega
            · have hfin := hfin1 _ (if_neg (fun hh => hv ⟨hh.1, by have h2 : (gs.getD (gs.length - 1) z57).f1.length < 64 := hh.2; have := hN1.out; clear hw1 hw2; omega⟩))
              rw [hfin] at hF2 hnext
              have key : vv.toList.isEmpty = true ∨ (vv.toList.isEmpty = false ∧ ((N1 : Int) < 64) = False) := by cases h : vv.toList.isEmpty; exact .inr ⟨rfl, eq_false (fun h2 => hv ⟨h, by clear hw1 hw2; omega⟩)⟩; exact .inl rfl
              clear hH R0 R1 hcA hcC hfr hfin1 hv hfin
              rcases key with hv1 | ⟨hv1, hv3⟩
              · have hv4 : (vv.toList = []) = True := eq_true (by simpa using hv1)
                go_wp2
                go_roundw
                case rel => exact ⟨i + 1, gs, true, by go_num, rfl, by omega, hnext, hF2, HS2, HB2⟩
                case measure => simp [intOf]; omega
              · have hv4 : (vv.toList = []) = False := eq_false (by intro e; rw [e] at hv1; cases hv1)
                go_wp2
                go_roundw
                case rel => exact ⟨i + 1, gs, true, by go_num, rfl, by omega, hnext, hF2, HS2, HB2⟩
                case measure => simp [intOf]; omega
          · have e3 : (kk.toList == [99, 114, 97, 119, 108, 45, 100, 101, 108, 97, 121]) = false := by rw [eq_of_beq hkD]; decide
            have hfin1 : ∀ x, (if vv.toList.isEmpty = false ∧ (lastR gs).f1.length < 64 then setR gs { lastR gs with f1 := (lastR gs).f1 ++ [⟨kk.toList == sAllow, vv⟩] } else gs) = x → stepR (gs, told) ⟨kk, vv⟩ = (x, true) := by intro x hx; simp only [stepR]; rw [if_neg hk, if_neg hgs0, if_pos hA, hx]
            rw [hisA] at hfin1
            clear hA hisA hk
            obtain ⟨oki, e0, e1, R0, R1, hcA, hcB, hcC, hfr, hne, hH⟩ := last_open57 HS2.out hgs
            obtain ⟨A1, c1, he1⟩ := Kd.R_slice R1
            obtain ⟨N1, hN1⟩ : ∃ N, N = (gs.getD (gs.length - 1) z57).f1.length := ⟨_, rfl⟩
            rw [← hN1] at he1
            subst he1
            replace hN1 : Hid (N1 = (gs.getD (gs.length - 1) z57).f1.length) := hN1
            have hw1 : wrap64 ((gs.length : Int) - 1) = ((gs.length - 1 : Nat) : Int) := by simp only [wrap64]; omega
            have hw2 : IntKind.i64.wrap ((gs.length : Int) - 1) = ((gs.length - 1 : Nat) : Int) := by rw [i64_w]; exact hw1
            have hlt1 : (((gs.length - 1 : Nat) : Int) < (gs.length : Int)) = True := eq_true (by clear hw1 hw2; omega)
            have hadd : (⟨g1, 0, none⟩ : Addr).add ((gs.length - 1) * 3) = ⟨g1, (gs.length - 1) * 3, none⟩ := by unfold Addr.add; split <;> simp_all
            by_cases hv : vv.toList.isEmpty = false ∧ N1 < 64
            · obtain ⟨hv1, hv2⟩ := hv
              have hfin := hfin1 _ (if_pos ⟨hv1, by have := hN1.out; show (gs.getD (gs.length - 1) z57).f1.length < 64; clear hw1 hw2; omega⟩)
              rw [hfin] at hF2 hnext
              have hv3 : ((N1 : Int) < 64) = True := eq_true (by clear hw1 hw2; omega)
              have hv4 : (vv.toList = []) = False := eq_false (by intro e; rw [e] at hv1; cases hv1)
              have HH := Aside0.mk hH
              have HR0' := Aside0.mk R0
              have HR1 := Aside0.mk R1
              have hcB0 := Aside0.mk hcB
              have hfr1 := Aside0.mk (hfr 1)
              have hne' := Aside0.mk hne
              clear hH R0 R1 hcA hcC hfr hfin1 hfin hne hn0
              replace hn0 : ((gs.length : Int) == 0) = false := by simp; exact hgs0
              go_wp2_with (first
                | ((with_reducible refine gate_builtin (b := .append) (xs := #[.tmp 106, .tmp 111]) rfl ?_); at_builtin; (refine Kd.R_append k59 (w0 := w) w.heap.size rfl (.tmp 106) (.tmp 111) 51 59 (.agg #[.bool false, .string ⟨#[]⟩]) 24 rfl Tryd.underlying51 info59 rfl (by decide) (by omega) (.slice A1 N1 c1) (gs.getD (gs.length - 1) z57).f1 ⟨false, vv⟩ [.bool false, .string vv] (fun k => oki k ∨ True ∧ w2.heap.size ≤ k) (fun _ => False) rfl rfl (k59_mkM _ _ _ _) (fun _ hk => hk.elim) (fun k hk => .inr ⟨trivial, hk⟩) (Kd.R_mono HR1.out (fun _ hk => .inl hk)) HB2.out HB2.out.size (by have := hN1.out; clear hw1 hw2; omega) ?_); intro v1 w5 ho hb5 hg hat; have hgne : some g1 ≠ (Value.slice A1 N1 c1).ownBlock := fun e => hne'.out g1 (HR1.out.1 g1 e.symm) rfl; have HH5 := Aside0.mk (Kd.H_grown (Kd.H_widen HH.out) hg (fun k hk => .inl (HR1.out.1 k hk))); have HR05 := Aside0.mk (Kd.R_mono (ok' := fun k => oki k ∨ True ∧ w2.heap.size ≤ k) (Kd.R_over' HR0'.out (Kd.R_typed HR1.out) (by decide) hg) (fun _ hk => .inl hk)); have hbk := hg.block g1 (World.block_lt_of_cell? _ _ hcB0.out) hgne; have hfr5 : w5.frozen? ⟨g1, (gs.length - 1) * 3 + 1, none⟩ = false := (World.frozen?_of_block (w := w2) hbk).trans hfr1.out; have hcB5 : w5.cell? ⟨g1, (gs.length - 1) * 3 + 1, none⟩ = some (.slice A1 N1 c1) := (World.cell?_of_block (w := w2) hbk).trans hcB0.out; have hlt4 : Hid (g1 < w2.heap.size) := World.block_lt_of_cell? _ _ hcB0.out; have ho5 := Aside0.mk ho; have hone := Aside0.mk (Kd.R_val ho).2; have HB5 := Aside0.mk hb5; have hv1' : ∃ A n c, v1 = .slice A n c := (by obtain ⟨A, c, e⟩ := Kd.R_slice ho; exact ⟨A, _, c, e⟩); obtain ⟨A2, N2, c2, rfl⟩ := hv1'; clear hcB hg hat hbk ho hb5 hgne))
              have hput := last_put57 HH5.out hgs 1 (by clear hw1 hw2; omega) _ hone.out { lastR gs with f1 := (lastR gs).f1 ++ [⟨false, vv⟩] } (k57_mkM _ _ _ ({ lastR gs with f1 := (lastR gs).f1 ++ [⟨false, vv⟩] } : S57) HR05.out ho5.out) (fun k hk => hk.elim (hne'.out k) (fun h e => by have h1 := hlt4.out; have h2 := h.2; clear hw1 hw2; omega))
              have HSn : Aside0 (Kd.S k57 57 (w5.setCell ⟨g1, (gs.length - 1) * 3 + 1, none⟩ (.slice A2 N2 c2)) w.heap.size (fun _ => True) (.slice (some ⟨g1, 0, none⟩) gs.length cap1) (setR gs { lastR gs with f1 := (lastR gs).f1 ++ [⟨false, vv⟩] })) := ⟨hput.1⟩
              have HBn := Aside0.mk (HB5.out.setCell (p := ⟨g1, (gs.length - 1) * 3 + 1, none⟩) hg1 (.slice A2 N2 c2))
              clear hput
              go_roundw
              case rel => exact ⟨i + 1, _, true, by go_num, rfl, by omega, hnext, hF2, HSn, HBn⟩
              case measure => simp [intOf]; omega
            · have hfin := hfin1 _ (if_neg (fun hh => hv ⟨hh.1, by have h2 : (gs.getD (gs.length - 1) z57).f1.length < 64 := hh.2; have := hN1.out; clear hw1 hw2; omega⟩))
              rw [hfin] at hF2 hnext
              have key : vv.toList.isEmpty = true ∨ (vv.toList.isEmpty = false ∧ ((N1 : Int) < 64) = False) := by cases h : vv.toList.isEmpty; exact .inr ⟨rfl, eq_false (fun h2 => hv ⟨h, by clear hw1 hw2; omega⟩)⟩; exact .inl rfl
              clear hH R0 R1 hcA hcC hfr hfin1 hv hfin
              rcases key with hv1 | ⟨hv1, hv3⟩
              · have hv4 : (vv.toList = []) = True := eq_true (by simpa using hv1)
                go_wp2
                go_roundw
                case rel => exact ⟨i + 1, gs, true, by go_num, rfl, by omega, hnext, hF2, HS2, HB2⟩
                case measure => simp [intOf]; omega
              · have hv4 : (vv.toList = []) = False := eq_false (by intro e; rw [e] at hv1; cases hv1)
                go_wp2
                go_roundw
                case rel => exact ⟨i + 1, gs, true, by go_num, rfl, by omega, hnext, hF2, HS2, HB2⟩
                case measure => simp [intOf]; omega
        by_cases hC : (kk.toList == sDelay) = true
        · have e1 : (kk.toList == [97, 108, 108, 111, 119]) = false := by cases h : (kk.toList == [97, 108, 108, 111, 119]); rfl; exact absurd (.inl h) hA
          have e2 : (kk.toList == [100, 105, 115, 97, 108, 108, 111, 119]) = false := by cases h : (kk.toList == [100, 105, 115, 97, 108, 108, 111, 119]); rfl; exact absurd (.inr h) hA
          have e3 : (kk.toList == [99, 114, 97, 119, 108, 45, 100, 101, 108, 97, 121]) = true := hC
          have hw1 : wrap64 ((gs.length : Int) - 1) = ((gs.length - 1 : Nat) : Int) := by simp only [wrap64]; omega
          have hw2 : IntKind.i64.wrap ((gs.length : Int) - 1) = ((gs.length - 1 : Nat) : Int) := by rw [i64_w]; exact hw1
          have hlt1 : (((gs.length - 1 : Nat) : Int) < (gs.length : Int)) = True := eq_true (by clear hw1 hw2; omega)
          have hadd : (⟨g1, 0, none⟩ : Addr).add ((gs.length - 1) * 3) = ⟨g1, (gs.length - 1) * 3, none⟩ := by unfold Addr.add; split <;> simp_all
          have hfin1 : ∀ x, (if (refD vv).2 = true ∧ (lastR gs).f2 < ((refD vv).1 : Int) then setR gs { lastR gs with f2 := ((refD vv).1 : Int) } else gs) = x → stepR (gs, told) ⟨kk, vv⟩ = (x, true) := by intro x hx; simp only [stepR]; rw [if_neg hk, if_neg hgs0, if_neg hA, if_pos hC, hx]
          obtain ⟨kd, hkd⟩ := delay_any vv hsz.out
          obtain ⟨m, hm⟩ : ∃ m : Int, m = ((refD vv).1 : Int) := ⟨_, rfl⟩
          obtain ⟨ok, hok⟩ : ∃ b, b = (refD vv).2 := ⟨_, rfl⟩
          rw [← hm, ← hok] at hkd hfin1
          have HD := Aside0.mk hkd
          clear hA hC hk hkd hm hok
          cases ok with
          | false =>
            have hfin := hfin1 _ (if_neg (fun h => by cases h.1))
            rw [hfin] at hF2 hnext
            clear hfin1 hfin
            go_wp2_with (first | ((with_reducible refine gate_callee (f := 14) rfl ?_); refine goesL_ (some 76) rfl rfl Tryd.func14 (by kernel_rfl) rfl #[.string vv] rfl (by (try simp only [List.map_toArray, List.map_cons, List.map_nil]); first | done | rfl) ?_; (with_reducible refine (decorumref09_Delay.calls kd vv m false _ HD.out).mono ?_); rintro e w4 ⟨rfl, ⟨nd, hw4⟩⟩; refine ⟨_, rfl, ?_⟩; have HS4 : Aside0 (Kd.S k57 57 w4 w.heap.size (fun _ => True) (.slice (some ⟨g1, 0, none⟩) gs.length cap1) gs) := ⟨by rw [hw4]; exact Kd.S_drewN HS2.out nd⟩; have HB4 : Aside0 (Below w.heap.size w w4) := ⟨by rw [hw4]; exact pw_below_drewN HB2.out nd⟩; clear hw4 HS2 HB2))
            go_roundw
            case rel => exact ⟨i + 1, gs, true, by go_num, rfl, by omega, hnext, hF2, HS4, HB4⟩
            case measure => simp [intOf]; omega
          | true =>
            go_upto_region 17 with (first | ((with_reducible refine gate_callee (f := 14) rfl ?_); refine goesL_ (some 76) rfl rfl Tryd.func14 (by kernel_rfl) rfl #[.string vv] rfl (by (try simp only [List.map_toArray, List.map_cons, List.map_nil]); first | done | rfl) ?_; (with_reducible refine (decorumref09_Delay.calls kd vv m true _ HD.out).mono ?_); rintro e w4 ⟨rfl, ⟨nd, hw4⟩⟩; refine ⟨_, rfl, ?_⟩; have HS4 : Aside0 (Kd.S k57 57 w4 w.heap.size (fun _ => True) (.slice (some ⟨g1, 0, none⟩) gs.length cap1) gs) := ⟨by rw [hw4]; exact Kd.S_drewN HS2.out nd⟩; have HB4 : Aside0 (Below w.heap.size w w4) := ⟨by rw [hw4]; exact pw_below_drewN HB2.out nd⟩; clear hw4 HS2 HB2))
            obtain ⟨oki, e0, e1', R0, R1, hcA, hcB, hcC, hfr, hne, hH⟩ := last_open57 HS4.out hgs
            have hfr2 := hfr 2
            have HH := Aside0.mk hH
            have HR0' := Aside0.mk R0
            have HR1 := Aside0.mk R1
            have hne' := Aside0.mk hne
            obtain ⟨d0, hd0⟩ : ∃ d, d = (gs.getD (gs.length - 1) z57).f2 := ⟨_, rfl⟩
            rw [← hd0] at hcC
            have hd1 : Hid (d0 = (lastR gs).f2) := hd0
            clear hH R0 R1 hcA hcB hfr hne hd0
            by_cases hgt : d0 < m
            · have hfin := hfin1 _ (if_pos ⟨rfl, by rw [← hd1.out]; exact hgt⟩)
              rw [hfin] at hF2 hnext
              have hgt' : (d0 < m) = True := eq_true hgt
              clear hfin1 hfin hgt
              have HSn : Aside0 (Kd.S k57 57 (w4.setCell ⟨g1, (gs.length - 1) * 3 + 2, none⟩ (.int .i64 m)) w.heap.size (fun _ => True) (.slice (some ⟨g1, 0, none⟩) gs.length cap1) (setR gs { lastR gs with f2 := m })) :=
                ⟨(last_put57 HH.out hgs 2 (by clear hw1 hw2; omega) (.int .i64 m) rfl { lastR gs with f2 := m } (k57_mkM _ _ _ ({ lastR gs with f2 := m } : S57) HR0'.out HR1.out) hne'.out).1⟩
              have HBn := Aside0.mk (HB4.out.setCell (p := ⟨g1, (gs.length - 1) * 3 + 2, none⟩) hg1 (.int .i64 m))
              go_wp2
              go_roundw
              case rel => exact ⟨i + 1, _, true, by go_num, rfl, by omega, hnext, hF2, HSn, HBn⟩
              case measure => simp [intOf]; omega
            · have hfin := hfin1 _ (if_neg (fun h => hgt (by rw [hd1.out]; exact h.2)))
              rw [hfin] at hF2 hnext
              have hgt' : (d0 < m) = False := eq_false hgt
              clear hfin1 hfin hgt
              go_wp2
              go_roundw
              case rel => exact ⟨i + 1, gs, true, by go_num, rfl, by omega, hnext, hF2, HS4, HB4⟩
              case measure => simp [intOf]; omega
        · have e1 : (kk.toList == [97, 108, 108, 111, 119]) = false := by cases h : (kk.toList == [97, 108, 108, 111, 119]); rfl; exact absurd (.inl h) hA
          have e2 : (kk.toList == [100, 105, 115, 97, 108, 108, 111, 119]) = false := by cases h : (kk.toList == [100, 105, 115, 97, 108, 108, 111, 119]); rfl; exact absurd (.inr h) hA
          have e3 : (kk.toList == [99, 114, 97, 119, 108, 45, 100, 101, 108, 97, 121]) = false := by cases h : (kk.toList == [99, 114, 97, 119, 108, 45, 100, 101, 108, 97, 121]); rfl; exact absurd h hC
          have hstep : stepR (gs, told) ⟨kk, vv⟩ = (gs, told) := by simp only [stepR]; rw [if_neg hk, if_neg hgs0, if_neg hA, if_neg hC]
          rw [hstep] at hF2 hnext
          clear hA hC hk hstep
          go_wp2
          go_roundw
          case rel => exact ⟨i + 1, gs, told, by go_num, rfl, by omega, hnext, hF2, HS2, HB2⟩
          case measure => simp [intOf]; omega
    · have hlt' : ((i : Int) < (l0.length : Int)) = False := eq_false (by omega)
      obtain rfl : i = l0.length := by omega
      have hr := hF.out
      rw [List.drop_length, List.foldl_nil] at hr
      simp only at hr
      subst hr
      clear hF
      go_wp2
      go_ret
      exact ⟨_, rfl, HS.out, HB.out⟩
end Go.Proofs.YthbmedhejlhclaaDoor.GivenW

namespace Go.Proofs.YthbmedhejlhclaaDoor.PureW
open Go Go.RowKit Go.Proofs.YthbmedhejlhclaaDoor.QBase Go.Proofs.YthbmedhejlhclaaDoor.Given Go.Proofs.YthbmedhejlhclaaDoor.Pure Go.Proofs.YthbmedhejlhclaaDoorW.PrintWords Go.Proofs.YthbmedhejlhclaaDoorW.PrintLast
set_option linter.unusedVariables false
set_option linter.unusedSimpArgs false
theorem groups_f (X : List S40) (hX : X.length < 1000000) (hv : ∀ l ∈ X, l.f1.size < 140737488351233) : GivenW.lines_Groups.f X = some (groupsV X) := by
  rw [GivenW.lines_Groups.f, if_pos ⟨hX, hv⟩]
  rfl
theorem refgroups_f (X : List S40) (hX : X.length < 1000000) (hv : ∀ l ∈ X, l.f1.size < 140737488351233) : GivenW.decorumref09_Groups.f (X.map conv) = some ((groupsV X).map c57) := by
  have hc : (X.map conv).length < 1000000 ∧ (∀ l ∈ X.map conv, l.f1.size < 140737488351233) := by
    refine ⟨by rw [List.length_map]; exact hX, fun l hl => ?_⟩
    obtain ⟨x, hx, rfl⟩ := List.mem_map.mp hl
    exact hv x hx
  rw [GivenW.decorumref09_Groups.f, if_pos hc]
  exact congrArg some (fold_c X [] false)
end Go.Proofs.YthbmedhejlhclaaDoor.PureW

namespace Go.Proofs.YthbmedhejlhclaaDoor.GivenW
open Go.RowKit Go.Proofs.YthbmedhejlhclaaDoor.Given Go.Proofs.YthbmedhejlhclaaDoor.QBase Go.Proofs.YthbmedhejlhclaaDoorW.PrintWords Go.Proofs.YthbmedhejlhclaaDoorW.PrintLast Go.Proofs.YthbmedhejlhclaaDoorW.PrintMore
set_option linter.unusedVariables false
set_option linter.unusedSimpArgs false
attribute [local go_sem] max2_int min2_int max_two min_two max_three min_three max_four min_four

theorem groups_at (A0 : Option Addr) (c0 n : Nat) (Y : List S40) (r : List S53) (w : World) (hn : Y.length = n) (hC : Kd.C k40 w A0 n Y) (hc : n ≤ c0) (h : lines_Groups.f Y = some r) (hS : Shp w) :
    Calls Tryd.prog 16 #[.slice A0 n c0] w fun e w' => ∃ v0_ : Value, e = .returned v0_ ∧ Kd.S k53 53 w' w.heap.size (fun _ => True) v0_ r ∧ Below w.heap.size w w' := by
  subst hn
  exact lines_Groups.calls A0 c0 Y r w hC hc h hS
theorem pairs_at (k : Nat) (A0 : Option Addr) (c0 n : Nat) (Y : List S40) (r : List S28) (w : World) (hn : Y.length = n) (hC : Kd.C k40 w A0 n Y) (hc : n ≤ c0) (h : decorumlaw09_pairs.f k Y = some r) :
    Calls Tryd.prog 9 #[.slice A0 n c0] w fun e w' => ∃ v0_ : Value, e = .returned v0_ ∧ Kd.R k28 28 w' w.heap.size (fun _ => True) v0_ r ∧ Below w.heap.size w w' := by
  subst hn
  exact decorumlaw09_pairs.calls k A0 c0 Y r w hC hc h
theorem refgroups_at (v : Value) (Z : List S28) (r : List S57) (w : World) (B : Nat) (ok : Nat → Prop) (hR : Kd.R k28 28 w B ok v Z) (h : decorumref09_Groups.f Z = some r) :
    Calls Tryd.prog 17 #[v] w fun e w' => ∃ v0_ : Value, e = .returned v0_ ∧ Kd.S k57 57 w' w.heap.size (fun _ => True) v0_ r ∧ Below w.heap.size w w' := by
  obtain ⟨A, c, rfl⟩ := Kd.R_slice hR
  exact decorumref09_Groups.calls A c Z r w (Kd.R_reads' hR).2.2 (Kd.R_reads' hR).2.1 h
theorem alike_at (k : Nat) (u v : Value) (a : List S53) (b : List S57) (w : World) (B B' : Nat) (ok ok' : Nat → Prop) (hu : Kd.S k53 53 w B ok u a) (hv : Kd.S k57 57 w B' ok' v b) (h : decorumlaw09_alike.f k a b = some true) :
    Calls Tryd.prog 15 #[u, v] w fun e w' => e = .returned (.bool true) ∧ Drawn0 w w' := by
  obtain ⟨A, c, rfl⟩ := Kd.S_slice hu
  obtain ⟨A', c', rfl⟩ := Kd.S_slice hv
  exact decorumlaw09_alike.calls k A c a A' c' b true w (Kd.S_reads' hu).2.2 (Kd.S_reads' hu).2.1 (Kd.S_reads' hv).2.2 (Kd.S_reads' hv).2.1 h
theorem awake_f : QTxt.decorumlaw09_awake.f = some true := by decide +kernel

set_option maxHeartbeats 8000000 in
set_option maxRecDepth 1000000 in
theorem linesGroups_calls (A0 : Option Addr) (c0 : Nat) (X : List S40) (w : World) (hr0 : Kd.C k40 w A0 X.length X) (hc0 : X.length ≤ c0) (hv : ∀ l ∈ X, l.f1.size ≤ 140737488351232) (hS_ : Shp w) :
    Calls Tryd.prog 5 #[.slice A0 X.length c0] w fun e w' => e = .returned (.bool true) ∧ Below w.heap.size w w' := by
  have HSH := Aside0.mk hS_
  have plain : ∀ Y : List S40, Y.length ≤ 300 → (∀ l ∈ Y, l.f1.size ≤ 140737488351232) → ∃ (gs : List S53) (Z : List S28) (kp ka : Nat), lines_Groups.f Y = some gs ∧ decorumlaw09_pairs.f kp Y = some Z ∧ decorumref09_Groups.f Z = some (gs.map Pure.c57) ∧ decorumlaw09_alike.f ka gs (gs.map Pure.c57) = some true := by
    intro Y hY hv
    have hv' : ∀ l ∈ Y, l.f1.size < 140737488351233 := fun l hl => Nat.lt_succ_of_le (hv l hl)
    obtain ⟨g1, g2⟩ := Pure.groups_small Y (by omega)
    obtain ⟨K, hK⟩ := Pure.alike_f _ g1 g2
    exact ⟨Pure.groupsV Y, Y.map Pure.conv, Y.length + 1, K, PureW.groups_f Y (by omega) hv', Pure.pairs_f Y (by omega) _ (Nat.le_refl _), PureW.refgroups_f Y (by omega) hv', hK K (Nat.le_refl _)⟩
  by_cases hgt : 300 < X.length
  · have hgt' : (300 < (X.length : Int)) = True := eq_true (by omega)
    have hlen : (X.take 300).length = 300 := by rw [List.length_take]; omega
    obtain ⟨gs, Z, kp, ka, G1, P1, R1, L1⟩ := plain (X.take 300) (by omega) (fun l hl => hv l (List.mem_of_mem_take hl))
    have HC := Aside0.mk (show Kd.C k40 w A0 300 (X.take 300) by have := Kd.C_take (m := 300) hr0 (by omega); rw [hlen] at this; exact this)
    have hc1 := Aside0.mk (show 300 ≤ c0 by omega)
    have hn := Aside0.mk hlen
    obtain ⟨i40, hi40⟩ : ∃ i, Tryd.prog.info? 40 = some i := by
      cases h : Tryd.prog.info? 40 with
      | none => have := info40; rw [h] at this; cases this
      | some i => exact ⟨i, rfl⟩
    have hcut := cut_to (P := Tryd.prog) 24 40 .i64 Tryd.underlying24 hi40 A0 X.length c0 300 (by decide) (by omega) hc0
    have G1 := Aside0.mk G1
    have P1 := Aside0.mk P1
    have R1 := Aside0.mk R1
    have L1 := Aside0.mk L1
    generalize X.take 300 = Y at HC hn G1 P1
    clear plain hgt hlen hr0 hc0 hv hS_ hi40
    go_enter Tryd.func5, Tryd.ntmps5
    go_wp2_with (first
      | ((with_reducible refine gate_callee (f := 12) rfl ?_); refine goesL_ (some 8) rfl rfl Tryd.func12 (by kernel_rfl) rfl #[] rfl (by (try simp only [List.map_toArray, List.map_cons, List.map_nil]); first | done | rfl) ?_; (with_reducible refine (QTxt.decorumlaw09_awake.calls true _ awake_f HSH.out).mono ?_); rintro e w1 ⟨rfl, hb1⟩; refine ⟨_, rfl, ?_⟩; have HB1 := Aside0.mk hb1; clear hb1)
      | (go_at_call 16; (with_reducible refine (groups_at A0 c0 300 Y gs _ hn.out (Kd.C_below HC.out HB1.out) hc1.out G1.out (Shp.below HSH.out HB1.out)).mono ?_); rintro e w2 ⟨v2, rfl, hs2, hb2⟩; have HS2 := Aside0.mk hs2; have HB2 := Aside0.mk (below_step HB1.out hb2); clear hs2 hb2)
      | (go_at_call 9; (with_reducible refine (pairs_at kp A0 c0 300 Y Z _ hn.out (Kd.C_below HC.out HB2.out) hc1.out P1.out).mono ?_); rintro e w3 ⟨v3, rfl, hr3, hb3⟩; have HS3 := Aside0.mk (Kd.S_below HS2.out hb3); have HR3 := Aside0.mk hr3; have HB3 := Aside0.mk (below_step HB2.out hb3); clear hr3 hb3)
      | (go_at_call 17; (with_reducible refine (refgroups_at v3 Z (gs.map Pure.c57) _ _ _ HR3.out R1.out).mono ?_); rintro e w4 ⟨v4, rfl, hs4, hb4⟩; have HS4 := Aside0.mk (Kd.S_below HS3.out hb4); have HT4 := Aside0.mk hs4; have HB4 := Aside0.mk (below_step HB3.out hb4); clear hs4 hb4)
      | (go_at_call 15; (with_reducible refine (alike_at ka v2 v4 gs (gs.map Pure.c57) _ _ _ _ _ HS4.out HT4.out L1.out).mono ?_); rintro e w5 ⟨rfl, ⟨nd, hw5⟩⟩; have HB5 := Aside0.mk (show Below w.heap.size w w5 by rw [hw5]; exact pw_below_drewN HB4.out nd); clear hw5))
    go_ret
    exact ⟨rfl, HB5.out⟩
  · have hgt' : (300 < (X.length : Int)) = False := eq_false (by omega)
    obtain ⟨gs, Z, kp, ka, G1, P1, R1, L1⟩ := plain X (by omega) hv
    have HC := Aside0.mk hr0
    have hc1 := Aside0.mk hc0
    have G1 := Aside0.mk G1
    have P1 := Aside0.mk P1
    have R1 := Aside0.mk R1
    have L1 := Aside0.mk L1
    clear plain hgt hr0 hc0 hv hS_
    go_enter Tryd.func5, Tryd.ntmps5
    go_wp2_with (first
      | ((with_reducible refine gate_callee (f := 12) rfl ?_); refine goesL_ (some 8) rfl rfl Tryd.func12 (by kernel_rfl) rfl #[] rfl (by (try simp only [List.map_toArray, List.map_cons, List.map_nil]); first | done | rfl) ?_; (with_reducible refine (QTxt.decorumlaw09_awake.calls true _ awake_f HSH.out).mono ?_); rintro e w1 ⟨rfl, hb1⟩; refine ⟨_, rfl, ?_⟩; have HB1 := Aside0.mk hb1; clear hb1)
      | (go_at_call 16; (with_reducible refine (groups_at A0 c0 X.length X gs _ rfl (Kd.C_below HC.out HB1.out) hc1.out G1.out (Shp.below HSH.out HB1.out)).mono ?_); rintro e w2 ⟨v2, rfl, hs2, hb2⟩; have HS2 := Aside0.mk hs2; have HB2 := Aside0.mk (below_step HB1.out hb2); clear hs2 hb2)
      | (go_at_call 9; (with_reducible refine (pairs_at kp A0 c0 X.length X Z _ rfl (Kd.C_below HC.out HB2.out) hc1.out P1.out).mono ?_); rintro e w3 ⟨v3, rfl, hr3, hb3⟩; have HS3 := Aside0.mk (Kd.S_below HS2.out hb3); have HR3 := Aside0.mk hr3; have HB3 := Aside0.mk (below_step HB2.out hb3); clear hr3 hb3)
      | (go_at_call 17; (with_reducible refine (refgroups_at v3 Z (gs.map Pure.c57) _ _ _ HR3.out R1.out).mono ?_); rintro e w4 ⟨v4, rfl, hs4, hb4⟩; have HS4 := Aside0.mk (Kd.S_below HS3.out hb4); have HT4 := Aside0.mk hs4; have HB4 := Aside0.mk (below_step HB3.out hb4); clear hs4 hb4)
      | (go_at_call 15; (with_reducible refine (alike_at ka v2 v4 gs (gs.map Pure.c57) _ _ _ _ _ HS4.out HT4.out L1.out).mono ?_); rintro e w5 ⟨rfl, ⟨nd, hw5⟩⟩; have HB5 := Aside0.mk (show Below w.heap.size w w5 by rw [hw5]; exact pw_below_drewN HB4.out nd); clear hw5))
    go_ret
    exact ⟨rfl, HB5.out⟩
end Go.Proofs.YthbmedhejlhclaaDoor.GivenW
