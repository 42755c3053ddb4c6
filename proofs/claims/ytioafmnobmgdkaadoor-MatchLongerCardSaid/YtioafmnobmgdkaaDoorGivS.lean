/- match's star: what it answers. -/
import Derived.Test.YtioafmnobmgdkaaDoorGivC
import Derived.Test.YtioafmnobmgdkaaDoorPlain
import Derived.BigCall
import Derived.Lib.IndexMore
namespace Go.Proofs.YtioafmnobmgdkaaDoor.Given
open Go.RowKit Go.Proofs.YtioafmnobmgdkaaDoor.QBase Go.Proofs.YtioafmnobmgdkaaDoorW.PrintWords Go.Proofs.YtioafmnobmgdkaaDoorW.PrintLast
set_option linter.unusedVariables false

/-- The package variable that Index reads. -/
def Shp (w : World) : Prop := ∃ m : Int, w.cell? ⟨0, 0, none⟩ = some (.int .i64 m)

def starL (whole : Bool) : List ByteArray → ByteArray → Bool
  | [], _ => true
  | p :: ps, s => if whole && ps.isEmpty then Lib.hasSuffix s.data.toList p.data.toList else
      if Lib.index s.data.toList p.data.toList < 0 then false else starL whole ps (s.extract ((Lib.index s.data.toList p.data.toList).toNat + p.size) s.size)
def starB (p0 : ByteArray) (ps : List ByteArray) (s : ByteArray) (whole : Bool) : Bool :=
  if Lib.hasPrefix s.data.toList p0.data.toList then
    (if ps.isEmpty then !whole || (s.extract p0.size s.size).data.toList.isEmpty else starL whole ps (s.extract p0.size s.size))
  else false

theorem cell_of_row {w : World} {b : Nat} {P : List ByteArray} (h : w.heap[b]? = some (.cells (P.map Value.string).toArray 9)) (i : Nat) (hi : i < P.length) :
    w.cell? ⟨b, i, none⟩ = some (.string (P[i])) := by
  simp [World.cell?, h, hi]

theorem starL_last (x t : ByteArray) : starL true [x] t = Lib.hasSuffix t.data.toList x.data.toList := by simp [starL]
theorem starL_miss {whole : Bool} {x t : ByteArray} {ps : List ByteArray} (h : (whole && ps.isEmpty) = false) (hn : Lib.index t.data.toList x.data.toList < 0) : starL whole (x :: ps) t = false := by
  simp [starL, h, hn]
theorem starL_hit {whole : Bool} {x t : ByteArray} {ps : List ByteArray} {j : Nat} (h : (whole && ps.isEmpty) = false) (hn : Lib.index t.data.toList x.data.toList = j) :
    starL whole (x :: ps) t = starL whole ps (t.extract (j + x.size) t.size) := by
  have h0 : ¬ ((j : Int) < 0) := by omega
  rw [starL, h, hn, if_neg (by simp), if_neg h0]; rfl

set_option maxHeartbeats 4000000 in
set_option maxRecDepth 1000000 in
theorem star_calls (p0 : ByteArray) (ps : List ByteArray) (s : ByteArray) (whole : Bool) (b n c : Nat) (w : World) (hn : n = ps.length + 1) (hc : n ≤ c)
    (hr : w.heap[b]? = some (.cells ((p0 :: ps).map Value.string).toArray 9)) (hS : Shp w) (hs : s.size < 4294967281) (hl : ps.length < 1000000) :
    Calls Tryd.prog 17 #[.slice (some ⟨b, 0, none⟩) n c, .string s, .bool whole] w fun e w' => e = .returned (.bool (starB p0 ps s whole)) ∧ w' = w := by
  obtain ⟨m, hm⟩ := hS
  have hcell := cell_of_row hr
  have h0 := hcell 0 (by simp)
  simp only [List.getElem_cons_zero] at h0
  have hb0 : ∀ (x : Bool), (x == true) = x := by intro x; cases x <;> rfl
  cases hp : Lib.hasPrefix s.data.toList p0.data.toList with
  | false =>
    go_enter Tryd.func17, Tryd.ntmps17
    go_wp2_with (first | (go_at_call 23; refine (Tryd.strings_HasPrefix _ _ _).mono ?_; rintro e w1 ⟨rfl, e1⟩; obtain rfl := e1.symm; rw [hp]))
    go_ret
    exact ⟨by simp [starB, hp], rfl⟩
  | true =>
    have hle : p0.size ≤ s.size := by
      have := (List.isPrefixOf_iff_prefix.1 hp).length_le
      simpa using this
    cases ps with
    | nil =>
      subst hn
      go_enter Tryd.func17, Tryd.ntmps17
      go_wp2_with (first | (go_at_call 23; refine (Tryd.strings_HasPrefix _ _ _).mono ?_; rintro e w1 ⟨rfl, e1⟩; obtain rfl := e1.symm; rw [hp]))
      all_goals go_ret
      all_goals refine ⟨?_, rfl⟩
      all_goals (simp only [starB, hp, if_true, List.isEmpty_nil]; first | (simp [*]; done) | (cases whole <;> simp_all [Lib.toList_data]))
    | cons q qs =>
      have hs1 : (s.extract p0.size s.size).size < 4294967281 := by simp; omega
      subst hn
      go_enter Tryd.func17, Tryd.ntmps17
      have hw7 : wrap64 ((qs.length : Int) + 1) = (qs.length : Int) + 1 := by simp only [List.length_cons] at hl; simp only [wrap64]; omega
      have hc2 : (c = 1) = False := eq_false (by simp at hc; omega)
      have h11 : (((qs.length : Int) + 1 + 1) == 1) = false := by simp; omega
      go_wp2_with (first | (go_at_call 23; refine (Tryd.strings_HasPrefix _ _ _).mono ?_; rintro e w1 ⟨rfl, e1⟩; obtain rfl := e1.symm; rw [hp]))
      have hB : starB p0 (q :: qs) s whole = starL whole (q :: qs) (s.extract p0.size s.size) := by simp [starB, hp]
      rw [hw7]
      go_loopw [1, 38] (fun v1 v38 wr => ∃ (i : Nat) (t : ByteArray), v1 = .string t ∧ v38 = .int .i64 i ∧ i ≤ (q :: qs).length ∧ t.size < 4294967281 ∧ Hid (starL whole ((q :: qs).drop i) t = starL whole (q :: qs) (s.extract p0.size s.size)) ∧ wr = w) (fun v1 v38 wr => (q :: qs).length - (intOf v38).toNat)
      case atStart =>
        refine ⟨0, _, rfl, rfl, by omega, hs1, rfl, rfl⟩
      case round =>
        obtain ⟨i, t, rfl, rfl, hi, ht, hH, rfl⟩ := hrel
        simp only [List.length_cons] at hi hl
        by_cases hlt : i < qs.length + 1
        · have hlt' : ((i : Int) < (qs.length : Int) + 1) = True := eq_true (by omega)
          have hci := hcell (i + 1) (by simp; omega)
          simp only [List.getElem_cons_succ] at hci
          obtain ⟨x, hx⟩ : ∃ x, x = (q :: qs)[i]'(by simpa using hlt) := ⟨_, rfl⟩
          rw [← hx] at hci
          have hci' : wr.cell? ⟨b, 1 + i, none⟩ = some (.string x) := by rw [Nat.add_comm]; exact hci
          have hin := Lib.index_ge t.data.toList x.data.toList
          have hro := Lib.index_room t.data.toList x.data.toList
          simp only [ByteArray.size_data, Array.length_toList] at hro
          have hd : (q :: qs).drop i = x :: (q :: qs).drop (i + 1) := by rw [hx]; exact (List.drop_eq_getElem_cons (by simpa using hlt))
          rw [hd] at hH
          clear hcell hr hx hd
          by_cases hlast : whole = true ∧ i = qs.length
          · obtain ⟨rfl, rfl⟩ := hlast
            go_wp2_with (first | (go_at_call 16; refine (Tryd.strings_HasSuffix _ _ _ (Nat.le_trans (Nat.le_of_lt ht) (by decide))).mono ?_; rintro e w1 ⟨rfl, e1⟩; obtain rfl := e1.symm))
            go_ret
            have h1 := hH.out
            rw [List.drop_of_length_le (show (q :: qs).length ≤ qs.length + 1 from Nat.le_refl _), starL_last] at h1
            exact ⟨by rw [hB, ← h1]; rfl, rfl⟩
          · have hlast2 : (whole && ((q :: qs).drop (i + 1)).isEmpty) = false := by
              cases whole with
              | false => rfl
              | true =>
                have : ¬ i = qs.length := fun h => hlast ⟨rfl, h⟩
                simp; omega
            have hne : whole = false ∨ (whole = true ∧ ((i : Int) + 1 == (qs.length : Int) + 1) = false) := by
              cases whole with
              | false => exact .inl rfl
              | true =>
                have : ¬ i = qs.length := fun h => hlast ⟨rfl, h⟩
                exact .inr ⟨rfl, by simp; omega⟩
            clear hs1 hle hc
            obtain ⟨ix, hix⟩ : ∃ ix : Int, Lib.index t.data.toList x.data.toList = ix := ⟨_, rfl⟩
            rw [hix] at hin hro
            by_cases hneg : ix < 0
            · have hneg' : (ix < 0) = True := eq_true hneg
              have h1 := hH.out
              rw [starL_miss hlast2 (by rw [hix]; exact hneg), ← hB] at h1
              replace h1 := h1.symm
              clear hro hin hneg hH hB hlast2 hlast
              rcases hne with rfl | ⟨rfl, hne⟩
              · go_wp2_with (first | (go_at_call 24; refine (Tryd.strings_Index _ _ m _ ht hm).mono ?_; rintro e w1 ⟨rfl, e1⟩; obtain rfl := e1.symm; rw [hix]))
                go_ret
                exact ⟨by rw [h1]; rfl, rfl⟩
              · go_wp2_with (first | (go_at_call 24; refine (Tryd.strings_Index _ _ m _ ht hm).mono ?_; rintro e w1 ⟨rfl, e1⟩; obtain rfl := e1.symm; rw [hix]))
                go_ret
                exact ⟨by rw [h1]; rfl, rfl⟩
            · obtain ⟨j, rfl⟩ : ∃ j : Nat, ix = j := ⟨ix.toNat, by omega⟩
              have hro2 := hro (by omega)
              have h1 := hH.out
              rw [starL_hit hlast2 hix] at h1
              have hts : (t.extract (j + x.size) t.size).size < 4294967281 := by simp; omega
              have hw8 : wrap64 ((j : Int) + (x.size : Int)) = ((j + x.size : Nat) : Int) := by simp only [wrap64]; omega
              have hsl1 : (((j + x.size : Nat) : Int) ≤ (t.size : Int)) = True := eq_true (by omega)
              have hj0 : ((j : Int) < 0) = False := eq_false (by omega)
              have H1 : Hid _ := h1
              clear hro hin hneg hlast2 hlast h1 hH hB
              have h1 := H1
              rcases hne with rfl | ⟨rfl, hne⟩
              · go_wp2_with (first | (go_at_call 24; refine (Tryd.strings_Index _ _ m _ ht hm).mono ?_; rintro e w1 ⟨rfl, e1⟩; obtain rfl := e1.symm; rw [hix]))
                go_roundw
                case rel =>
                  exact ⟨i + 1, _, rfl, by go_num, by simp only [List.length_cons]; omega, hts, h1, trivial⟩
                case measure =>
                  simp [intOf]; omega
              · go_wp2_with (first | (go_at_call 24; refine (Tryd.strings_Index _ _ m _ ht hm).mono ?_; rintro e w1 ⟨rfl, e1⟩; obtain rfl := e1.symm; rw [hix]))
                go_roundw
                case rel =>
                  exact ⟨i + 1, _, rfl, by go_num, by simp only [List.length_cons]; omega, hts, h1, trivial⟩
                case measure =>
                  simp [intOf]; omega
        · have hlt' : ((i : Int) < (qs.length : Int) + 1) = False := eq_false (by omega)
          obtain rfl : i = qs.length + 1 := by omega
          go_wp2
          go_ret
          have h1 := hH.out
          rw [List.drop_of_length_le (show (q :: qs).length ≤ qs.length + 1 from Nat.le_refl _), starL] at h1
          exact ⟨by rw [hB, ← h1]; rfl, rfl⟩
end Go.Proofs.YtioafmnobmgdkaaDoor.Given
