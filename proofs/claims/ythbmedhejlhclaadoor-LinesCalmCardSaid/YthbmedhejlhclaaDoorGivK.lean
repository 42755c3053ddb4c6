/- LinesCalm, walked. -/
import Derived.Test.YthbmedhejlhclaaDoorQTxtx2
import Derived.Test.YthbmedhejlhclaaDoorPureC
import Derived.Outline
namespace Go.Proofs.YthbmedhejlhclaaDoor.Given
open Go.RowKit Go.Proofs.YthbmedhejlhclaaDoor.QBase Go.Proofs.YthbmedhejlhclaaDoorW.PrintWords Go.Proofs.YthbmedhejlhclaaDoorW.PrintLast Go.Proofs.YthbmedhejlhclaaDoorW.PrintMore
set_option linter.unusedVariables false
set_option linter.unusedSimpArgs false
attribute [local go_sem] max2_int min2_int max_two min_two max_three min_three max_four min_four

theorem awake_f : QTxt.decorumlaw09_awake.f = some true := by decide +kernel
theorem wsum2 (a b : Nat) (h : a + b ≤ 1000000000000000000) : wrap64 ((a : Int) + (b : Int)) = ((a + b : Nat) : Int) := by simp only [wrap64]; omega




theorem wrap_up (c : UInt8) (h : 97 ≤ c.toNat ∧ c.toNat ≤ 122) : IntKind.u8.wrap ((c.toNat : Int) - 32) = ((Pure.upB c).toNat : Int) := by
  rw [Pure.up_nat, if_pos h]
  simp [IntKind.wrap, IntKind.signed, IntKind.bits]
  omega
theorem up_not (c : UInt8) (h : ¬ (97 ≤ c.toNat ∧ c.toNat ≤ 122)) : Pure.upB c = c := by unfold Pure.upB; rw [if_neg h]
theorem up_next (s : List UInt8) (i : Nat) (h : i < s.length) : ((s.take i).map Pure.upB ++ s.drop i).set i (Pure.upB s[i]) = (s.take (i + 1)).map Pure.upB ++ s.drop (i + 1) := by
  rw [List.set_append_right _ _ (by simp; omega)]
  rw [List.drop_eq_getElem_cons h, List.take_add_one, List.getElem?_eq_getElem h]
  have e : i - (List.map Pure.upB (List.take i s)).length = 0 := by simp; omega
  rw [e, List.set_cons_zero]
  simp only [Option.toList_some, List.map_append, List.map_cons, List.map_nil, List.append_assoc, List.singleton_append]
theorem up_at (s : List UInt8) (i : Nat) (h : i < s.length) (h2 : i < ((s.take i).map Pure.upB ++ s.drop i).length) : ((s.take i).map Pure.upB ++ s.drop i)[i]'h2 = s[i] := by
  rw [List.getElem_append_right (by simp; omega)]
  have e : i - (List.map Pure.upB (List.take i s)).length = 0 := by simp; omega
  simp only [e]
  rw [List.getElem_drop]
  rfl
theorem up_skip (s : List UInt8) (i : Nat) (h : i < s.length) (hl : Pure.upB s[i] = s[i]) : (s.take i).map Pure.upB ++ s.drop i = (s.take (i + 1)).map Pure.upB ++ s.drop (i + 1) := by
  rw [← up_next s i h, hl]
  have := up_at s i h (by simp; omega)
  conv => rhs; rw [← this]
  rw [List.set_getElem_self]
theorem up_len (s : List UInt8) (i : Nat) : ((s.take i).map Pure.upB ++ s.drop i).length = s.length := by simp; omega
theorem cut_plain (a : ByteArray) (ha : a.size ≤ 4096) (h : ∃ t, a.data.toList = 120 :: t) : (cut4096 a).data.toList = a.data.toList := by
  show Lib.trimPrefix (a.extract 0 (min a.size 4096)).data.toList [239, 187, 191] = _
  rw [Lib.extract_data, List.drop_zero, Nat.sub_zero, List.take_of_length_le (by rw [← Lib.size_eq]; omega)]
  obtain ⟨t, ht⟩ := h
  rw [ht]
  unfold Lib.trimPrefix Lib.hasPrefix
  simp [List.isPrefixOf]
theorem Bts.step {w w' : World} {b : Nat} {l : List UInt8} (h : Bts w b l) (hb : Below w.heap.size w w') : Bts w' b l := by
  obtain ⟨cs, h1, h2, h3⟩ := h
  exact ⟨cs, (hb.block b (blk_lt h1)).trans h1, h2, h3⟩
/-- Both texts say the same lines. -/
theorem calm_parse (key value mark kb all a3 b6 : ByteArray) (hall : all.data.toList = key.data.toList ++ value.data.toList ++ mark.data.toList)
    (hg : ∀ j : Nat, j < all.size → bt all j ≠ 10 ∧ bt all j ≠ 13 ∧ bt all j ≠ 35 ∧ ((j : Int) < key.size → bt all j ≠ 58))
    (ha : a3.data.toList = [120, 58, 121, 10] ++ key.data.toList ++ [58] ++ value.data.toList)
    (hb : b6.data.toList = [120, 58, 121, 13, 10, 13, 10, 32, 9] ++ kb.data.toList ++ [32, 58, 32, 9] ++ value.data.toList ++ [32, 32, 35] ++ mark.data.toList ++ [10, 10])
    (hk : kb.data.toList = key.data.toList ∨ kb.data.toList = key.data.toList.map Pure.upB) (hsa : a3.size ≤ 4096) (hsb : b6.size ≤ 4096) :
    ∃ X, lines_Parse.f a3 = some X ∧ lines_Parse.f b6 = some X ∧ X.length ≤ 5000 := by
  have at_ : ∀ j (h : j < all.data.toList.length), bt all (j : Int) = ((all.data.toList[j]).toNat : Int) := fun j h => (Pure.bt_drop (List.drop_eq_getElem_cons h)).2.1
  have hmem : ∀ c ∈ all.data.toList, Pure.nlB c = false ∧ c ≠ 35 := by
    intro c hc
    obtain ⟨j, hj, rfl⟩ := List.getElem_of_mem hc
    obtain ⟨g1, g2, g3, _⟩ := hg j (by rw [Lib.size_eq]; exact hj)
    rw [at_ j hj] at g1 g2 g3
    rw [Pure.nl_iff]
    refine ⟨⟨fun e => g2 (by rw [e]; rfl), fun e => g1 (by rw [e]; rfl)⟩, fun e => g3 (by rw [e]; rfl)⟩
  have hkey : ∀ c ∈ key.data.toList, Pure.nlB c = false ∧ c ≠ 35 ∧ c ≠ 58 := by
    intro c hc
    have h1 := hmem c (by rw [hall]; simp [hc])
    refine ⟨h1.1, h1.2, ?_⟩
    obtain ⟨j, hj, rfl⟩ := List.getElem_of_mem hc
    have hj2 : j < all.data.toList.length := by rw [hall, List.length_append, List.length_append]; omega
    have g4 := (hg j (by rw [Lib.size_eq]; exact hj2)).2.2.2 (by rw [Lib.size_eq]; omega)
    rw [at_ j hj2] at g4
    intro e
    apply g4
    have : all.data.toList[j] = key.data.toList[j] := by
      simp only [hall]
      rw [List.getElem_append_left (by rw [List.length_append]; omega), List.getElem_append_left hj]
    rw [this, e]; rfl
  have hc := Pure.calm key.data.toList kb.data.toList value.data.toList mark.data.toList hkey (fun c hc => hmem c (by rw [hall]; simp [hc])) (fun c hc => (hmem c (by rw [hall]; simp [hc])).1) hk
  have p1 := Pure.parse_f a3 (by omega)
  have p2 := Pure.parse_f b6 (by omega)
  rw [cut_plain a3 hsa (by rw [ha]; exact ⟨_, rfl⟩), ha] at p1
  rw [cut_plain b6 hsb (by rw [hb]; exact ⟨_, rfl⟩), hb, ← hc] at p2
  refine ⟨_, p1, p2, ?_⟩
  have h1 := List.length_filterMap_le Pure.sayL (Pure.spl [] a3.data.toList)
  have h2 := Pure.spl_len a3.data.toList []
  rw [← Lib.size_eq] at h2
  rw [← ha]
  show (List.filterMap Pure.sayL (Pure.spl [] a3.data.toList)).length ≤ 5000
  omega

set_option maxHeartbeats 8000000 in
set_option maxRecDepth 1000000 in
theorem linesCalm_calls (key value mark : ByteArray) (large : Bool) (w : World) (h0 : key.size ≤ 140737488351232) (h1 : value.size ≤ 140737488351232) (h2 : mark.size ≤ 140737488351232) (hS_ : Shp w) :
    Calls Tryd.prog 7 #[.string key, .string value, .string mark, .bool large] w fun e w' => e = .returned (.bool true) ∧ Below w.heap.size w w' := by
  have HSH := Aside0.mk hS_
  clear hS_
  obtain ⟨S, hS⟩ : ∃ S : Int, S = ((key.size : Int) + (value.size : Int) + (mark.size : Int)) := ⟨_, rfl⟩
  obtain ⟨P, hP⟩ : ∃ P : Int, P = ((key.size : Int) + (value.size : Int)) := ⟨_, rfl⟩
  have hw : wrap64 ((key.size : Int) + (value.size : Int)) = P ∧ wrap64 (P + (mark.size : Int)) = S := by rw [hS, hP]; constructor <;> (simp only [wrap64]; omega)
  obtain ⟨hwi, hwo⟩ := hw
  by_cases hbig : 300 < S
  · have hb' : (300 < S) = True := eq_true hbig
    clear h0 h1 h2 hbig hS hP
    go_enter Tryd.func7, Tryd.ntmps7
    go_wp2_with (first
      | ((with_reducible refine gate_callee (f := 12) rfl ?_); refine goesL_ (some 25) rfl rfl Tryd.func12 (by kernel_rfl) rfl #[] rfl (by (try simp only [List.map_toArray, List.map_cons, List.map_nil]); first | done | rfl) ?_; (with_reducible refine (QTxt.decorumlaw09_awake.calls true _ awake_f HSH.out).mono ?_); rintro e w1 ⟨rfl, hb1⟩; refine ⟨_, rfl, ?_⟩; have HB1 := Aside0.mk hb1; clear hb1))
    go_ret
    exact ⟨rfl, HB1.out⟩
  have hb' : (300 < S) = False := eq_false hbig
  have k0 : key.size ≤ 300 := by omega
  have k1 : value.size ≤ 300 := by omega
  have k2 : mark.size ≤ 300 := by omega
  have HK := Aside0.mk (And.intro k0 (And.intro k1 k2))
  obtain ⟨kv, hkv⟩ : ∃ kv, kv = key ++ value := ⟨_, rfl⟩
  obtain ⟨all, hall⟩ : ∃ al, al = kv ++ mark := ⟨_, rfl⟩
  have j1 : (9223372036854775807 < key.size + value.size) = False := eq_false (by omega)
  have j2s : kv.size = key.size + value.size := by rw [hkv, ByteArray.size_append]
  have j2 : (9223372036854775807 < kv.size + mark.size) = False := eq_false (by omega)
  have hasz : all.size ≤ 900 := by rw [hall, ByteArray.size_append]; omega
  have HA := Aside0.mk (show all.data.toList = key.data.toList ++ value.data.toList ++ mark.data.toList by rw [hall, hkv]; simp [ByteArray.data_append])
  clear h0 h1 h2 hbig hS k0 k1 k2 j2s hP
  have hkv' := hkv.symm
  have hall' := hall.symm
  clear hkv hall
  go_enter Tryd.func7, Tryd.ntmps7
  go_upto_region 4 with (fail)
  clear hkv' hall' j1 j2 hwi hwo
  go_wp2
  go_loopw [10] (fun v10 wr => ∃ x : Int, v10 = .int .i64 x ∧ 0 ≤ x ∧ x ≤ (all.size : Int) ∧ Hid (∀ j : Nat, (j : Int) < x → bt all j ≠ 10 ∧ bt all j ≠ 13 ∧ bt all j ≠ 35 ∧ ((j : Int) < key.size → bt all j ≠ 58)) ∧ Aside0 (Below w.heap.size w wr)) (fun v10 wr => all.size - (intOf v10).toNat)
  case atStart => exact ⟨0, rfl, by omega, by omega, fun j hj => by omega, ⟨Below.refl _ _⟩⟩
  case round =>
    obtain ⟨x, rfl, hx0, hx1, hgood, HB⟩ := hrel
    by_cases hlt : x < (all.size : Int)
    · have hxb := bt_at all x
      have hn := hgood.out
      have hxx : x = ((x.toNat : Nat) : Int) := by omega
      have p6 := eq_true hx0
      have q6 := eq_true hlt
      have stepg : bt all x ≠ 10 → bt all x ≠ 13 → bt all x ≠ 35 → (x < key.size → bt all x ≠ 58) → Hid (∀ j : Nat, (j : Int) < x + 1 → bt all j ≠ 10 ∧ bt all j ≠ 13 ∧ bt all j ≠ 35 ∧ ((j : Int) < key.size → bt all j ≠ 58)) := by
        intro a b c d j hj
        by_cases h : (j : Int) < x
        · exact hn j h
        · have : (j : Int) = x := by omega
          rw [this]
          exact ⟨a, b, c, d⟩
      have stepg := Aside0.mk stepg
      have hnx := Aside0.mk (show 0 ≤ x + 1 ∧ x + 1 ≤ (all.size : Int) ∧ wrap64 (x + 1) = x + 1 by refine ⟨by omega, by omega, ?_⟩; simp only [wrap64]; omega)
      have hms := Aside0.mk (show all.size - (x + 1).toNat < all.size - x.toNat by omega)
      clear hn hxx hgood hx0 hx1 hlt
      by_cases b1 : bt all x = 10
      · have c1 : (bt all x == 10) = true := beq_iff_eq.mpr b1
        clear b1
        go_wp2_with (first
          | ((with_reducible refine gate_callee (f := 12) rfl ?_); refine goesL_ (some 65) rfl rfl Tryd.func12 (by kernel_rfl) rfl #[] rfl (by (try simp only [List.map_toArray, List.map_cons, List.map_nil]); first | done | rfl) ?_; (with_reducible refine (QTxt.decorumlaw09_awake.calls true _ awake_f (Shp.below HSH.out HB.out)).mono ?_); rintro e w1 ⟨rfl, hb1⟩; refine ⟨_, rfl, ?_⟩; have HB1 := Aside0.mk (below_step HB.out hb1); clear hb1))
        go_ret
        exact ⟨rfl, HB1.out⟩
      have c1 : (bt all x == 10) = false := beq_eq_false_iff_ne.mpr b1
      by_cases b2 : bt all x = 13
      · have c2 : (bt all x == 13) = true := beq_iff_eq.mpr b2
        clear b2 b1
        go_wp2_with (first
          | ((with_reducible refine gate_callee (f := 12) rfl ?_); refine goesL_ (some 65) rfl rfl Tryd.func12 (by kernel_rfl) rfl #[] rfl (by (try simp only [List.map_toArray, List.map_cons, List.map_nil]); first | done | rfl) ?_; (with_reducible refine (QTxt.decorumlaw09_awake.calls true _ awake_f (Shp.below HSH.out HB.out)).mono ?_); rintro e w1 ⟨rfl, hb1⟩; refine ⟨_, rfl, ?_⟩; have HB1 := Aside0.mk (below_step HB.out hb1); clear hb1))
        go_ret
        exact ⟨rfl, HB1.out⟩
      have c2 : (bt all x == 13) = false := beq_eq_false_iff_ne.mpr b2
      by_cases b3 : bt all x = 35
      · have c3 : (bt all x == 35) = true := beq_iff_eq.mpr b3
        clear b3 b2 b1
        go_wp2_with (first
          | ((with_reducible refine gate_callee (f := 12) rfl ?_); refine goesL_ (some 65) rfl rfl Tryd.func12 (by kernel_rfl) rfl #[] rfl (by (try simp only [List.map_toArray, List.map_cons, List.map_nil]); first | done | rfl) ?_; (with_reducible refine (QTxt.decorumlaw09_awake.calls true _ awake_f (Shp.below HSH.out HB.out)).mono ?_); rintro e w1 ⟨rfl, hb1⟩; refine ⟨_, rfl, ?_⟩; have HB1 := Aside0.mk (below_step HB.out hb1); clear hb1))
        go_ret
        exact ⟨rfl, HB1.out⟩
      have c3 : (bt all x == 35) = false := beq_eq_false_iff_ne.mpr b3
      by_cases b4 : x < (key.size : Int)
      · have c4 := eq_true b4
        by_cases b5 : bt all x = 58
        · have c5 : (bt all x == 58) = true := beq_iff_eq.mpr b5
          clear b5 b4 b3 b2 b1
          go_wp2_with (first
            | ((with_reducible refine gate_callee (f := 12) rfl ?_); refine goesL_ (some 65) rfl rfl Tryd.func12 (by kernel_rfl) rfl #[] rfl (by (try simp only [List.map_toArray, List.map_cons, List.map_nil]); first | done | rfl) ?_; (with_reducible refine (QTxt.decorumlaw09_awake.calls true _ awake_f (Shp.below HSH.out HB.out)).mono ?_); rintro e w1 ⟨rfl, hb1⟩; refine ⟨_, rfl, ?_⟩; have HB1 := Aside0.mk (below_step HB.out hb1); clear hb1))
          go_ret
          exact ⟨rfl, HB1.out⟩
        · have c5 : (bt all x == 58) = false := beq_eq_false_iff_ne.mpr b5
          have hg2 := stepg.out b1 b2 b3 (fun _ => b5)
          clear b5 b4 b3 b2 b1
          go_wp2
          go_roundw
          case rel => exact ⟨x + 1, by rw [hnx.out.2.2], hnx.out.1, hnx.out.2.1, hg2, HB⟩
          case measure => simp [intOf, hnx.out.2.2]; exact hms.out
      · have c4 := eq_false b4
        have hg2 := stepg.out b1 b2 b3 (fun h => absurd h b4)
        clear b4 b3 b2 b1
        go_wp2
        go_roundw
        case rel => exact ⟨x + 1, by rw [hnx.out.2.2], hnx.out.1, hnx.out.2.1, hg2, HB⟩
        case measure => simp [intOf, hnx.out.2.2]; exact hms.out
    · have hlt' := eq_false hlt
      have HG := Aside0.mk (show ∀ j : Nat, j < all.size → bt all j ≠ 10 ∧ bt all j ≠ 13 ∧ bt all j ≠ 35 ∧ ((j : Int) < key.size → bt all j ≠ 58) from fun j hj => hgood.out j (by omega))
      have hconv := Lib.run_convert_string_bytes wr 9 39 5 key Tryd.underlying9 Tryd.underlying39 Tryd.underlying5
      have hB : Hid (Bts (Lib.bytesWorld wr 5 key) wr.heap.size key.data.toList) := Bts.of wr key
      have hb := Aside0.mk (below_step HB.out (Bts.below wr key))
      have hge := Aside0.mk HB.out.size
      have hsl : Hid (key.data.toList.length = key.size) := by show _ = _; simp
      clear hgood hx0 hx1 hlt HB
      generalize Lib.bytesWorld wr 5 key = w1 at hconv hB hb
      generalize grownCap wr key.size 0 5 = cap at hconv
      go_wp2
      clear hconv
      generalize hbb : wr.heap.size = b0 at hB hge ⊢
      clear hbb
      cases large with
      | false =>
        go_loopw [12] (fun v w2 => v = .int .i64 0 ∧ Hid (Bts w2 b0 key.data.toList) ∧ Aside0 (Below w.heap.size w w2)) (fun _ _ => 0)
        case atStart => exact ⟨rfl, hB, hb⟩
        case round =>
          clear hB hb
          obtain ⟨rfl, hB, hb⟩ := hrel
          obtain ⟨kb, hkb0⟩ : ∃ z : ByteArray, z = ⟨key.data.toList.toArray⟩ := ⟨_, rfl⟩
          have hkb := Aside0.mk (show kb.data.toList = key.data.toList ∨ kb.data.toList = key.data.toList.map Pure.upB from .inl (by rw [hkb0]))
          have hkbs : kb.size = key.size := by rw [hkb0]; try rfl
          have HK0 := Aside0.mk hkb0
          clear hkb0
          have hz : (0 < key.size) = True ∨ (0 < key.size) = False := by by_cases h : 0 < key.size; exact .inl (eq_true h); exact .inr (eq_false h)
          rcases hz with hz | hz
          ·
            have hks : kb.size ≤ 300 := by rw [hkbs]; exact HK.out.1
            obtain ⟨k0, k1, k2⟩ := HK.out
            obtain ⟨a1, ea1⟩ : ∃ z : ByteArray, z = (⟨#[120, 58, 121, 10]⟩ : ByteArray) ++ key := ⟨_, rfl⟩
            have sa1 : a1.size = 4 + key.size := by rw [ea1, ByteArray.size_append]; try rfl
            have ja1 : (9223372036854775807 < 4 + key.size) = False := eq_false (by omega)
            have ia1 : (9223372036854775803 < key.size) = False := eq_false (by omega)
            obtain ⟨a2, ea2⟩ : ∃ z : ByteArray, z = a1 ++ (⟨#[58]⟩ : ByteArray) := ⟨_, rfl⟩
            have sa2 : a2.size = a1.size + 1 := by rw [ea2, ByteArray.size_append]; try rfl
            have ja2 : (9223372036854775807 < a1.size + 1) = False := eq_false (by omega)
            have ia2 : (9223372036854775806 < a1.size) = False := eq_false (by omega)
            obtain ⟨a3, ea3⟩ : ∃ z : ByteArray, z = a2 ++ value := ⟨_, rfl⟩
            have sa3 : a3.size = a2.size + value.size := by rw [ea3, ByteArray.size_append]
            have ja3 : (9223372036854775807 < a2.size + value.size) = False := eq_false (by omega)
            obtain ⟨b1, eb1⟩ : ∃ z : ByteArray, z = (⟨#[120, 58, 121, 13, 10, 13, 10, 32, 9]⟩ : ByteArray) ++ kb := ⟨_, rfl⟩
            have sb1 : b1.size = 9 + kb.size := by rw [eb1, ByteArray.size_append]; try rfl
            have jb1 : (9223372036854775807 < 9 + kb.size) = False := eq_false (by omega)
            have ib1 : (9223372036854775798 < kb.size) = False := eq_false (by omega)
            obtain ⟨b2, eb2⟩ : ∃ z : ByteArray, z = b1 ++ (⟨#[32, 58, 32, 9]⟩ : ByteArray) := ⟨_, rfl⟩
            have sb2 : b2.size = b1.size + 4 := by rw [eb2, ByteArray.size_append]; try rfl
            have jb2 : (9223372036854775807 < b1.size + 4) = False := eq_false (by omega)
            have ib2 : (9223372036854775803 < b1.size) = False := eq_false (by omega)
            obtain ⟨b3, eb3⟩ : ∃ z : ByteArray, z = b2 ++ value := ⟨_, rfl⟩
            have sb3 : b3.size = b2.size + value.size := by rw [eb3, ByteArray.size_append]
            have jb3 : (9223372036854775807 < b2.size + value.size) = False := eq_false (by omega)
            obtain ⟨b4, eb4⟩ : ∃ z : ByteArray, z = b3 ++ (⟨#[32, 32, 35]⟩ : ByteArray) := ⟨_, rfl⟩
            have sb4 : b4.size = b3.size + 3 := by rw [eb4, ByteArray.size_append]; try rfl
            have jb4 : (9223372036854775807 < b3.size + 3) = False := eq_false (by omega)
            have ib4 : (9223372036854775804 < b3.size) = False := eq_false (by omega)
            obtain ⟨b5, eb5⟩ : ∃ z : ByteArray, z = b4 ++ mark := ⟨_, rfl⟩
            have sb5 : b5.size = b4.size + mark.size := by rw [eb5, ByteArray.size_append]
            have jb5 : (9223372036854775807 < b4.size + mark.size) = False := eq_false (by omega)
            obtain ⟨b6, eb6⟩ : ∃ z : ByteArray, z = b5 ++ (⟨#[10, 10]⟩ : ByteArray) := ⟨_, rfl⟩
            have sb6 : b6.size = b5.size + 2 := by rw [eb6, ByteArray.size_append]; try rfl
            have jb6 : (9223372036854775807 < b5.size + 2) = False := eq_false (by omega)
            have ib6 : (9223372036854775805 < b5.size) = False := eq_false (by omega)
            have HPQ := Aside0.mk (calm_parse key value mark kb all a3 b6 HA.out HG.out (by rw [ea3, ea2, ea1]; simp [ByteArray.data_append]) (by rw [eb6, eb5, eb4, eb3, eb2, eb1]; simp [ByteArray.data_append]) hkb.out (by omega) (by omega))
            have t3 := Aside0.mk (show a3.size ≤ 4096 by omega)
            clear hks k0 k1 k2 hkbs sa1 sa2 sa3 sb1 sb2 sb3 sb4 sb5 sb6
            replace ea1 := ea1.symm
            replace ea2 := ea2.symm
            replace ea3 := ea3.symm
            replace eb1 := eb1.symm
            replace eb2 := eb2.symm
            replace eb3 := eb3.symm
            replace eb4 := eb4.symm
            replace eb5 := eb5.symm
            replace eb6 := eb6.symm
            obtain ⟨X, hX1, hX2, hXl⟩ := HPQ.out
            have hX1 := Aside0.mk hX1
            have hX2 := Aside0.mk hX2
            clear HPQ
            go_upto_region 17 with (first | (go_at_call 10; (with_reducible refine (lines_Parse.calls a3 X _ hX1.out (Shp.below HSH.out hb.out)).mono ?_); rintro e w6 ⟨v6, rfl, hr6, hb6⟩; have HR6 := Aside0.mk (Kd.R_lower hr6 hb.out.size); have HB6 := Aside0.mk (below_step hb.out hb6); have hback := low_back w w6 b0 cap key.size key.data.toList (Bts.step hB.out hb6) hsl.out; rw [← HK0.out] at hback; clear hr6 hb6) | (go_at_call 10; (with_reducible refine (lines_Parse.calls b6 X _ hX2.out (Shp.below HSH.out HB6.out)).mono ?_); rintro e w7 ⟨v7, rfl, hr7, hb7⟩; have HR7 := Aside0.mk (Kd.R_below HR6.out hb7); have HT7 := Aside0.mk (Kd.R_lower hr7 HB6.out.size); have HB7 := Aside0.mk (below_step HB6.out hb7); clear hr7 hb7))
            obtain ⟨A6, c6, rfl⟩ := Kd.R_slice HR7.out
            obtain ⟨A7, c7, rfl⟩ := Kd.R_slice HT7.out
            go_wp2
            go_loopw [15] (fun v w8 => ∃ i : Nat, v = .int .i64 i ∧ i ≤ X.length ∧ Aside0 (Below w7.heap.size w7 w8)) (fun v _ => X.length - (intOf v).toNat)
            case atStart => exact ⟨0, rfl, by omega, ⟨Below.refl _ _⟩⟩
            case round =>
              obtain ⟨i, rfl, hi, hb8⟩ := hrel
              by_cases hlti : i < X.length
              · have hlti' : ((i : Int) < (X.length : Int)) = True := eq_true (by omega)
                obtain ⟨ad6, rfl, hx0, hx1⟩ := at_T40 (Kd.R_reads' HR7.out).2.2 (i : Int) (by omega) (by omega)
                obtain ⟨ad7, rfl, hy0, hy1⟩ := at_T40 (Kd.R_reads' HT7.out).2.2 (i : Int) (by omega) (by omega)
                rw [Int.toNat_natCast] at hx0 hx1 hy0 hy1
                have hx0 := (hb8.out.cell (World.block_lt_of_cell? _ _ hx0)).trans hx0
                have hx1 := (hb8.out.cell (World.block_lt_of_cell? _ _ hx1)).trans hx1
                have hy0 := (hb8.out.cell (World.block_lt_of_cell? _ _ hy0)).trans hy0
                have hy1 := (hb8.out.cell (World.block_lt_of_cell? _ _ hy1)).trans hy1
                generalize rd_T40 X (i : Int) = l at hx0 hx1 hy0 hy1
                obtain ⟨kk, vv⟩ := l
                simp only at hx0 hx1 hy0 hy1
                go_upto_region 22 with (fail)
                go_region
                go_wp2
                go_roundw
                case rel => exact ⟨i + 1, by go_num, by omega, ⟨below_drew1 hb8.out⟩⟩
                case measure => simp [intOf]; omega
              · have hlti' : ((i : Int) < (X.length : Int)) = False := eq_false (by omega)
                have HB8 := Aside0.mk (below_step HB7.out hb8.out)
                go_wp2_with (first | ((with_reducible refine gate_callee (f := 12) rfl ?_); refine goesL_ (some 132) rfl rfl Tryd.func12 (by kernel_rfl) rfl #[] rfl (by (try simp only [List.map_toArray, List.map_cons, List.map_nil]); first | done | rfl) ?_; (with_reducible refine (QTxt.decorumlaw09_awake.calls true _ awake_f (Shp.below HSH.out HB8.out)).mono ?_); rintro e w9 ⟨rfl, hb9⟩; refine ⟨_, rfl, ?_⟩; have HB9 := Aside0.mk (below_step HB8.out hb9); clear hb9))
                go_ret
                exact ⟨rfl, HB9.out⟩
          ·
            have hks : kb.size ≤ 300 := by rw [hkbs]; exact HK.out.1
            obtain ⟨k0, k1, k2⟩ := HK.out
            obtain ⟨a1, ea1⟩ : ∃ z : ByteArray, z = (⟨#[120, 58, 121, 10]⟩ : ByteArray) ++ key := ⟨_, rfl⟩
            have sa1 : a1.size = 4 + key.size := by rw [ea1, ByteArray.size_append]; try rfl
            have ja1 : (9223372036854775807 < 4 + key.size) = False := eq_false (by omega)
            have ia1 : (9223372036854775803 < key.size) = False := eq_false (by omega)
            obtain ⟨a2, ea2⟩ : ∃ z : ByteArray, z = a1 ++ (⟨#[58]⟩ : ByteArray) := ⟨_, rfl⟩
            have sa2 : a2.size = a1.size + 1 := by rw [ea2, ByteArray.size_append]; try rfl
            have ja2 : (9223372036854775807 < a1.size + 1) = False := eq_false (by omega)
            have ia2 : (9223372036854775806 < a1.size) = False := eq_false (by omega)
            obtain ⟨a3, ea3⟩ : ∃ z : ByteArray, z = a2 ++ value := ⟨_, rfl⟩
            have sa3 : a3.size = a2.size + value.size := by rw [ea3, ByteArray.size_append]
            have ja3 : (9223372036854775807 < a2.size + value.size) = False := eq_false (by omega)
            obtain ⟨b1, eb1⟩ : ∃ z : ByteArray, z = (⟨#[120, 58, 121, 13, 10, 13, 10, 32, 9]⟩ : ByteArray) ++ kb := ⟨_, rfl⟩
            have sb1 : b1.size = 9 + kb.size := by rw [eb1, ByteArray.size_append]; try rfl
            have jb1 : (9223372036854775807 < 9 + kb.size) = False := eq_false (by omega)
            have ib1 : (9223372036854775798 < kb.size) = False := eq_false (by omega)
            obtain ⟨b2, eb2⟩ : ∃ z : ByteArray, z = b1 ++ (⟨#[32, 58, 32, 9]⟩ : ByteArray) := ⟨_, rfl⟩
            have sb2 : b2.size = b1.size + 4 := by rw [eb2, ByteArray.size_append]; try rfl
            have jb2 : (9223372036854775807 < b1.size + 4) = False := eq_false (by omega)
            have ib2 : (9223372036854775803 < b1.size) = False := eq_false (by omega)
            obtain ⟨b3, eb3⟩ : ∃ z : ByteArray, z = b2 ++ value := ⟨_, rfl⟩
            have sb3 : b3.size = b2.size + value.size := by rw [eb3, ByteArray.size_append]
            have jb3 : (9223372036854775807 < b2.size + value.size) = False := eq_false (by omega)
            obtain ⟨b4, eb4⟩ : ∃ z : ByteArray, z = b3 ++ (⟨#[32, 32, 35]⟩ : ByteArray) := ⟨_, rfl⟩
            have sb4 : b4.size = b3.size + 3 := by rw [eb4, ByteArray.size_append]; try rfl
            have jb4 : (9223372036854775807 < b3.size + 3) = False := eq_false (by omega)
            have ib4 : (9223372036854775804 < b3.size) = False := eq_false (by omega)
            obtain ⟨b5, eb5⟩ : ∃ z : ByteArray, z = b4 ++ mark := ⟨_, rfl⟩
            have sb5 : b5.size = b4.size + mark.size := by rw [eb5, ByteArray.size_append]
            have jb5 : (9223372036854775807 < b4.size + mark.size) = False := eq_false (by omega)
            obtain ⟨b6, eb6⟩ : ∃ z : ByteArray, z = b5 ++ (⟨#[10, 10]⟩ : ByteArray) := ⟨_, rfl⟩
            have sb6 : b6.size = b5.size + 2 := by rw [eb6, ByteArray.size_append]; try rfl
            have jb6 : (9223372036854775807 < b5.size + 2) = False := eq_false (by omega)
            have ib6 : (9223372036854775805 < b5.size) = False := eq_false (by omega)
            have HPQ := Aside0.mk (calm_parse key value mark kb all a3 b6 HA.out HG.out (by rw [ea3, ea2, ea1]; simp [ByteArray.data_append]) (by rw [eb6, eb5, eb4, eb3, eb2, eb1]; simp [ByteArray.data_append]) hkb.out (by omega) (by omega))
            have t3 := Aside0.mk (show a3.size ≤ 4096 by omega)
            clear hks k0 k1 k2 hkbs sa1 sa2 sa3 sb1 sb2 sb3 sb4 sb5 sb6
            replace ea1 := ea1.symm
            replace ea2 := ea2.symm
            replace ea3 := ea3.symm
            replace eb1 := eb1.symm
            replace eb2 := eb2.symm
            replace eb3 := eb3.symm
            replace eb4 := eb4.symm
            replace eb5 := eb5.symm
            replace eb6 := eb6.symm
            obtain ⟨X, hX1, hX2, hXl⟩ := HPQ.out
            have hX1 := Aside0.mk hX1
            have hX2 := Aside0.mk hX2
            clear HPQ
            go_upto_region 17 with (first | (go_at_call 10; (with_reducible refine (lines_Parse.calls a3 X _ hX1.out (Shp.below HSH.out hb.out)).mono ?_); rintro e w6 ⟨v6, rfl, hr6, hb6⟩; have HR6 := Aside0.mk (Kd.R_lower hr6 hb.out.size); have HB6 := Aside0.mk (below_step hb.out hb6); have hback := low_back w w6 b0 cap key.size key.data.toList (Bts.step hB.out hb6) hsl.out; rw [← HK0.out] at hback; clear hr6 hb6) | (go_at_call 10; (with_reducible refine (lines_Parse.calls b6 X _ hX2.out (Shp.below HSH.out HB6.out)).mono ?_); rintro e w7 ⟨v7, rfl, hr7, hb7⟩; have HR7 := Aside0.mk (Kd.R_below HR6.out hb7); have HT7 := Aside0.mk (Kd.R_lower hr7 HB6.out.size); have HB7 := Aside0.mk (below_step HB6.out hb7); clear hr7 hb7))
            obtain ⟨A6, c6, rfl⟩ := Kd.R_slice HR7.out
            obtain ⟨A7, c7, rfl⟩ := Kd.R_slice HT7.out
            go_wp2
            go_loopw [15] (fun v w8 => ∃ i : Nat, v = .int .i64 i ∧ i ≤ X.length ∧ Aside0 (Below w7.heap.size w7 w8)) (fun v _ => X.length - (intOf v).toNat)
            case atStart => exact ⟨0, rfl, by omega, ⟨Below.refl _ _⟩⟩
            case round =>
              obtain ⟨i, rfl, hi, hb8⟩ := hrel
              by_cases hlti : i < X.length
              · have hlti' : ((i : Int) < (X.length : Int)) = True := eq_true (by omega)
                obtain ⟨ad6, rfl, hx0, hx1⟩ := at_T40 (Kd.R_reads' HR7.out).2.2 (i : Int) (by omega) (by omega)
                obtain ⟨ad7, rfl, hy0, hy1⟩ := at_T40 (Kd.R_reads' HT7.out).2.2 (i : Int) (by omega) (by omega)
                rw [Int.toNat_natCast] at hx0 hx1 hy0 hy1
                have hx0 := (hb8.out.cell (World.block_lt_of_cell? _ _ hx0)).trans hx0
                have hx1 := (hb8.out.cell (World.block_lt_of_cell? _ _ hx1)).trans hx1
                have hy0 := (hb8.out.cell (World.block_lt_of_cell? _ _ hy0)).trans hy0
                have hy1 := (hb8.out.cell (World.block_lt_of_cell? _ _ hy1)).trans hy1
                generalize rd_T40 X (i : Int) = l at hx0 hx1 hy0 hy1
                obtain ⟨kk, vv⟩ := l
                simp only at hx0 hx1 hy0 hy1
                go_upto_region 22 with (fail)
                go_region
                go_wp2
                go_roundw
                case rel => exact ⟨i + 1, by go_num, by omega, ⟨below_drew1 hb8.out⟩⟩
                case measure => simp [intOf]; omega
              · have hlti' : ((i : Int) < (X.length : Int)) = False := eq_false (by omega)
                have HB8 := Aside0.mk (below_step HB7.out hb8.out)
                go_wp2_with (first | ((with_reducible refine gate_callee (f := 12) rfl ?_); refine goesL_ (some 132) rfl rfl Tryd.func12 (by kernel_rfl) rfl #[] rfl (by (try simp only [List.map_toArray, List.map_cons, List.map_nil]); first | done | rfl) ?_; (with_reducible refine (QTxt.decorumlaw09_awake.calls true _ awake_f (Shp.below HSH.out HB8.out)).mono ?_); rintro e w9 ⟨rfl, hb9⟩; refine ⟨_, rfl, ?_⟩; have HB9 := Aside0.mk (below_step HB8.out hb9); clear hb9))
                go_ret
                exact ⟨rfl, HB9.out⟩
      | true =>
        have hk300 := HK.out.1
        go_loopw [12] (fun v w2 => ∃ i : Nat, i ≤ key.size ∧ v = .int .i64 i ∧ Hid (Bts w2 b0 ((key.data.toList.take i).map Pure.upB ++ key.data.toList.drop i)) ∧ Aside0 (Below w.heap.size w w2)) (fun v w2 => key.size - (intOf v).toNat)
        case atStart =>
          refine ⟨0, by omega, rfl, ?_, hb⟩
          have e : (key.data.toList.take 0).map Pure.upB ++ key.data.toList.drop 0 = key.data.toList := by simp
          rw [e]; exact hB
        case round =>
          clear hB hb
          obtain ⟨i, hi, rfl, hB, hb⟩ := hrel
          have hll := up_len key.data.toList i
          by_cases hlt : i < key.size
          · have hlt'' : ((i : Int) < (key.size : Int)) = True := eq_true (by omega)
            have hil : i < key.data.toList.length := by rw [hsl.out]; exact hlt
            have hcell := hB.out.cell i (by rw [hll]; exact hil)
            rw [up_at key.data.toList i hil] at hcell
            have hfr := hB.out.frozen i (by rw [hll]; exact hil)
            have hset := hB.out.set i (by rw [hll]; exact hil) (Pure.upB key.data.toList[i])
            rw [up_next key.data.toList i hil] at hset
            have hskip := up_skip key.data.toList i hil
            have hwl := wrap_up key.data.toList[i]
            have hln := up_not key.data.toList[i]
            generalize key.data.toList[i] = c at hcell hset hskip hwl hln
            have hset : Hid _ := hset
            clear hll
            by_cases hc : 97 ≤ c.toNat ∧ c.toNat ≤ 122
            · have hw2 := hwl hc
              have h1 : (97 ≤ (c.toNat : Int)) = True := eq_true (by omega)
              have h2 : ((c.toNat : Int) ≤ 122) = True := eq_true (by omega)
              clear hwl hln hskip hc hil
              go_wp2
              go_roundw
              case rel => exact ⟨i + 1, by omega, by go_num, hset, ⟨Below.setCell hb.out (p := ⟨b0, i, none⟩) hge.out _⟩⟩
              case measure => simp [intOf]; omega
            · have hl2 := hskip (hln hc)
              have hB2 : Hid _ := (hl2 ▸ hB.out : Bts wr b0 ((key.data.toList.take (i + 1)).map Pure.upB ++ key.data.toList.drop (i + 1)))
              clear hwl hln hskip hil hset hl2 hB
              have key2 : ((97 ≤ (c.toNat : Int)) = True ∧ ((c.toNat : Int) ≤ 122) = False) ∨ (97 ≤ (c.toNat : Int)) = False := by
                by_cases h : 97 ≤ c.toNat
                · exact .inl ⟨eq_true (by omega), eq_false (by omega)⟩
                · exact .inr (eq_false (by omega))
              clear hc
              rcases key2 with ⟨h1, h2⟩ | h1
              · go_wp2
                go_roundw
                case rel => exact ⟨i + 1, by omega, by go_num, hB2, hb⟩
                case measure => simp [intOf]; omega
              · go_wp2
                go_roundw
                case rel => exact ⟨i + 1, by omega, by go_num, hB2, hb⟩
                case measure => simp [intOf]; omega
          · have hlt'' : ((i : Int) < (key.size : Int)) = False := eq_false (by omega)
            obtain rfl : i = key.size := by omega
            have hB2 : Hid (Bts wr b0 (key.data.toList.map Pure.upB)) := by
              have := hB.out
              rw [List.take_of_length_le (Nat.le_of_eq hsl.out), List.drop_of_length_le (Nat.le_of_eq hsl.out), List.append_nil] at this
              exact this
            clear hB
            have hB := hB2
            clear hB2 hll hlt hi
            obtain ⟨kb, hkb0⟩ : ∃ z : ByteArray, z = ⟨(key.data.toList.map Pure.upB).toArray⟩ := ⟨_, rfl⟩
            have hkb := Aside0.mk (show kb.data.toList = key.data.toList ∨ kb.data.toList = key.data.toList.map Pure.upB from .inr (by rw [hkb0]))
            have hkbs : kb.size = key.size := by rw [hkb0, Lib.size_eq, Lib.size_eq key]; simp
            have HK0 := Aside0.mk hkb0
            clear hkb0
            have hks : kb.size ≤ 300 := by rw [hkbs]; exact HK.out.1
            obtain ⟨k0, k1, k2⟩ := HK.out
            obtain ⟨a1, ea1⟩ : ∃ z : ByteArray, z = (⟨#[120, 58, 121, 10]⟩ : ByteArray) ++ key := ⟨_, rfl⟩
            have sa1 : a1.size = 4 + key.size := by rw [ea1, ByteArray.size_append]; try rfl
            have ja1 : (9223372036854775807 < 4 + key.size) = False := eq_false (by omega)
            have ia1 : (9223372036854775803 < key.size) = False := eq_false (by omega)
            obtain ⟨a2, ea2⟩ : ∃ z : ByteArray, z = a1 ++ (⟨#[58]⟩ : ByteArray) := ⟨_, rfl⟩
            have sa2 : a2.size = a1.size + 1 := by rw [ea2, ByteArray.size_append]; try rfl
            have ja2 : (9223372036854775807 < a1.size + 1) = False := eq_false (by omega)
            have ia2 : (9223372036854775806 < a1.size) = False := eq_false (by omega)
            obtain ⟨a3, ea3⟩ : ∃ z : ByteArray, z = a2 ++ value := ⟨_, rfl⟩
            have sa3 : a3.size = a2.size + value.size := by rw [ea3, ByteArray.size_append]
            have ja3 : (9223372036854775807 < a2.size + value.size) = False := eq_false (by omega)
            obtain ⟨b1, eb1⟩ : ∃ z : ByteArray, z = (⟨#[120, 58, 121, 13, 10, 13, 10, 32, 9]⟩ : ByteArray) ++ kb := ⟨_, rfl⟩
            have sb1 : b1.size = 9 + kb.size := by rw [eb1, ByteArray.size_append]; try rfl
            have jb1 : (9223372036854775807 < 9 + kb.size) = False := eq_false (by omega)
            have ib1 : (9223372036854775798 < kb.size) = False := eq_false (by omega)
            obtain ⟨b2, eb2⟩ : ∃ z : ByteArray, z = b1 ++ (⟨#[32, 58, 32, 9]⟩ : ByteArray) := ⟨_, rfl⟩
            have sb2 : b2.size = b1.size + 4 := by rw [eb2, ByteArray.size_append]; try rfl
            have jb2 : (9223372036854775807 < b1.size + 4) = False := eq_false (by omega)
            have ib2 : (9223372036854775803 < b1.size) = False := eq_false (by omega)
            obtain ⟨b3, eb3⟩ : ∃ z : ByteArray, z = b2 ++ value := ⟨_, rfl⟩
            have sb3 : b3.size = b2.size + value.size := by rw [eb3, ByteArray.size_append]
            have jb3 : (9223372036854775807 < b2.size + value.size) = False := eq_false (by omega)
            obtain ⟨b4, eb4⟩ : ∃ z : ByteArray, z = b3 ++ (⟨#[32, 32, 35]⟩ : ByteArray) := ⟨_, rfl⟩
            have sb4 : b4.size = b3.size + 3 := by rw [eb4, ByteArray.size_append]; try rfl
            have jb4 : (9223372036854775807 < b3.size + 3) = False := eq_false (by omega)
            have ib4 : (9223372036854775804 < b3.size) = False := eq_false (by omega)
            obtain ⟨b5, eb5⟩ : ∃ z : ByteArray, z = b4 ++ mark := ⟨_, rfl⟩
            have sb5 : b5.size = b4.size + mark.size := by rw [eb5, ByteArray.size_append]
            have jb5 : (9223372036854775807 < b4.size + mark.size) = False := eq_false (by omega)
            obtain ⟨b6, eb6⟩ : ∃ z : ByteArray, z = b5 ++ (⟨#[10, 10]⟩ : ByteArray) := ⟨_, rfl⟩
            have sb6 : b6.size = b5.size + 2 := by rw [eb6, ByteArray.size_append]; try rfl
            have jb6 : (9223372036854775807 < b5.size + 2) = False := eq_false (by omega)
            have ib6 : (9223372036854775805 < b5.size) = False := eq_false (by omega)
            have HPQ := Aside0.mk (calm_parse key value mark kb all a3 b6 HA.out HG.out (by rw [ea3, ea2, ea1]; simp [ByteArray.data_append]) (by rw [eb6, eb5, eb4, eb3, eb2, eb1]; simp [ByteArray.data_append]) hkb.out (by omega) (by omega))
            have t3 := Aside0.mk (show a3.size ≤ 4096 by omega)
            clear hks k0 k1 k2 hkbs sa1 sa2 sa3 sb1 sb2 sb3 sb4 sb5 sb6
            replace ea1 := ea1.symm
            replace ea2 := ea2.symm
            replace ea3 := ea3.symm
            replace eb1 := eb1.symm
            replace eb2 := eb2.symm
            replace eb3 := eb3.symm
            replace eb4 := eb4.symm
            replace eb5 := eb5.symm
            replace eb6 := eb6.symm
            obtain ⟨X, hX1, hX2, hXl⟩ := HPQ.out
            have hX1 := Aside0.mk hX1
            have hX2 := Aside0.mk hX2
            clear HPQ
            go_upto_region 17 with (first | (go_at_call 10; (with_reducible refine (lines_Parse.calls a3 X _ hX1.out (Shp.below HSH.out hb.out)).mono ?_); rintro e w6 ⟨v6, rfl, hr6, hb6⟩; have HR6 := Aside0.mk (Kd.R_lower hr6 hb.out.size); have HB6 := Aside0.mk (below_step hb.out hb6); have hback := low_back w w6 b0 cap key.size (key.data.toList.map Pure.upB) (Bts.step hB.out hb6) (by rw [List.length_map]; exact hsl.out); rw [← HK0.out] at hback; clear hr6 hb6) | (go_at_call 10; (with_reducible refine (lines_Parse.calls b6 X _ hX2.out (Shp.below HSH.out HB6.out)).mono ?_); rintro e w7 ⟨v7, rfl, hr7, hb7⟩; have HR7 := Aside0.mk (Kd.R_below HR6.out hb7); have HT7 := Aside0.mk (Kd.R_lower hr7 HB6.out.size); have HB7 := Aside0.mk (below_step HB6.out hb7); clear hr7 hb7))
            obtain ⟨A6, c6, rfl⟩ := Kd.R_slice HR7.out
            obtain ⟨A7, c7, rfl⟩ := Kd.R_slice HT7.out
            go_wp2
            go_loopw [15] (fun v w8 => ∃ i : Nat, v = .int .i64 i ∧ i ≤ X.length ∧ Aside0 (Below w7.heap.size w7 w8)) (fun v _ => X.length - (intOf v).toNat)
            case atStart => exact ⟨0, rfl, by omega, ⟨Below.refl _ _⟩⟩
            case round =>
              obtain ⟨i, rfl, hi, hb8⟩ := hrel
              by_cases hlti : i < X.length
              · have hlti' : ((i : Int) < (X.length : Int)) = True := eq_true (by omega)
                obtain ⟨ad6, rfl, hx0, hx1⟩ := at_T40 (Kd.R_reads' HR7.out).2.2 (i : Int) (by omega) (by omega)
                obtain ⟨ad7, rfl, hy0, hy1⟩ := at_T40 (Kd.R_reads' HT7.out).2.2 (i : Int) (by omega) (by omega)
                rw [Int.toNat_natCast] at hx0 hx1 hy0 hy1
                have hx0 := (hb8.out.cell (World.block_lt_of_cell? _ _ hx0)).trans hx0
                have hx1 := (hb8.out.cell (World.block_lt_of_cell? _ _ hx1)).trans hx1
                have hy0 := (hb8.out.cell (World.block_lt_of_cell? _ _ hy0)).trans hy0
                have hy1 := (hb8.out.cell (World.block_lt_of_cell? _ _ hy1)).trans hy1
                generalize rd_T40 X (i : Int) = l at hx0 hx1 hy0 hy1
                obtain ⟨kk, vv⟩ := l
                simp only at hx0 hx1 hy0 hy1
                go_upto_region 22 with (fail)
                go_region
                go_wp2
                go_roundw
                case rel => exact ⟨i + 1, by go_num, by omega, ⟨below_drew1 hb8.out⟩⟩
                case measure => simp [intOf]; omega
              · have hlti' : ((i : Int) < (X.length : Int)) = False := eq_false (by omega)
                have HB8 := Aside0.mk (below_step HB7.out hb8.out)
                go_wp2_with (first | ((with_reducible refine gate_callee (f := 12) rfl ?_); refine goesL_ (some 132) rfl rfl Tryd.func12 (by kernel_rfl) rfl #[] rfl (by (try simp only [List.map_toArray, List.map_cons, List.map_nil]); first | done | rfl) ?_; (with_reducible refine (QTxt.decorumlaw09_awake.calls true _ awake_f (Shp.below HSH.out HB8.out)).mono ?_); rintro e w9 ⟨rfl, hb9⟩; refine ⟨_, rfl, ?_⟩; have HB9 := Aside0.mk (below_step HB8.out hb9); clear hb9))
                go_ret
                exact ⟨rfl, HB9.out⟩
end Go.Proofs.YthbmedhejlhclaaDoor.Given
