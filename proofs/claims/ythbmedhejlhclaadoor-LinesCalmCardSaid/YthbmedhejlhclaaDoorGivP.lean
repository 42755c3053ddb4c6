/- lines.Parse: what it answers. -/
import Derived.Test.YthbmedhejlhclaaDoorQBasex2
import Derived.Test.YthbmedhejlhclaaDoorGivD
namespace Go.Proofs.YthbmedhejlhclaaDoor.Given
open Go.RowKit Go.Proofs.YthbmedhejlhclaaDoor.QBase Go.Proofs.YthbmedhejlhclaaDoorW.PrintWords Go.Proofs.YthbmedhejlhclaaDoorW.PrintLast
set_option linter.unusedVariables false

theorem info40 : (Tryd.prog.info? 40).map (fun i => (i.zero, i.size, i.bytes)) = some (some (.agg #[(.string ⟨#[]⟩), (.string ⟨#[]⟩)]), 2, 32) := by kernel_rfl
/-- An end of a line. -/
def isNL (r : Nat) : Bool := r == 13 || r == 10
set_option maxHeartbeats 4000000 in
set_option maxRecDepth 1000000 in
theorem nl_calls (x : Nat) (hx : x ≤ 1114111) (w : World) : Calls Tryd.prog 20 #[.int .i32 (x : Int)] w fun e w' => e = .returned (.bool (isNL x)) ∧ ∃ q, w' = w.drewN q := by
  by_cases h : x = 13
  · have h1 : (((x : Nat) : Int) == 13) = true := by simp; omega
    go_enter Tryd.func20, Tryd.ntmps20
    go_wp2
    go_ret
    exact ⟨by simp [isNL, h], 0, rfl⟩
  · have h1 : (((x : Nat) : Int) == 13) = false := by simp; omega
    by_cases h' : x = 10
    · have h2 : (((x : Nat) : Int) == 10) = true := by simp; omega
      go_enter Tryd.func20, Tryd.ntmps20
      go_wp2
      go_ret
      exact ⟨by simp [isNL, h'], 0, rfl⟩
    · have h2 : (((x : Nat) : Int) == 10) = false := by simp; omega
      go_enter Tryd.func20, Tryd.ntmps20
      go_wp2
      go_ret
      exact ⟨by simp [isNL, h, h'], 0, rfl⟩

/-- What the pieces of a text say. -/
def parseL : List ByteArray → Option (List S40)
  | [] => some []
  | p :: ps => (lines_line.f p).bind fun t => (parseL ps).map fun r => if t.2.2 = true then ⟨t.1, t.2.1⟩ :: r else r
def cut4096 (a : ByteArray) : ByteArray := ⟨(Lib.trimPrefix (a.extract 0 (min a.size 4096)).data.toList [239, 187, 191]).toArray⟩
def lines_Parse.f (a0 : ByteArray) : Option (List S40) :=
  if a0.size ≤ 1099511627776 ∧ (Lib.goFieldsP isNL (cut4096 a0)).length < 1000000 then parseL (Lib.goFieldsP isNL (cut4096 a0)) else none

set_option maxHeartbeats 4000000 in
set_option maxRecDepth 1000000 in
theorem lines_Parse.calls (a0 : ByteArray) (r : List S40) (w : World) (h : lines_Parse.f a0 = some r) (hS_ : Shp w) :
    Calls Tryd.prog 10 #[.string a0] w fun e w' => ∃ v0_ : Value, e = .returned v0_ ∧ Kd.R k40 40 w' w.heap.size (fun _ => True) v0_ r ∧ Below w.heap.size w w' := by
  unfold lines_Parse.f at h
  split at h
  case isFalse => cases h
  rename_i hc
  obtain ⟨hs, hl⟩ := hc
  have HS := Aside0.mk hS_
  have HT : Aside0 (strings_TrimPrefix.f (a0.extract 0 (min a0.size 4096)) ⟨#[239, 187, 191]⟩ = some (cut4096 a0)) := ⟨rfl⟩
  have hcs : (cut4096 a0).size ≤ 4294967296 := by
    have : (cut4096 a0).data.toList.length ≤ (a0.extract 0 (min a0.size 4096)).data.toList.length := by
      show (Lib.trimPrefix _ _).length ≤ _
      unfold Lib.trimPrefix
      split
      · simp
      · omega
    simp at this
    omega
  generalize cut4096 a0 = T at *
  generalize hP : Lib.goFieldsP isNL T = P at *
  have HF : ∀ W : World, Calls Tryd.prog 19 #[.string T, .func (.func 20) #[] #[]] W fun e w' => ∃ A, e = .returned (.slice (some ⟨A, 0, none⟩) P.length P.length) ∧ W.heap.size ≤ A ∧
      w'.ownsRow W.heap.size 9 1 (.slice (some ⟨A, 0, none⟩) P.length P.length) P.length (P.map Value.string) ∧ Below W.heap.size W w' := by
    intro W
    rw [← hP]
    exact Tryd.strings_FieldsFunc_runes 20 #[] (fun args w => enters_ Tryd.func20 (by kernel_rfl) rfl args w) isNL T W hcs (fun W' x hx _ => nl_calls x hx W')
  have HF := Aside0.mk HF
  have HH := Aside0.mk h
  clear h hS_ hP
  have hmin : min (a0.size : Int) 4096 = ((min a0.size 4096 : Nat) : Int) := by omega
  go_enter Tryd.func10, Tryd.ntmps10
  go_wp2_with (first
    | (go_at_call 18; (with_reducible refine (strings_TrimPrefix.calls (a0.extract 0 (min a0.size 4096)) ⟨#[239, 187, 191]⟩ T _ HT.out).mono ?_); rintro e w' ⟨rfl, ⟨nd, rfl⟩⟩)
    | (go_at_call 19; refine (HF.out _).mono ?_; rintro e w1 ⟨A, rfl, hA, hown, hb⟩))
  have HBw : Hid (Below w.heap.size w w1) := below_step (pw_below_drewN (Below.refl _ w) nd) hb
  have HS1 := Aside0.mk (Shp.below HS.out HBw.out)
  have hcells : ∀ i (hi : i < P.length), w1.cell? ⟨A, i, none⟩ = some (.string (P[i])) := by
    intro i hi
    have := hown.cells (g := A) rfl i (.string (P[i])) (by simp [hi])
    have e : (⟨A, 0, none⟩ : Addr).add i = ⟨A, i, none⟩ := by unfold Addr.add; split <;> simp_all
    rwa [e] at this
  clear hown hb HF HT HS
  go_loopw [18, 3] (fun v18 v3 wr => ∃ (i : Nat) (acc : List S40) (rest : List S40), v18 = .int .i64 i ∧ i ≤ P.length ∧ Hid (acc.length ≤ i) ∧ Aside0 (parseL (P.drop i) = some rest) ∧ Aside0 (acc ++ rest = r) ∧ Aside0 (Kd.R k40 40 wr w1.heap.size (fun _ => True) v3 acc) ∧ Aside0 (Below w1.heap.size w1 wr)) (fun v18 v3 wr => P.length - (intOf v18).toNat)
  case atStart => exact ⟨0, [], r, rfl, by omega, Nat.zero_le _, ⟨HH.out⟩, ⟨rfl⟩, ⟨Kd.R_nil _ _ _ _ _⟩, ⟨Below.refl _ _⟩⟩
  case round =>
    clear HH
    obtain ⟨i, acc, rest, rfl, hi, hlen, HP, HR, HO_3, HB⟩ := hrel
    by_cases hlt : i < P.length
    · have hlt' : ((i : Int) < (P.length : Int)) = True := eq_true (by omega)
      have hcell := hcells i hlt
      have hdr : P.drop i = P[i] :: P.drop (i + 1) := List.drop_eq_getElem_cons hlt
      have hp2 := HP.out
      rw [hdr, parseL] at hp2
      obtain ⟨t, ht, hp2⟩ := Option.bind_eq_some_iff.mp hp2
      obtain ⟨r2, hr2, hr3⟩ := Option.map_eq_some_iff.mp hp2
      obtain ⟨p, hp⟩ : ∃ p, p = P[i] := ⟨_, rfl⟩
      rw [← hp] at hcell ht
      obtain ⟨kk, vv, ok⟩ := t
      have HL := Aside0.mk ht
      have HP2 := Aside0.mk hr2
      have hcell := (HB.out.cell (World.block_lt_of_cell? w1 _ hcell)).trans hcell
      have hl2 : Hid (acc.length ≤ 1000000) := Nat.le_trans hlen.out (by omega)
      cases ok with
      | true =>
        simp only [if_true] at hr3
        have HR2 : Aside0 ((acc ++ [⟨kk, vv⟩]) ++ r2 = r) := ⟨by rw [← HR.out, ← hr3]; simp⟩
        have hlen2 : Hid ((acc ++ [(⟨kk, vv⟩ : S40)]).length ≤ i + 1) := by have := hlen.out; show _ ≤ _; simp; omega
        have hlen := hl2
        clear hp2 hr2 hr3 ht HP hdr hp HR hcells hl2
        go_wp2_with (first | ((with_reducible refine gate_callee (f := 21) rfl ?_); refine goesL_ (some 24) rfl rfl Tryd.func21 (by kernel_rfl) rfl #[.string p] rfl (by (try simp only [List.map_toArray, List.map_cons, List.map_nil]); first | done | rfl) ?_; (with_reducible refine (lines_line.calls p kk vv true _ HL.out (Shp.below HS1.out (by repeat (first | (with_reducible first | exact HB.out | apply below_alloc | apply pw_below_drewN | apply below_drew1) | exact HB.out)))).mono ?_); rintro e w36 ⟨rfl, hb⟩; refine ⟨_, rfl, ?_⟩; have n0_ := Aside0.mk (Kd.R_below (by (with_reducible repeat (first | apply Kd.R_alloc | apply Kd.R_drewN | apply Kd.R_drew)); exact HO_3.out) hb); have n1_ := Aside0.mk (below_step (by repeat (first | (with_reducible first | exact HB.out | apply below_alloc | apply pw_below_drewN | apply below_drew1) | exact HB.out)) hb); clear HO_3; clear HB; have HO_3 := n0_; have HB := n1_; clear n0_ n1_; (try clear hb)) | ((with_reducible refine gate_dst (N := 6) rfl ?_); refine box_event ?hg (N := 6) ?hd (cs := #[.string (⟨#[]⟩ : ByteArray), .string (⟨#[]⟩ : ByteArray)]) (t := 40) ?hr ?_; (case hd => rfl); (case hg => rfl); (case hr => first | (go_simp; done) | (go_simp; rfl)); intro gb125 hg w37 hbox hb; have n0_ := Aside0.mk (Kd.R_below (Kd.R_elderB (by (with_reducible repeat (first | apply Kd.R_alloc | apply Kd.R_drewN | apply Kd.R_drew)); exact HO_3.out) gb125 (Nat.le_of_eq hg.symm)) hb); have n1_ := Aside0.mk (below_step (by repeat (first | (with_reducible first | exact HB.out | apply below_alloc | apply pw_below_drewN | apply below_drew1) | exact HB.out)) hb); have n2_ := Aside0.mk (hbox); have n4_ := Aside0.mk ((by rw [hg]; exact (below_size (by repeat (first | (with_reducible first | exact HB.out | apply below_alloc | apply pw_below_drewN | apply below_drew1) | exact HB.out))) : w1.heap.size ≤ gb125)); clear HO_3; clear HB; have HO_3 := n0_; have HB := n1_; have BK125 := n2_; have GE125 := n4_; clear n0_ n1_ n2_ n4_; clear hb hbox hg; have hcz38_0 : w37.cell? ⟨gb125, 0, none⟩ = some (.string (⟨#[]⟩ : ByteArray)) := (blk_cell BK125.out 0).trans rfl; have hcz38_1 : w37.cell? ⟨gb125, 1, none⟩ = some (.string (⟨#[]⟩ : ByteArray)) := (blk_cell BK125.out 1).trans rfl; have hfz38_0 := blk_frozen BK125.out 0; have hfz38_1 := blk_frozen BK125.out 1) | ((with_reducible refine gate_builtin (b := .append) (xs := #[.tmp 28, .tmp 30]) rfl ?_); at_builtin; refine Kd.R_append k40 (w0 := w1) w1.heap.size rfl (.tmp 28) (.tmp 30) 24 40 (.agg #[(.string ⟨#[]⟩), (.string ⟨#[]⟩)]) 32 rfl Tryd.underlying24 info40 rfl (by decide) (by omega) u3 acc (⟨kk, vv⟩ : S40) [.string kk, .string vv] (fun k_ => k_ ≠ gb125) (fun _ => False) rfl (by first | (go_simp; done) | (go_simp; rfl)) ?aP (fun _ hk => hk.elim) ?aF ?aO ?aB ?aS ?aL ?_; (case aP => exact k40_mkM _ _ _ (⟨kk, vv⟩ : S40)); (case aB => exact (by repeat (first | (with_reducible first | exact HB.out | apply below_alloc | apply pw_below_drewN | apply below_drew1 | refine below_set ?_ GE125.out) | exact HB.out))); (case aF => exact (fun k_ hk => Kd.freshB (g := gb125) (o := .cells #[.string kk, .string vv] 40 (0, 0)) (by (with_reducible repeat (first | refine blk_drewN ?_ _ | refine blk_drew ?_ | refine blk_alloc ?_ _)); refine blk_put (cs := #[.string kk, .string (⟨#[]⟩ : ByteArray)]) ?_ 1 _ rfl; (with_reducible repeat (first | refine blk_drewN ?_ _ | refine blk_drew ?_ | refine blk_alloc ?_ _)); refine blk_put (cs := #[.string (⟨#[]⟩ : ByteArray), .string (⟨#[]⟩ : ByteArray)]) ?_ 0 _ rfl; (with_reducible repeat (first | refine blk_drewN ?_ _ | refine blk_drew ?_ | refine blk_alloc ?_ _)); exact BK125.out) k_ hk)); (case aO => exact (by (with_reducible repeat (first | apply Kd.R_alloc | apply Kd.R_drewN | apply Kd.R_drew)); exact Kd.R_mono (Kd.R_far (p := ⟨gb125, 1, none⟩) (Kd.R_far (p := ⟨gb125, 0, none⟩) (Kd.R_mono HO_3.out (fun k_ hk => (⟨hk, hk.2⟩ : _ ∧ k_ ≠ gb125))) (fun _ hk => hk.2) (.string kk)) (fun _ hk => hk.2) (.string vv)) (fun _ hk => hk.1.2))); (case aS => exact (below_size (by repeat (first | (with_reducible first | exact HB.out | apply below_alloc | apply pw_below_drewN | apply below_drew1 | refine below_set ?_ GE125.out) | exact HB.out)))); (case aL => have := hlen.out; omega); intro v127 w39 ho hb hg hat; have n1_ := Aside0.mk (hb); have n2_ := Aside0.mk (ho); clear BK125; clear HB; clear HO_3; have HB := n1_; have HO128 := n2_; clear n1_ n2_; clear ho hb hg hat))
        go_roundw
        case rel => exact ⟨i + 1, _, r2, by go_num, by omega, hlen2, HP2, HR2, ⟨Kd.R_mono HO128.out (fun _ hk => trivial)⟩, ⟨(by repeat (first | (with_reducible first | exact HB.out | apply below_alloc | apply pw_below_drewN | apply below_drew1 | refine below_set ?_ GE125.out) | exact HB.out))⟩⟩
        case measure => simp [intOf]; omega
      | false =>
        simp only [Bool.false_eq_true, if_false] at hr3
        have HR2 : Aside0 (acc ++ r2 = r) := ⟨by rw [← HR.out, ← hr3]⟩
        have hlen2 : Hid (acc.length ≤ i + 1) := by have := hlen.out; show _ ≤ _; omega
        clear hp2 hr2 hr3 ht HP hdr hp HR hcells hl2 hlen
        go_wp2_with (first | ((with_reducible refine gate_callee (f := 21) rfl ?_); refine goesL_ (some 24) rfl rfl Tryd.func21 (by kernel_rfl) rfl #[.string p] rfl (by (try simp only [List.map_toArray, List.map_cons, List.map_nil]); first | done | rfl) ?_; (with_reducible refine (lines_line.calls p kk vv false _ HL.out (Shp.below HS1.out (by repeat (first | (with_reducible first | exact HB.out | apply below_alloc | apply pw_below_drewN | apply below_drew1) | exact HB.out)))).mono ?_); rintro e w36 ⟨rfl, hb⟩; refine ⟨_, rfl, ?_⟩; have n0_ := Aside0.mk (Kd.R_below (by (with_reducible repeat (first | apply Kd.R_alloc | apply Kd.R_drewN | apply Kd.R_drew)); exact HO_3.out) hb); have n1_ := Aside0.mk (below_step (by repeat (first | (with_reducible first | exact HB.out | apply below_alloc | apply pw_below_drewN | apply below_drew1) | exact HB.out)) hb); clear HO_3; clear HB; have HO_3 := n0_; have HB := n1_; clear n0_ n1_; (try clear hb)) | ((with_reducible refine gate_dst (N := 6) rfl ?_); refine box_event ?hg (N := 6) ?hd (cs := #[.string (⟨#[]⟩ : ByteArray), .string (⟨#[]⟩ : ByteArray)]) (t := 40) ?hr ?_; (case hd => rfl); (case hg => rfl); (case hr => first | (go_simp; done) | (go_simp; rfl)); intro gb125 hg w37 hbox hb; have n0_ := Aside0.mk (Kd.R_below (Kd.R_elderB (by (with_reducible repeat (first | apply Kd.R_alloc | apply Kd.R_drewN | apply Kd.R_drew)); exact HO_3.out) gb125 (Nat.le_of_eq hg.symm)) hb); have n1_ := Aside0.mk (below_step (by repeat (first | (with_reducible first | exact HB.out | apply below_alloc | apply pw_below_drewN | apply below_drew1) | exact HB.out)) hb); have n2_ := Aside0.mk (hbox); have n4_ := Aside0.mk ((by rw [hg]; exact (below_size (by repeat (first | (with_reducible first | exact HB.out | apply below_alloc | apply pw_below_drewN | apply below_drew1) | exact HB.out))) : w1.heap.size ≤ gb125)); clear HO_3; clear HB; have HO_3 := n0_; have HB := n1_; have BK125 := n2_; have GE125 := n4_; clear n0_ n1_ n2_ n4_; clear hb hbox hg; have hcz38_0 : w37.cell? ⟨gb125, 0, none⟩ = some (.string (⟨#[]⟩ : ByteArray)) := (blk_cell BK125.out 0).trans rfl; have hcz38_1 : w37.cell? ⟨gb125, 1, none⟩ = some (.string (⟨#[]⟩ : ByteArray)) := (blk_cell BK125.out 1).trans rfl; have hfz38_0 := blk_frozen BK125.out 0; have hfz38_1 := blk_frozen BK125.out 1))
        go_roundw
        case rel => exact ⟨i + 1, _, r2, by go_num, by omega, hlen2, HP2, HR2, ⟨by (with_reducible repeat (first | apply Kd.R_alloc | apply Kd.R_drewN | apply Kd.R_drew)); exact Kd.R_mono (Kd.R_far (p := ⟨gb125, 1, none⟩) (Kd.R_far (p := ⟨gb125, 0, none⟩) HO_3.out (fun _ hk => hk.2) _) (fun _ hk => hk.2) _) (fun _ hk => trivial)⟩, ⟨(by repeat (first | (with_reducible first | exact HB.out | apply below_alloc | apply pw_below_drewN | apply below_drew1 | refine below_set ?_ GE125.out) | exact HB.out))⟩⟩
        case measure => simp [intOf]; omega
    · have hlt' : ((i : Int) < (P.length : Int)) = False := eq_false (by omega)
      obtain rfl : i = P.length := by omega
      have hr : acc = r := by
        have h1 := HP.out
        rw [List.drop_length, parseL] at h1
        obtain rfl := Option.some.inj h1
        have := HR.out
        simpa using this
      subst hr
      clear hcells
      go_wp2
      go_ret
      exact ⟨_, rfl, Kd.R_lower HO_3.out HBw.out.size, below_step HBw.out HB.out⟩
end Go.Proofs.YthbmedhejlhclaaDoor.Given
