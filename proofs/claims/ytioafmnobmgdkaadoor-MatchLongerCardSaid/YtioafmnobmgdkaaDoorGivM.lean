/- match.Match: what it answers. -/
import Derived.Test.YtioafmnobmgdkaaDoorGivS
import Derived.Test.YtioafmnobmgdkaaDoorQMidx1
namespace Go.Proofs.YtioafmnobmgdkaaDoor.Given
open Go.RowKit Go.Proofs.YtioafmnobmgdkaaDoor.QBase Go.Proofs.YtioafmnobmgdkaaDoor.QMid Go.Proofs.YtioafmnobmgdkaaDoorW.PrintWords Go.Proofs.YtioafmnobmgdkaaDoorW.PrintLast
set_option linter.unusedVariables false

/-- A pattern and a path in one form: does the path begin like the pattern? -/
def starP (s : ByteArray) (whole : Bool) : List ByteArray → Bool
  | [] => false
  | q :: qs => starB q qs s whole
def matchN (a p : ByteArray) : Bool :=
  let whole := Lib.hasSuffix a.data.toList [36]
  let b := if whole then a.extract 0 (a.size - 1) else a
  starP p whole (Lib.splitB ⟨#[42]⟩ 0 (Lib.countB b ⟨#[42]⟩) b)
def match_Match.f (a p : ByteArray) : Option Bool :=
  (match_one.f a).bind fun a' => (match_one.f p).bind fun p' => if a'.size < 1000000 ∧ p'.size < 4294967281 then some (matchN a' p') else none

theorem Shp.lt {w : World} (h : Shp w) : 0 < w.heap.size := by
  obtain ⟨m, hm⟩ := h
  apply Decidable.byContradiction
  intro hh
  simp only [World.cell?] at hm
  rw [Array.getElem?_eq_none (by omega)] at hm
  cases hm
theorem Shp.below {w w' : World} (h : Shp w) (hb : Below w.heap.size w w') : Shp w' := by
  have h0 := h.lt
  obtain ⟨m, hm⟩ := h
  exact ⟨m, (hb.cell (p := ⟨0, 0, none⟩) h0).trans hm⟩
theorem Shp.alloc {w : World} (h : Shp w) (o : Obj) : Shp (w.alloc o) := h.below (Below.alloc (Below.refl _ _) (Nat.le_refl _) o)

theorem alloc_top (w : World) (o : Obj) : (w.alloc o).heap[w.heap.size]? = some o := by
  show (w.heap.push o)[w.heap.size]? = _
  simp

/-- The last call: the parts of a pattern, and star. -/
theorem parts_of (b : ByteArray) (hb : b.size < 1000000) : ∃ q qs, Lib.splitB ⟨#[42]⟩ 0 (Lib.countB b ⟨#[42]⟩) b = q :: qs ∧ Lib.countB b ⟨#[42]⟩ = qs.length ∧ qs.length < 1000000 := by
  have h1 := Lib.splitB_all ⟨#[42]⟩ (by decide) 0 _ b rfl
  have h2 := Lib.countB_le ⟨#[42]⟩ (by decide) _ b (Nat.le_refl _)
  cases hs : Lib.splitB ⟨#[42]⟩ 0 (Lib.countB b ⟨#[42]⟩) b with
  | nil => rw [hs] at h1; simp at h1
  | cons q qs =>
    rw [hs] at h1
    simp only [List.length_cons] at h1
    exact ⟨q, qs, rfl, by omega, by omega⟩

set_option maxHeartbeats 4000000 in
set_option maxRecDepth 1000000 in
theorem match_Match.calls (a0 a1 : ByteArray) (r : Bool) (w : World) (h : match_Match.f a0 a1 = some r) (hS_ : Shp w) :
    Calls Tryd.prog 10 #[.string a0, .string a1] w fun e w' => e = .returned (.bool r) ∧ Below w.heap.size w w' := by
  obtain ⟨A, hA0, h⟩ := Option.bind_eq_some_iff.mp h
  obtain ⟨P, hP0, h⟩ := Option.bind_eq_some_iff.mp h
  split at h
  case isFalse => cases h
  rename_i hz
  obtain ⟨hzA, hzP⟩ := hz
  have hr := Option.some.inj h
  clear h
  have A2 := Aside0.mk hA0
  have A3 := Aside0.mk hP0
  have HS := Aside0.mk hS_
  have HB := Aside0.mk (Below.refl w.heap.size w)
  clear hA0 hP0 hS_
  cases hw : Lib.hasSuffix A.data.toList (⟨#[36]⟩ : ByteArray).data.toList with
  | true =>
    have hA0 : A.size ≠ 0 := by
      intro e
      have : A.data.toList = [] := List.eq_nil_of_length_eq_zero (by simpa using e)
      rw [this] at hw
      exact absurd hw (by decide)
    have hw1 : wrap64 ((A.size : Int) - 1) = ((A.size - 1 : Nat) : Int) := by simp only [wrap64]; omega
    obtain ⟨q, qs, e1_, e2_, e3_⟩ := parts_of (A.extract 0 (A.size - 1)) (by simp; omega)
    have hr1 : starB q qs P true = r := by
      rw [← hr]
      have hw' : Lib.hasSuffix A.data.toList [36] = true := hw
      simp only [matchN, hw', if_true, e1_, starP]
    clear hr
    go_enter Tryd.func10, Tryd.ntmps10
    go_wp2_with (first
      | ((with_reducible refine gate_callee (f := 15) rfl ?_); refine goesL_ (some 7) rfl rfl Tryd.func15 (by kernel_rfl) rfl #[.string a0] rfl (by (try simp only [List.map_toArray, List.map_cons, List.map_nil]); first | done | rfl) ?_; (with_reducible refine (match_one.calls a0 A _ A2.out).mono ?_); rintro e w4 ⟨rfl, hb⟩; refine ⟨_, rfl, ?_⟩; have n0_ := Aside0.mk (below_step HB.out hb); clear HB; have HB := n0_; clear n0_; clear hb)
      | ((with_reducible refine gate_callee (f := 15) rfl ?_); refine goesL_ (some 9) rfl rfl Tryd.func15 (by kernel_rfl) rfl #[.string a1] rfl (by (try simp only [List.map_toArray, List.map_cons, List.map_nil]); first | done | rfl) ?_; (with_reducible refine (match_one.calls a1 P _ A3.out).mono ?_); rintro e w4 ⟨rfl, hb⟩; refine ⟨_, rfl, ?_⟩; have n0_ := Aside0.mk (below_step HB.out hb); clear HB; have HB := n0_; clear n0_; clear hb)
      | (go_at_call 16; refine (Tryd.strings_HasSuffix _ _ _ (by omega)).mono ?_; rintro e w6 ⟨rfl, e1⟩; obtain rfl := e1.symm; rw [hw])
      | (go_at_call 18; obtain ⟨m, hm⟩ := Shp.below HS.out HB.out; refine (Tryd.strings_Split (A.extract 0 (A.size - 1)) _ m _ (by simp; omega) hm (by decide)).mono ?_; rintro e w7 ⟨rfl, e1⟩; obtain rfl := e1.symm; rw [e1_, e2_])
      | (go_at_call 17; refine (star_calls q qs P true _ _ _ _ rfl (Nat.le_refl _) (alloc_top _ _) ((Shp.below HS.out HB.out).alloc _) hzP e3_).mono ?_; rintro e w8 ⟨rfl, e1⟩; obtain rfl := e1.symm))
    go_ret
    exact ⟨rfl, Below.alloc HB.out HB.out.size _⟩
  | false =>
    obtain ⟨q, qs, e1_, e2_, e3_⟩ := parts_of A hzA
    have hr1 : starB q qs P false = r := by
      rw [← hr]
      have hw' : Lib.hasSuffix A.data.toList [36] = false := hw
      simp only [matchN, hw', Bool.false_eq_true, if_false, e1_, starP]
    clear hr
    go_enter Tryd.func10, Tryd.ntmps10
    go_wp2_with (first
      | ((with_reducible refine gate_callee (f := 15) rfl ?_); refine goesL_ (some 7) rfl rfl Tryd.func15 (by kernel_rfl) rfl #[.string a0] rfl (by (try simp only [List.map_toArray, List.map_cons, List.map_nil]); first | done | rfl) ?_; (with_reducible refine (match_one.calls a0 A _ A2.out).mono ?_); rintro e w4 ⟨rfl, hb⟩; refine ⟨_, rfl, ?_⟩; have n0_ := Aside0.mk (below_step HB.out hb); clear HB; have HB := n0_; clear n0_; clear hb)
      | ((with_reducible refine gate_callee (f := 15) rfl ?_); refine goesL_ (some 9) rfl rfl Tryd.func15 (by kernel_rfl) rfl #[.string a1] rfl (by (try simp only [List.map_toArray, List.map_cons, List.map_nil]); first | done | rfl) ?_; (with_reducible refine (match_one.calls a1 P _ A3.out).mono ?_); rintro e w4 ⟨rfl, hb⟩; refine ⟨_, rfl, ?_⟩; have n0_ := Aside0.mk (below_step HB.out hb); clear HB; have HB := n0_; clear n0_; clear hb)
      | (go_at_call 16; refine (Tryd.strings_HasSuffix _ _ _ (by omega)).mono ?_; rintro e w6 ⟨rfl, e1⟩; obtain rfl := e1.symm; rw [hw])
      | (go_at_call 18; obtain ⟨m, hm⟩ := Shp.below HS.out HB.out; refine (Tryd.strings_Split A _ m _ (by omega) hm (by decide)).mono ?_; rintro e w7 ⟨rfl, e1⟩; obtain rfl := e1.symm; rw [e1_, e2_])
      | (go_at_call 17; refine (star_calls q qs P false _ _ _ _ rfl (Nat.le_refl _) (alloc_top _ _) ((Shp.below HS.out HB.out).alloc _) hzP e3_).mono ?_; rintro e w8 ⟨rfl, e1⟩; obtain rfl := e1.symm))
    go_ret
    exact ⟨rfl, Below.alloc HB.out HB.out.size _⟩
end Go.Proofs.YtioafmnobmgdkaaDoor.Given
