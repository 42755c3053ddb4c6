/- pct's functions value, triple, coded and plain: what they answer, in the words of Spec. -/
import Derived.Test.YtioafmnobmgdkaaDoorSpec
import Derived.Test.YtioafmnobmgdkaaDoorQBasex1
import Derived.Test.YtioafmnobmgdkaaDoorPlain
namespace Go.Proofs.YtioafmnobmgdkaaDoor.Given
open Go.RowKit Go.Proofs.YtioafmnobmgdkaaDoor.QBase Go.Proofs.YtioafmnobmgdkaaDoorW.PrintWords Go.Proofs.YtioafmnobmgdkaaDoorW.PrintLast
set_option linter.unusedVariables false

theorem value_eq (k : Nat) (c : Nat) (h : c < 256) : pct_value.f (k + 3) (c : Int) = some (match hexv c with | some x => (x : Int) | none => -1) := by
  have h0 : ∀ c : Fin 256, pct_value.f 3 ((c.val : Nat) : Int) = some (match hexv c.val with | some x => (x : Int) | none => -1) := by decide +kernel
  have := h0 ⟨c, h⟩
  exact at_rounds (pct_value.mono _) (Nat.le_add_left 3 k) this

theorem bt_list (s : ByteArray) (i : Nat) (h : i < s.data.toList.length) : bt s (i : Int) = (((s.data.toList)[i]).toNat : Int) := by
  have h2 : i < s.size := by simpa using h
  simp [bt, h2]
  rfl

theorem or_eq : ∀ x : Fin 16, ∀ y : Fin 16, (Go.bits .or .i64 (wrap64 (((x.val : Nat) : Int) * 16)) (Go.bits .and .i64 ((y.val : Nat) : Int) 15)) % 256 = ((16 * x.val + y.val : Nat) : Int) := by decide +kernel

theorem triple_eq (s : ByteArray) : ∃ r, pct_triple.f 3 s = some (r, (tripB s.data.toList).isSome) ∧ ∀ b, tripB s.data.toList = some b → r = (b.toNat : Int) := by
  unfold pct_triple.f
  have hsz : s.size = s.data.toList.length := by simp
  rcases hl : s.data.toList with _ | ⟨a, _ | ⟨h, _ | ⟨l, u⟩⟩⟩
  · rw [hl] at hsz; replace hsz : s.size = 0 := hsz; rw [if_pos (by omega)]; exact ⟨0, by simp [tripB], by simp [tripB]⟩
  · rw [hl] at hsz; replace hsz : s.size = 1 := hsz; rw [if_pos (by omega)]; exact ⟨0, by simp [tripB], by simp [tripB]⟩
  · rw [hl] at hsz; replace hsz : s.size = 2 := hsz; rw [if_pos (by omega)]; exact ⟨0, by simp [tripB], by simp [tripB]⟩
  · have e1 : bt s 1 = ((h.toNat : Nat) : Int) := by
      have := bt_list s 1 (by rw [hl]; simp)
      simp only [hl] at this; exact this
    have e2 : bt s 2 = ((l.toNat : Nat) : Int) := by
      have := bt_list s 2 (by rw [hl]; simp)
      simp only [hl] at this; exact this
    rw [hl] at hsz; replace hsz : s.size = u.length + 3 := hsz
    rw [if_neg (by omega), if_pos (by omega), e1, e2, value_eq 0 _ h.toNat_lt, value_eq 0 _ l.toNat_lt]
    simp only [Option.bind_some]
    rw [if_pos (by omega)]
    rcases hx : hexv h.toNat with _ | x <;> rcases hy : hexv l.toNat with _ | y <;> simp only [tripB, hx, hy]
    · exact ⟨_, by rw [if_neg (by omega)]; rfl, by simp⟩
    · exact ⟨_, by rw [if_neg (by omega)]; rfl, by simp⟩
    · exact ⟨_, by rw [if_pos (by omega)]; rfl, by simp⟩
    · refine ⟨_, by rw [if_pos (by omega), Option.some.injEq, Prod.mk.injEq]; exact ⟨rfl, decide_eq_true (by omega)⟩, ?_⟩
      intro b hb
      obtain rfl := Option.some.inj hb
      have hx' := hexv_lt hx; have hy' := hexv_lt hy
      rw [or_eq ⟨x, hx'⟩ ⟨y, hy'⟩]
      simp; omega

theorem triple_calls (s : ByteArray) (w : World) :
    Calls Tryd.prog 27 #[.string s] w fun e w' => ∃ r, e = .returned (.tuple #[.int .u8 r, .bool (tripB s.data.toList).isSome]) ∧ (∀ b, tripB s.data.toList = some b → r = (b.toNat : Int)) ∧ Drawn0 w w' := by
  obtain ⟨r, h, hb⟩ := triple_eq s
  exact (pct_triple.calls 3 s r _ w h).mono fun e w' ⟨h1, h2⟩ => ⟨r, h1, hb, h2⟩

theorem coded_eq (c : UInt8) : pct_coded.f (c.toNat : Int) = some ⟨(codeB c).toArray⟩ := by
  have h0 : ∀ c : Fin 256, pct_coded.f ((c.val : Nat) : Int) = some ⟨(codeB (UInt8.ofNat c.val)).toArray⟩ := by decide +kernel
  have := h0 ⟨c.toNat, c.toNat_lt⟩
  simpa using this

theorem coded_calls (c : UInt8) (w : World) :
    Calls Tryd.prog 31 #[.int .u8 (c.toNat : Int)] w fun e w' => e = .returned (.string ⟨(codeB c).toArray⟩) ∧ Below w.heap.size w w' :=
  pct_coded.calls _ _ w (coded_eq c)

theorem plain_eq (c : Nat) : pct_plain.f (c : Int) = some (freeN c) := by
  by_cases h : c < 128
  · have h0 : ∀ c : Fin 128, pct_plain.f ((c.val : Nat) : Int) = some (freeN c.val) := by decide +kernel
    exact h0 ⟨c, h⟩
  · have h2 : freeN c = false := by
      cases hf : freeN c
      · rfl
      · exact absurd (freeN_lt hf) h
    rw [h2]
    unfold pct_plain.f
    repeat (first | rw [if_pos (by omega)] | rw [if_neg (by omega)])
/-- plain, at a number that is not below 0. -/
theorem plain_calls (c : Nat) (w : World) :
    Calls Tryd.prog 28 #[.int .i32 (c : Int)] w fun e w' => e = .returned (.bool (freeN c)) ∧ Drawn0 w w' :=
  pct_plain.calls _ _ w (plain_eq c)
theorem rune_other (c : Nat) (h : c < 128) (w : World) :
    Calls Tryd.prog 32 #[.string ⟨#[33, 36, 38, 39, 40, 41, 42, 43, 44, 59, 61, 58, 64, 47, 63, 91, 93]⟩, .int .i32 (c : Int)] w fun e w' => e = .returned (.bool (otherN c)) ∧ w' = w := by
  have h0 : ∀ c : Fin 128, decide (0 ≤ Lib.indexByte ([33, 36, 38, 39, 40, 41, 42, 43, 44, 59, 61, 58, 64, 47, 63, 91, 93] : List UInt8) (((c.val : Nat) : Int).toNat.toUInt8)) = otherN c.val := by decide +kernel
  refine (Tryd.strings_ContainsRune_ascii _ (c : Int) w (by omega) (by omega)).mono fun e w' ⟨h1, h2⟩ => ⟨?_, h2⟩
  rw [h1, ← h0 ⟨c, h⟩]

end Go.Proofs.YtioafmnobmgdkaaDoor.Given
