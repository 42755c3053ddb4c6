/- What pct's functions compute, as functions of lists of bytes. -/
import Derived.WalkKit
namespace Go.Proofs.YtioafmnobmgdkaaDoor.Given

/-- The value of a sign as a digit of base 16. -/
def hexv (c : Nat) : Option Nat :=
  if 48 ≤ c ∧ c ≤ 57 then some (c - 48) else if 97 ≤ c ∧ c ≤ 102 then some (c - 87) else if 65 ≤ c ∧ c ≤ 70 then some (c - 55) else none
def dig (n : Nat) : UInt8 := if n < 10 then UInt8.ofNat (48 + n) else UInt8.ofNat (55 + n)
/-- A byte with a percent ahead. -/
def codeB (c : UInt8) : List UInt8 := [37, dig (c.toNat / 16), dig (c.toNat % 16)]
/-- A letter, a digit, or one of -._~ -/
def freeN (c : Nat) : Bool :=
  (decide (97 ≤ c) && decide (c ≤ 122)) || (decide (65 ≤ c) && decide (c ≤ 90)) || (decide (48 ≤ c) && decide (c ≤ 57)) || c == 45 || c == 46 || c == 95 || c == 126
def otherN (c : Nat) : Bool := ([33, 36, 38, 39, 40, 41, 42, 43, 44, 59, 61, 58, 64, 47, 63, 91, 93] : List Nat).contains c
def outB (c : UInt8) : List UInt8 := if freeN c.toNat then [c] else codeB c
def out1 (c : UInt8) : List UInt8 := if freeN c.toNat || otherN c.toNat then [c] else codeB c
/-- Norm, on bytes; none: a percent is wrong. -/
def normB : List UInt8 → Option (List UInt8)
  | [] => some []
  | c :: t => if c = 37 then
      match t with
      | h :: l :: u => match hexv h.toNat, hexv l.toNat with
        | some x, some y => (normB u).map (outB (UInt8.ofNat (16 * x + y)) ++ ·)
        | _, _ => none
      | _ => none
    else (normB t).map (out1 c ++ ·)
/-- What stands at a percent: the list begins with the percent. -/
def tripB : List UInt8 → Option UInt8
  | _ :: h :: l :: _ => match hexv h.toNat, hexv l.toNat with
    | some x, some y => some (UInt8.ofNat (16 * x + y))
    | _, _ => none
  | _ => none

theorem normB_nil : normB [] = some [] := by rw [normB]
theorem normB_one (c : UInt8) (t : List UInt8) (h : c ≠ 37) : normB (c :: t) = (normB t).map (out1 c ++ ·) := by
  rw [normB.eq_def]; simp only [if_neg h]
theorem normB_pct (c : UInt8) (t : List UInt8) (h : c = 37) : normB (c :: t) = (tripB (c :: t)).bind fun b => (normB (t.drop 2)).map (outB b ++ ·) := by
  subst h
  rw [normB.eq_def]
  match t with
  | [] => simp [tripB]
  | [_] => simp [tripB]
  | h :: l :: u =>
    simp only [tripB, if_true]
    cases hexv h.toNat <;> cases hexv l.toNat <;> simp

theorem hexv_lt {c x : Nat} (h : hexv c = some x) : x < 16 := by
  unfold hexv at h
  split at h <;> (try split at h) <;> (try split at h) <;> simp at h <;> omega
theorem hexv_ascii {c x : Nat} (h : hexv c = some x) : c < 128 := by
  unfold hexv at h
  split at h <;> (try split at h) <;> (try split at h) <;> simp at h <;> omega
theorem tripB_ascii {a h l : UInt8} {u : List UInt8} {b : UInt8} (e : tripB (a :: h :: l :: u) = some b) : h.toNat < 128 ∧ l.toNat < 128 := by
  simp only [tripB] at e
  split at e
  · rename_i x y hx hy
    exact ⟨hexv_ascii hx, hexv_ascii hy⟩
  · cases e
theorem tripB_len {t : List UInt8} {b : UInt8} (e : tripB t = some b) : 3 ≤ t.length := by
  match t with
  | [] => simp [tripB] at e
  | [_] => simp [tripB] at e
  | [_, _] => simp [tripB] at e
  | _ :: _ :: _ :: _ => simp

theorem codeB_length (c : UInt8) : (codeB c).length = 3 := rfl
theorem outB_length (c : UInt8) : (outB c).length ≤ 3 := by unfold outB; split <;> simp [codeB]
theorem out1_length (c : UInt8) : (out1 c).length ≤ 3 := by unfold out1; split <;> simp [codeB]
theorem freeN_lt {c : Nat} (h : freeN c = true) : c < 128 := by
  simp [freeN] at h; omega
theorem otherN_lt {c : Nat} (h : otherN c = true) : c < 128 := by
  simp [otherN] at h; omega
theorem out1_high (c : UInt8) (h : 128 ≤ c.toNat) : out1 c = codeB c := by
  unfold out1
  rw [if_neg]
  intro hh
  rcases (Bool.or_eq_true _ _).mp hh with h1 | h1
  · have := freeN_lt h1; omega
  · have := otherN_lt h1; omega

end Go.Proofs.YtioafmnobmgdkaaDoor.Given
