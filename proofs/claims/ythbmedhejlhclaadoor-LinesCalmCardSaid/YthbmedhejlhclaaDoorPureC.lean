/- Plain law: what LinesCalm says of two texts. -/
import Derived.Test.YthbmedhejlhclaaDoorPureR
namespace Go.Proofs.YthbmedhejlhclaaDoor.Pure
open Go Go.RowKit Go.Proofs.YthbmedhejlhclaaDoor.QBase Go.Proofs.YthbmedhejlhclaaDoor.Given Go.Proofs.YthbmedhejlhclaaDoorW.PrintWords Go.Proofs.YthbmedhejlhclaaDoorW.PrintLast
set_option linter.unusedVariables false
set_option linter.unusedSimpArgs false

/-- A byte in great letters. -/
def upB (c : UInt8) : UInt8 := if 97 ≤ c.toNat ∧ c.toNat ≤ 122 then UInt8.ofNat (c.toNat - 32) else c
theorem up_nat (c : UInt8) : (upB c).toNat = if 97 ≤ c.toNat ∧ c.toNat ≤ 122 then c.toNat - 32 else c.toNat := by
  unfold upB
  split
  · rename_i h
    simp
    omega
  · rfl
theorem low_nat (c : UInt8) : (lowB c).toNat = if 65 ≤ c.toNat ∧ c.toNat ≤ 90 then c.toNat + 32 else c.toNat := by
  unfold lowB
  split
  · rename_i h
    simp
    omega
  · rfl
theorem low_up (c : UInt8) : lowB (upB c) = lowB c := by
  apply UInt8.toNat_inj.mp
  rw [low_nat, low_nat, up_nat]
  split <;> (try split) <;> (try split) <;> omega
theorem up_blank (c : UInt8) : blank (upB c) = blank c := by
  have h : blank (upB c) = true ↔ blank c = true := by
    rw [blank_iff, blank_iff, up_nat]
    split <;> omega
  cases h1 : blank c <;> cases h2 : blank (upB c) <;> simp_all
theorem up_ne (c x : UInt8) (hx : x.toNat < 65) : upB c ≠ x ↔ c ≠ x := by
  have h : upB c = x ↔ c = x := by
    constructor
    · intro h
      apply UInt8.toNat_inj.mp
      have h1 := congrArg UInt8.toNat h
      rw [up_nat] at h1
      split at h1 <;> omega
    · intro h
      subst h
      apply UInt8.toNat_inj.mp
      rw [up_nat]
      split <;> omega
  rw [ne_eq, ne_eq, h]
theorem nl_iff (c : UInt8) : nlB c = false ↔ c ≠ 13 ∧ c ≠ 10 := by simp [nlB]
theorem left_map (l : List UInt8) : Lib.trimLeftS (l.map upB) [32, 9] = (Lib.trimLeftS l [32, 9]).map upB := by
  unfold Lib.trimLeftS
  rw [List.dropWhile_map]
  congr 2
  funext c
  exact up_blank c
theorem right_map (l : List UInt8) : Lib.trimRightS (l.map upB) [32, 9] = (Lib.trimRightS l [32, 9]).map upB := by
  have h := left_map l.reverse
  unfold Lib.trimLeftS at h
  unfold Lib.trimRightS
  rw [← List.map_reverse, h, List.map_reverse]
theorem low_trim_up (l : List UInt8) : lowL (Lib.trimS (l.map upB) [32, 9]) = lowL (Lib.trimS l [32, 9]) := by
  have : Lib.trimS (l.map upB) [32, 9] = (Lib.trimS l [32, 9]).map upB := by
    unfold Lib.trimS
    rw [right_map, left_map]
  rw [this]
  unfold lowL
  rw [List.map_map]
  congr 1
  funext c
  exact low_up c
theorem left_app (a l : List UInt8) (ha : ∀ c ∈ a, blank c = true) : Lib.trimLeftS (a ++ l) [32, 9] = Lib.trimLeftS l [32, 9] := by
  unfold Lib.trimLeftS
  induction a with
  | nil => rfl
  | cons c t ih =>
    rw [List.cons_append, List.dropWhile_cons, if_pos (show (([32, 9] : List UInt8).contains c) = true from ha c (by simp))]
    exact ih (fun d hd => ha d (by simp [hd]))
theorem right_app (b l : List UInt8) (hb : ∀ c ∈ b, blank c = true) : Lib.trimRightS (l ++ b) [32, 9] = Lib.trimRightS l [32, 9] := by
  have h := left_app b.reverse l.reverse (fun c hc => hb c (by simpa using hc))
  unfold Lib.trimLeftS at h
  unfold Lib.trimRightS
  rw [List.reverse_append, h]
theorem trim_app (a b l : List UInt8) (ha : ∀ c ∈ a, blank c = true) (hb : ∀ c ∈ b, blank c = true) : Lib.trimS (a ++ l ++ b) [32, 9] = Lib.trimS l [32, 9] := by
  have h1 : Lib.trimS (a ++ l ++ b) [32, 9] = Lib.trimS (a ++ l) [32, 9] := by
    unfold Lib.trimS
    rw [right_app b _ hb]
  rw [h1, ← trim_both, left_app a l ha, trim_both]
theorem spl_line (p r : List UInt8) (e : UInt8) (hp : ∀ c ∈ p, nlB c = false) (he : nlB e = true) : spl [] (p ++ e :: r) = p :: spl [] r := by
  have h := spl_no p [] (e :: r) hp
  rw [List.nil_append] at h
  rw [h, spl, if_pos he]
theorem spl_last (p : List UInt8) (hp : ∀ c ∈ p, nlB c = false) : spl [] p = [p] := by
  have h := spl_no p [] [] hp
  rw [List.append_nil, List.nil_append] at h
  rw [h, spl]
theorem say_of (p K V R : List UInt8) (hK : ∀ c ∈ K, c ≠ 35 ∧ c ≠ 58) (hV : ∀ c ∈ V, c ≠ 35) (hR : R = [] ∨ ∃ r, R = 35 :: r) (hp : p = K ++ 58 :: V ++ R) :
    sayL p = if lowL (Lib.trimS K [32, 9]) != [] then some ⟨mk (lowL (Lib.trimS K [32, 9])), mk (Lib.trimS V [32, 9])⟩ else none := by
  have h35 : (Lib.cut p [35]).1 = K ++ 58 :: V := by
    have hno : ∀ c ∈ K ++ 58 :: V, c ≠ 35 := by
      intro c hc
      rcases List.mem_append.mp hc with hc | hc
      · exact (hK c hc).1
      · rcases List.mem_cons.mp hc with rfl | hc
        · decide
        · exact hV c hc
    rw [hp, cut_no 35 _ R hno]
    rcases hR with rfl | ⟨r, rfl⟩
    · rw [cut_nil]; simp
    · rw [cut_hit]; simp
  have h58 : Lib.cut (Lib.cut p [35]).1 [58] = (K, V, true) := by
    rw [h35, cut_no 58 K _ (fun c hc => (hK c hc).2), cut_hit]; simp
  unfold sayL sayB sayK sayV
  rw [h58, Bool.true_and]
theorem calm (key k value mark : List UInt8) (hk : ∀ c ∈ key, nlB c = false ∧ c ≠ 35 ∧ c ≠ 58) (hv : ∀ c ∈ value, nlB c = false ∧ c ≠ 35) (hm : ∀ c ∈ mark, nlB c = false) (hkk : k = key ∨ k = key.map upB) :
    parseV ([120, 58, 121, 10] ++ key ++ [58] ++ value) = parseV ([120, 58, 121, 13, 10, 13, 10, 32, 9] ++ k ++ [32, 58, 32, 9] ++ value ++ [32, 32, 35] ++ mark ++ [10, 10]) := by
  have hk2 : ∀ c ∈ k, nlB c = false ∧ c ≠ 35 ∧ c ≠ 58 := by
    rcases hkk with rfl | rfl
    · exact hk
    · intro c hc
      obtain ⟨d, hd, rfl⟩ := List.mem_map.mp hc
      obtain ⟨h1, h2, h3⟩ := hk d hd
      rw [nl_iff] at h1 ⊢
      exact ⟨⟨(up_ne d 13 (by decide)).mpr h1.1, (up_ne d 10 (by decide)).mpr h1.2⟩, (up_ne d 35 (by decide)).mpr h2, (up_ne d 58 (by decide)).mpr h3⟩
  have hlow : lowL (Lib.trimS k [32, 9]) = lowL (Lib.trimS key [32, 9]) := by
    rcases hkk with rfl | rfl
    · rfl
    · exact low_trim_up key
  have eA : [120, 58, 121, 10] ++ key ++ [58] ++ value = [120, 58, 121] ++ 10 :: (key ++ 58 :: value) := by simp
  have eB : ([120, 58, 121, 13, 10, 13, 10, 32, 9] ++ k ++ [32, 58, 32, 9] ++ value ++ [32, 32, 35] ++ mark ++ [10, 10] : List UInt8) =
      [120, 58, 121] ++ 13 :: ([] ++ 10 :: ([] ++ 13 :: ([] ++ 10 :: (([32, 9] ++ k ++ [32] ++ 58 :: ([32, 9] ++ value ++ [32, 32]) ++ 35 :: mark) ++ 10 :: ([] ++ 10 :: []))))) := by simp
  have hx : ∀ c ∈ ([120, 58, 121] : List UInt8), nlB c = false := by decide
  have h0 : ∀ c ∈ ([] : List UInt8), nlB c = false := by simp
  have hA : ∀ c ∈ key ++ 58 :: value, nlB c = false := by
    intro c hc
    rcases List.mem_append.mp hc with hc | hc
    · exact (hk c hc).1
    · rcases List.mem_cons.mp hc with rfl | hc
      · decide
      · exact (hv c hc).1
  have hB : ∀ c ∈ [32, 9] ++ k ++ [32] ++ 58 :: ([32, 9] ++ value ++ [32, 32]) ++ 35 :: mark, nlB c = false := by
    intro c hc
    simp only [List.mem_append, List.mem_cons, List.not_mem_nil, or_false] at hc
    rcases hc with ((((rfl | rfl) | hc) | rfl) | (rfl | ((rfl | rfl) | hc) | (rfl | rfl))) | (rfl | hc)
    all_goals first | decide | exact (hk2 c hc).1 | exact (hv c hc).1 | exact hm c hc
  rw [eA, eB]
  unfold parseV
  rw [spl_line _ _ 10 hx (by decide), spl_last _ hA, spl_line _ _ 13 hx (by decide), spl_line _ _ 10 h0 (by decide), spl_line _ _ 13 h0 (by decide), spl_line _ _ 10 h0 (by decide), spl_line _ _ 10 hB (by decide), spl_line _ _ 10 h0 (by decide)]
  have s0 : sayL [] = none := by decide
  have sA := say_of (key ++ 58 :: value) key value [] (fun c hc => (hk c hc).2) (fun c hc => (hv c hc).2) (.inl rfl) (by simp)
  have sB := say_of ([32, 9] ++ k ++ [32] ++ 58 :: ([32, 9] ++ value ++ [32, 32]) ++ 35 :: mark) ([32, 9] ++ k ++ [32]) ([32, 9] ++ value ++ [32, 32]) (35 :: mark)
    (by
      intro c hc
      simp only [List.mem_append, List.mem_cons, List.not_mem_nil, or_false] at hc
      rcases hc with ((rfl | rfl) | hc) | rfl
      all_goals first | decide | exact (hk2 c hc).2)
    (by
      intro c hc
      simp only [List.mem_append, List.mem_cons, List.not_mem_nil, or_false] at hc
      rcases hc with ((rfl | rfl) | hc) | (rfl | rfl)
      all_goals first | decide | exact (hv c hc).2)
    (.inr ⟨mark, rfl⟩) rfl
  rw [trim_app [32, 9] [32] k (by decide) (by decide), trim_app [32, 9] [32, 32] value (by decide) (by decide), hlow] at sB
  have key2 : sayL (key ++ 58 :: value) = sayL ([32, 9] ++ k ++ [32] ++ 58 :: ([32, 9] ++ value ++ [32, 32]) ++ 35 :: mark) := by rw [sA, sB]
  have s1 : spl [] ([] : List UInt8) = [[]] := rfl
  simp only [List.filterMap_cons, List.filterMap_nil, s0, s1, key2]
end Go.Proofs.YthbmedhejlhclaaDoor.Pure
