/- MatchOwn answers true. -/
import Derived.Test.YtioafmnobmgdkaaDoorQLawx2
import Derived.Test.YtioafmnobmgdkaaDoorPureM
namespace Go.Proofs.YtioafmnobmgdkaaDoor.Pure
open Go.RowKit Go.Proofs.YtioafmnobmgdkaaDoor.Given Go.Proofs.YtioafmnobmgdkaaDoor.QBase Go.Proofs.YtioafmnobmgdkaaDoor.QMid Go.Proofs.YtioafmnobmgdkaaDoor.QLaw Go.Proofs.YtioafmnobmgdkaaDoor.Glob Go.Proofs.YtioafmnobmgdkaaDoorW.PrintWords Go.Proofs.YtioafmnobmgdkaaDoorW.PrintLast
set_option linter.unusedVariables false
set_option linter.unusedSimpArgs false

theorem own_final (x7 x9 : ByteArray) (j : Nat) (hj : j ≤ x7.size) (h7 : x7.size ≤ 100) (h9 : x9.size ≤ 100) (g7 : ∀ c ∈ x7.data.toList, c ≠ 42 ∧ c ≠ 36 ∧ c ≠ 37) (g9 : ∀ c ∈ x9.data.toList, c ≠ 37) :
    match_Match.f x7 x7 = some true ∧ match_Match.f (x7.extract 0 j) x7 = some true ∧ match_Match.f (x7 ++ (⟨#[36]⟩ : ByteArray)) x7 = some true ∧ match_Match.f x7 (x7 ++ x9) = some true ∧
    match_Match.f (x7 ++ (⟨#[36]⟩ : ByteArray)) (x7 ++ x9) = some x9.data.toList.isEmpty ∧ match_Match.f (⟨#[42]⟩ : ByteArray) x7 = some true ∧
    match_Match.f ((((x7.extract 0 j) ++ (⟨#[42]⟩ : ByteArray)) ++ (x7.extract j x7.size)) ++ (⟨#[36]⟩ : ByteArray)) (((x7.extract 0 j) ++ x9) ++ (x7.extract j x7.size)) = some true := by
  have n42 : (42 : UInt8) ∉ x7.data.toList := fun h => (g7 _ h).1 rfl
  have n36 : (36 : UInt8) ∉ x7.data.toList := fun h => (g7 _ h).2.1 rfl
  have n37 : ∀ c ∈ x7.data.toList, c ≠ 37 := fun c h => (g7 c h).2.2
  have hs36 : (⟨#[36]⟩ : ByteArray).size = 1 := rfl
  have hs42 : (⟨#[42]⟩ : ByteArray).size = 1 := rfl
  have l36 : (⟨#[36]⟩ : ByteArray).data.toList = [36] := rfl
  have l42 : (⟨#[42]⟩ : ByteArray).data.toList = [42] := rfl
  have t37 : ∀ c ∈ x7.data.toList.take j, c ≠ 37 := fun c h => n37 c (List.mem_of_mem_take h)
  have d37 : ∀ c ∈ x7.data.toList.drop j, c ≠ 37 := fun c h => n37 c (List.mem_of_mem_drop h)
  have q37 : ∀ c ∈ x7.data.toList ++ x9.data.toList, c ≠ 37 := fun c h => (List.mem_append.mp h).elim (n37 c) (g9 c)
  have s37 : ∀ c ∈ ([42] : List UInt8), c ≠ 37 := by intro c h; obtain rfl := List.mem_singleton.mp h; decide
  have e1 : (x7.extract 0 j).size ≤ 100 := by simp; omega
  have e2 : (x7.extract j x7.size).size ≤ 100 := by simp; omega
  have happ : x7.data.toList = x7.data.toList.take j ++ x7.data.toList.drop j := (List.take_append_drop j _).symm
  refine ⟨?_, ?_, ?_, ?_, ?_, ?_, ?_⟩
  · rw [match_f _ _ (by omega) (by omega), mv_plain _ _ n37 n37 n36]
    have := own_begin x7.data.toList [] n42
    rw [List.append_nil] at this
    rw [this]
  · rw [match_f _ _ (by omega) (by omega), ext_take, mv_plain _ _ t37 n37 (fun h => n36 (List.mem_of_mem_take h))]
    have := own_begin (x7.data.toList.take j) (x7.data.toList.drop j) (fun h => n42 (List.mem_of_mem_take h))
    rw [List.take_append_drop] at this
    rw [this]
  · rw [match_f _ _ (by rw [app_size]; omega) (by omega), app_list, l36, mv_end _ _ n37 n37]
    have := own_whole x7.data.toList [] n42
    rw [List.append_nil] at this
    rw [this]; rfl
  · rw [match_f _ _ (by omega) (by rw [app_size]; omega), app_list, mv_plain _ _ n37 q37 n36, own_begin _ _ n42]
  · rw [match_f _ _ (by rw [app_size]; omega) (by rw [app_size]; omega), app_list, app_list, l36, mv_end _ _ n37 q37, own_whole _ _ n42]
  · rw [match_f _ _ (by omega) (by omega), l42, mv_plain _ _ s37 n37 (by decide), fm_star1, mt_star]
    congr 1
    rw [anyT_iff]
    exact ⟨0, by omega, by rw [mt_nil]; rfl⟩
  · rw [match_f _ _ (by simp only [app_size]; omega) (by simp only [app_size]; omega)]
    simp only [app_list, l36, l42, ext_take, ext_drop]
    rw [mv_end _ _ (by
      intro c h
      rcases List.mem_append.mp h with h | h
      · rcases List.mem_append.mp h with h | h
        · exact t37 c h
        · exact s37 c h
      · exact d37 c h) (by
      intro c h
      rcases List.mem_append.mp h with h | h
      · rcases List.mem_append.mp h with h | h
        · exact t37 c h
        · exact g9 c h
      · exact d37 c h), own_gap _ _ _ (fun h => n42 (List.mem_of_mem_take h)) (fun h => n42 (List.mem_of_mem_drop h))]

theorem own_l1 (x1 : Int) (x7 x9 : ByteArray) (h1 : 0 ≤ x1 ∧ x1 ≤ 255) (h7 : x7.size ≤ 100) (h9 : x9.size ≤ 100) (g7 : ∀ c ∈ x7.data.toList, c ≠ 42 ∧ c ≠ 36 ∧ c ≠ 37) (m : Nat) : ∀ (i k : Nat), x9.size = i + m → (∀ j c, j < i → x9.data.toList[j]? = some c → c ≠ 37) → m + 200 ≤ k →
    decorumlaw10_MatchOwn.l1 k x1 x7 x9 (i : Int) = some true := by
  induction m with
  | zero =>
    intro i k hi hg hk
    obtain ⟨k, rfl⟩ : ∃ k', k = k' + 1 := ⟨k - 1, by omega⟩
    have g9 := mem_of_at (P := fun c => c ≠ 37) x9 (fun j c hj => hg j c (by omega))
    simp only [decorumlaw10_MatchOwn.l1]
    have hw1 : wrap64 x1 = x1 := wrap_in x1 (by omega) (by omega)
    have hw2 : wrap64 ((x7.size : Int) + 1) = (x7.size : Int) + 1 := wrap_in _ (by omega) (by omega)
    have hm1 : 0 ≤ Int.tmod x1 ((x7.size : Int) + 1) := Int.tmod_nonneg _ h1.1
    have hm2 : Int.tmod x1 ((x7.size : Int) + 1) < (x7.size : Int) + 1 := Int.tmod_lt_of_pos _ (by omega)
    rw [if_neg (by omega), hw1, hw2, if_neg (by omega), awake_ev k (by omega), Option.bind_some, if_pos rfl]
    obtain ⟨j, hj⟩ : ∃ j : Nat, Int.tmod x1 ((x7.size : Int) + 1) = j := ⟨(Int.tmod x1 ((x7.size : Int) + 1)).toNat, by omega⟩
    rw [hj] at hm1 hm2
    simp only [hj, Int.toNat_natCast]
    obtain ⟨m1, m2, m3, m4, m5, m6, m7⟩ := own_final x7 x9 j (by omega) h7 h9 g7 g9
    have e1 : (x7.extract 0 j).size ≤ 100 := by simp; omega
    have e2 : (x7.extract j x7.size).size ≤ 100 := by simp; omega
    have hs36 : (⟨#[36]⟩ : ByteArray).size = 1 := rfl
    have hs42 : (⟨#[42]⟩ : ByteArray).size = 1 := rfl
    rw [m1, Option.bind_some, if_pos rfl, if_pos hm1, if_pos (by omega), m2, Option.bind_some, if_pos rfl, if_pos (by omega), m3, Option.bind_some, if_pos rfl, if_pos (by omega), m4, Option.bind_some, if_pos rfl, m5, Option.bind_some,
      if_pos (by rw [Lib.toList_data]; cases x9.data.toList <;> rfl), m6, Option.bind_some, if_pos rfl, if_pos (by omega), if_pos (by rw [app_size]; omega), if_pos (by rw [app_size, app_size]; omega), if_pos (by omega), if_pos (by rw [app_size]; omega), m7, Option.bind_some]
  | succ m ih =>
    intro i k hi hg hk
    obtain ⟨k, rfl⟩ : ∃ k', k = k' + 1 := ⟨k - 1, by omega⟩
    obtain ⟨c, hc, hb⟩ := bt_ge x9 i (by omega)
    simp only [decorumlaw10_MatchOwn.l1]
    rw [if_pos (by omega), if_pos (by omega), hb]
    by_cases h37 : (c.toNat : Int) = 37
    · rw [if_pos h37, awake_ev k (by omega)]; rfl
    · rw [if_neg h37]
      by_cases h128 : (c.toNat : Int) ≥ 128
      · rw [if_pos h128, awake_ev k (by omega)]; rfl
      · rw [if_neg h128, wrap_in ((i : Int) + 1) (by omega) (by omega), show (i : Int) + 1 = ((i + 1 : Nat) : Int) by omega]
        refine ih (i + 1) k (by omega) ?_ (by omega)
        intro j d hj hd
        by_cases e : j = i
        · subst e
          rw [hc] at hd
          cases hd
          exact ne_of 37 rfl h37
        · exact hg j d (by omega) hd

theorem own_l0 (x1 : Int) (x2 x7 : ByteArray) (h1 : 0 ≤ x1 ∧ x1 ≤ 255) (h7 : x7.size ≤ 100) (m : Nat) : ∀ (i k : Nat), x7.size = i + m → (∀ j c, j < i → x7.data.toList[j]? = some c → c ≠ 42 ∧ c ≠ 36 ∧ c ≠ 37) → m + 400 ≤ k →
    decorumlaw10_MatchOwn.l0 k x1 x2 x7 (i : Int) = some true := by
  induction m with
  | zero =>
    intro i k hi hg hk
    obtain ⟨k, rfl⟩ : ∃ k', k = k' + 1 := ⟨k - 1, by omega⟩
    have g7 := mem_of_at (P := fun c => c ≠ 42 ∧ c ≠ 36 ∧ c ≠ 37) x7 (fun j c hj => hg j c (by omega))
    obtain ⟨x9, e9, s9⟩ := cut_f x2
    simp only [decorumlaw10_MatchOwn.l0]
    rw [if_neg (by omega), e9, Option.bind_some]
    exact own_l1 x1 x7 x9 h1 h7 s9 g7 x9.size 0 k (by omega) (by intro j c hj; omega) (by omega)
  | succ m ih =>
    intro i k hi hg hk
    obtain ⟨k, rfl⟩ : ∃ k', k = k' + 1 := ⟨k - 1, by omega⟩
    obtain ⟨c, hc, hb⟩ := bt_ge x7 i (by omega)
    simp only [decorumlaw10_MatchOwn.l0]
    rw [if_pos (by omega), if_pos (by omega), hb]
    by_cases h42 : (c.toNat : Int) = 42
    · rw [if_pos h42, awake_ev k (by omega)]; rfl
    rw [if_neg h42]
    by_cases h36 : (c.toNat : Int) = 36
    · rw [if_pos h36, awake_ev k (by omega)]; rfl
    rw [if_neg h36]
    by_cases h37 : (c.toNat : Int) = 37
    · rw [if_pos h37, awake_ev k (by omega)]; rfl
    rw [if_neg h37]
    by_cases h128 : (c.toNat : Int) ≥ 128
    · rw [if_pos h128, awake_ev k (by omega)]; rfl
    rw [if_neg h128, wrap_in ((i : Int) + 1) (by omega) (by omega), show (i : Int) + 1 = ((i + 1 : Nat) : Int) by omega]
    refine ih (i + 1) k (by omega) ?_ (by omega)
    intro j d hj hd
    by_cases e : j = i
    · subst e
      rw [hc] at hd
      cases hd
      exact ⟨ne_of 42 rfl h42, ne_of 36 rfl h36, ne_of 37 rfl h37⟩
    · exact hg j d (by omega) hd

theorem MatchOwn : decorumlaw10_MatchOwn.Pure := by
  intro a0 a1 a2 h0 h1 h2
  obtain ⟨b0, e0, s0⟩ := cut_f a0
  have hs : (⟨#[]⟩ : ByteArray).size = 0 := rfl
  have hr : 0 ≤ a1 ∧ a1 ≤ 255 := by
    simp [Lit.wf, IntKind.min, IntKind.max, IntKind.signed, IntKind.bits] at h1
    omega
  refine ⟨1000, ?_⟩
  unfold decorumlaw10_MatchOwn.f
  rw [e0, Option.bind_some, if_pos (by omega)]
  exact own_l0 a1 a2 _ hr (by rw [app_size]; omega) _ 0 1000 (by rw [Nat.zero_add]) (by intro j c hj; omega) (by rw [app_size]; omega)

end Go.Proofs.YtioafmnobmgdkaaDoor.Pure
