/- Plain law: the document's reading of lines is the pieces' one. -/
import Derived.Test.YthbmedhejlhclaaDoorQBasex4
import Derived.Test.YthbmedhejlhclaaDoorPureP
namespace Go.Proofs.YthbmedhejlhclaaDoor.Pure
open Go Go.RowKit Go.Proofs.YthbmedhejlhclaaDoor.QBase Go.Proofs.YthbmedhejlhclaaDoor.Given Go.Proofs.YthbmedhejlhclaaDoorW.PrintWords Go.Proofs.YthbmedhejlhclaaDoorW.PrintLast
set_option linter.unusedVariables false
set_option linter.unusedSimpArgs false

def blank (c : UInt8) : Bool := ([32, 9] : List UInt8).contains c
theorem blank_iff (c : UInt8) : blank c = true ↔ (c.toNat : Int) = 32 ∨ (c.toNat : Int) = 9 := by
  have h : ∀ x : UInt8, (c = x) ↔ c.toNat = x.toNat := fun x => ⟨fun e => by rw [e], fun e => UInt8.toNat_inj.mp e⟩
  unfold blank
  simp only [List.contains_cons, List.contains_nil, Bool.or_false, Bool.or_eq_true, beq_iff_eq, h]
  rw [show (32 : UInt8).toNat = 32 from rfl, show (9 : UInt8).toNat = 9 from rfl]
  omega
theorem bt_mk (u : List UInt8) (c : UInt8) (r : List UInt8) : bt (mk (u ++ c :: r)) (u.length : Int) = (c.toNat : Int) :=
  (bt_drop (s := mk (u ++ c :: r)) (i := u.length) (by show (u ++ c :: r).drop u.length = c :: r; simp)).2.1
theorem ext_l (l : List UInt8) (a b : Nat) : (mk l).extract a b = mk ((l.drop a).take (b - a)) := ext_mk (mk l) a b

theorem dw_nil (p : UInt8 → Bool) : ∀ l : List UInt8, l.dropWhile p = [] ↔ ∀ x ∈ l, p x = true
  | [] => by simp
  | c :: t => by
    rw [List.dropWhile_cons]
    by_cases h : p c = true
    · rw [if_pos h, dw_nil p t]; simp [h]
    · rw [if_neg h]; simp [h]
theorem right_snoc (t : List UInt8) (c : UInt8) : Lib.trimRightS (t ++ [c]) [32, 9] = if blank c = true then Lib.trimRightS t [32, 9] else t ++ [c] := by
  unfold Lib.trimRightS
  rw [List.reverse_append, List.reverse_singleton, List.singleton_append, List.dropWhile_cons]
  change List.reverse (if blank c = true then _ else _) = _
  split
  · rfl
  · simp
theorem trim_l1 : ∀ (n : Nat) (l : List UInt8) (k : Nat), l.length = n → n < 1099511627776 → n + 1 ≤ k → decorumref07_Trim.l1 k (mk l) = some (mk (Lib.trimRightS l [32, 9])) := by
  intro n
  induction n with
  | zero =>
    intro l k h _ hk
    obtain ⟨k, rfl⟩ : ∃ k', k = k' + 1 := ⟨k - 1, by omega⟩
    obtain rfl := List.length_eq_zero_iff.mp h
    rw [decorumref07_Trim.l1, if_neg (by rw [mk_size]; simp)]
    rfl
  | succ n ih =>
    intro l k h hn hk
    obtain ⟨k, rfl⟩ : ∃ k', k = k' + 1 := ⟨k - 1, by omega⟩
    have hne : l ≠ [] := fun e => by rw [e] at h; simp at h
    obtain ⟨t, c, rfl⟩ : ∃ t c, l = t ++ [c] := ⟨l.dropLast, l.getLast hne, (List.dropLast_concat_getLast hne).symm⟩
    have ht : t.length = n := by simpa using h
    have hs : ((mk (t ++ [c])).size : Int) = ((t.length + 1 : Nat) : Int) := by rw [mk_size, List.length_append]; rfl
    have hw : Aside0 (wrap64 (((t.length + 1 : Nat) : Int) - 1) = (t.length : Int)) := ⟨by simp only [wrap64]; omega⟩
    have hb : bt (mk (t ++ [c])) (t.length : Int) = (c.toNat : Int) := bt_mk t c []
    have he : (mk (t ++ [c])).extract 0 t.length = mk t := by rw [ext_l]; simp
    rw [decorumref07_Trim.l1, hs, if_pos (by omega), hw.out, if_pos (by omega), if_pos (by omega), hb, right_snoc]
    have hr := ih t k ht (by omega) (by omega)
    by_cases h32 : (c.toNat : Int) = 32
    · rw [if_pos h32, if_pos (by omega), Int.toNat_natCast, he, hr, if_pos ((blank_iff c).mpr (.inl h32))]
    · rw [if_neg h32]
      by_cases h9 : (c.toNat : Int) = 9
      · rw [if_pos h9, if_pos (by omega), Int.toNat_natCast, he, hr, if_pos ((blank_iff c).mpr (.inr h9))]
      · rw [if_neg h9, if_neg (fun h => ((blank_iff c).mp h).elim h32 h9)]
theorem trim_l0 : ∀ (l : List UInt8) (k : Nat), l.length < 1099511627776 → 2 * l.length + 3 ≤ k → decorumref07_Trim.l0 k (mk l) = some (mk (Lib.trimRightS (Lib.trimLeftS l [32, 9]) [32, 9]))
  | [], k, hn, hk => by
    obtain ⟨k, rfl⟩ : ∃ k', k = k' + 3 := ⟨k - 3, by simp at hk; omega⟩
    rw [decorumref07_Trim.l0, if_neg (by rw [mk_size]; simp), decorumref07_Trim.j1, trim_l1 0 [] (k + 1) rfl (by omega) (by omega)]
    rfl
  | c :: t, k, hn, hk => by
    rw [List.length_cons] at hn hk
    obtain ⟨k, rfl⟩ : ∃ k', k = k' + 2 := ⟨k - 2, by omega⟩
    have hs : ((mk (c :: t)).size : Int) = ((t.length + 1 : Nat) : Int) := by rw [mk_size, List.length_cons]
    have hs2 : (mk (c :: t)).size = t.length + 1 := by rw [mk_size, List.length_cons]
    have hb : bt (mk (c :: t)) 0 = (c.toNat : Int) := bt_mk [] c t
    have he : (mk (c :: t)).extract 1 (t.length + 1) = mk t := by rw [ext_l]; simp
    have hl : Lib.trimLeftS (c :: t) [32, 9] = if blank c = true then Lib.trimLeftS t [32, 9] else c :: t := by
      unfold Lib.trimLeftS
      rw [List.dropWhile_cons]
      rfl
    rw [decorumref07_Trim.l0, hs, hs2, if_pos (by omega), if_pos (by omega), hb, he, hl]
    have hr := trim_l0 t (k + 1) (by omega) (by omega)
    by_cases h32 : (c.toNat : Int) = 32
    · rw [if_pos h32, if_pos (by omega), hr, if_pos ((blank_iff c).mpr (.inl h32))]
    · rw [if_neg h32]
      by_cases h9 : (c.toNat : Int) = 9
      · rw [if_pos h9, if_pos (by omega), hr, if_pos ((blank_iff c).mpr (.inr h9))]
      · rw [if_neg h9, if_neg (fun h => ((blank_iff c).mp h).elim h32 h9), decorumref07_Trim.j1, trim_l1 (t.length + 1) (c :: t) k (by simp) (by omega) (by omega)]
theorem right_cons (c : UInt8) (t : List UInt8) : Lib.trimRightS (c :: t) [32, 9] = if t.all blank = true then (if blank c = true then [] else [c]) else c :: Lib.trimRightS t [32, 9] := by
  have gen : ∀ (l : List UInt8), (Lib.trimRightS l [32, 9] = [] ↔ l.all blank = true) := by
    intro l
    unfold Lib.trimRightS
    rw [List.reverse_eq_nil_iff, dw_nil, List.all_eq_true]
    simp [blank]
  have happ : ∀ (l : List UInt8), Lib.trimRightS (c :: l) [32, 9] = if (l.reverse.dropWhile (([32, 9] : List UInt8).contains ·)).isEmpty = true then (if blank c = true then [] else [c]) else c :: Lib.trimRightS l [32, 9] := by
    intro l
    unfold Lib.trimRightS
    rw [List.reverse_cons, List.dropWhile_append]
    split
    · rw [List.dropWhile_cons]
      change List.reverse (if blank c = true then _ else _) = _
      split <;> rfl
    · simp
  rw [happ t]
  have h2 : ((t.reverse.dropWhile (([32, 9] : List UInt8).contains ·)).isEmpty = true) ↔ t.all blank = true := by
    rw [← gen t]
    unfold Lib.trimRightS
    rw [List.reverse_eq_nil_iff, List.isEmpty_iff]
  by_cases h : t.all blank = true
  · rw [if_pos h, if_pos (h2.mpr h)]
  · rw [if_neg h, if_neg (fun e => h (h2.mp e))]
theorem trim_both : ∀ l : List UInt8, Lib.trimRightS (Lib.trimLeftS l [32, 9]) [32, 9] = Lib.trimS l [32, 9]
  | [] => rfl
  | c :: t => by
    have ih := trim_both t
    unfold Lib.trimS at ih ⊢
    have hl : ∀ r, Lib.trimLeftS (c :: r) [32, 9] = if blank c = true then Lib.trimLeftS r [32, 9] else c :: r := by
      intro r
      unfold Lib.trimLeftS
      rw [List.dropWhile_cons]
      rfl
    rw [hl]
    by_cases hc : blank c = true
    · rw [if_pos hc, ih, right_cons]
      by_cases ha : t.all blank = true
      · rw [if_pos ha, if_pos hc]
        have : Lib.trimRightS t [32, 9] = [] := by
          unfold Lib.trimRightS
          rw [List.reverse_eq_nil_iff, dw_nil]
          intro x hx
          exact List.all_eq_true.mp ha x (by simpa using hx)
        rw [this]
      · rw [if_neg ha, hl, if_pos hc]
    · rw [if_neg hc, right_cons]
      by_cases ha : t.all blank = true
      · rw [if_pos ha, if_neg hc, hl, if_neg hc]
      · rw [if_neg ha, hl, if_neg hc]
theorem trim_f (l : List UInt8) (k : Nat) (hn : l.length < 1099511627776) (hk : 2 * l.length + 3 ≤ k) : decorumref07_Trim.f k (mk l) = some (mk (Lib.trimS l [32, 9])) := by
  rw [decorumref07_Trim.f, trim_l0 l k hn hk, trim_both]

theorem cut_no (x : UInt8) : ∀ (u l : List UInt8), (∀ c ∈ u, c ≠ x) → Lib.cut (u ++ l) [x] = (u ++ (Lib.cut l [x]).1, (Lib.cut l [x]).2.1, (Lib.cut l [x]).2.2)
  | [], l, _ => rfl
  | c :: u, l, h => by
    rw [List.cons_append, cut_miss x c _ (h c (by simp)), cut_no x u l (fun d hd => h d (by simp [hd]))]
    rfl
/-- What is known of the signs gone by. -/
def Seen (u : List UInt8) (x5 : Int) : Prop := (x5 = -1 ∧ ∀ c ∈ u, c ≠ 58) ∨ ∃ A B, u = A ++ 58 :: B ∧ x5 = (A.length : Int) ∧ ∀ c ∈ A, c ≠ 58
theorem say_j1 (p u r : List UInt8) (hp : p = u ++ r) (x5 : Int) (hn : p.length < 1099511627776) (hx : Seen u x5) (hu : (Lib.cut p [35]).1 = u) (k : Nat) (hk : 2 * p.length + 4 ≤ k) :
    ∃ K V, decorumref09_say.j1 k (mk p) (u.length : Int) x5 = some (K, V, sayB p) ∧ (sayB p = true → K = mk (sayK p) ∧ V = mk (sayV p)) := by
  obtain ⟨k, rfl⟩ : ∃ k', k = k' + 1 := ⟨k - 1, by omega⟩
  have hul : u.length ≤ p.length := by rw [hp]; simp
  rcases hx with ⟨rfl, hno⟩ | ⟨A, B, hAB, rfl, hno⟩
  · have hc : Lib.cut (Lib.cut p [35]).1 [58] = (u, [], false) := by
      rw [hu]
      have := cut_no 58 u [] hno
      rw [List.append_nil, cut_nil, List.append_nil] at this
      exact this
    have hB : sayB p = false := by unfold sayB; rw [hc]; rfl
    rw [hB, decorumref09_say.j1, if_pos (by decide)]
    exact ⟨_, _, rfl, fun h => by cases h⟩
  · have hc : Lib.cut (Lib.cut p [35]).1 [58] = (A, B, true) := by
      rw [hu, hAB, cut_no 58 A _ hno, cut_hit]
      simp
    have hlen : A.length + 1 + B.length = u.length := by rw [hAB]; simp; omega
    have e1 : (mk p).extract 0 A.length = mk A := by rw [ext_l, hp, hAB]; simp
    have e2 : (mk p).extract (A.length + 1) u.length = mk B := by
      rw [ext_l, hp]
      congr 1
      rw [← hlen, Nat.add_sub_cancel_left, hAB]
      simp [List.drop_append, List.take_append]
    have hw : Aside0 (wrap64 ((A.length : Int) + 1) = ((A.length + 1 : Nat) : Int)) := ⟨by simp only [wrap64]; omega⟩
    have hs : (mk p).size = p.length := mk_size p
    have hK : sayK p = lowL (Lib.trimS A [32, 9]) := by unfold sayK; rw [hc]
    have hV : sayV p = Lib.trimS B [32, 9] := by unfold sayV; rw [hc]
    have hB : sayB p = (lowL (Lib.trimS A [32, 9]) != []) := by unfold sayB; rw [hc, hK]; rfl
    have hT := trimS_len A [32, 9]
    have hlow : decorumref09_Lower.f (mk (Lib.trimS A [32, 9])) = some (mk (lowL (Lib.trimS A [32, 9]))) := by
      rw [decorumref09_Lower.f, if_pos (by rw [mk_size]; omega)]
      rfl
    rw [decorumref09_say.j1, if_neg (by omega), if_pos (by omega), hs, if_pos (by omega), Int.toNat_natCast, e1, trim_f A k (by omega) (by omega), Option.bind_some, hlow, Option.bind_some, hw.out,
      if_pos (by omega), if_pos (by omega), if_pos (by omega), Int.toNat_natCast, Int.toNat_natCast, e2, trim_f B k (by omega) (by omega), Option.bind_some, mk_toList]
    exact ⟨_, _, by rw [hB], fun _ => ⟨by rw [hK], by rw [hV]⟩⟩
theorem u8_n (c x : UInt8) : ((c.toNat : Int) = (x.toNat : Int)) ↔ c = x := by
  constructor
  · intro h
    exact UInt8.toNat_inj.mp (by omega)
  · rintro rfl; rfl
theorem say_l0 (p : List UInt8) (hn : p.length < 1099511627776) : ∀ (l u : List UInt8) (x5 : Int) (k : Nat), p = u ++ l → (∀ c ∈ u, c ≠ 35) → Seen u x5 → 2 * p.length + 5 + l.length ≤ k →
    ∃ K V, decorumref09_say.l0 k (mk p) (p.length : Int) x5 (u.length : Int) = some (K, V, sayB p) ∧ (sayB p = true → K = mk (sayK p) ∧ V = mk (sayV p)) := by
  intro l
  induction l with
  | nil =>
    intro u x5 k hp hu hx hk
    obtain ⟨k, rfl⟩ : ∃ k', k = k' + 1 := ⟨k - 1, by omega⟩
    have hpu : p = u := by rw [hp]; simp
    have hc : (Lib.cut p [35]).1 = u := by
      have := cut_no 35 u [] hu
      rw [hp, this, cut_nil]; simp
    rw [decorumref09_say.l0, mk_size, if_neg (by rw [hpu]; omega)]
    have := say_j1 p u [] hp x5 hn hx hc k (by simp at hk; omega)
    rw [← hpu] at this
    exact this
  | cons c t ih =>
    intro u x5 k hp hu hx hk
    rw [List.length_cons] at hk
    obtain ⟨k, rfl⟩ : ∃ k', k = k' + 1 := ⟨k - 1, by omega⟩
    have hl : p.length = u.length + (t.length + 1) := by rw [hp]; simp
    have hb : bt (mk p) (u.length : Int) = (c.toNat : Int) := by rw [hp]; exact bt_mk u c t
    have hw : Aside0 (wrap64 ((u.length : Int) + 1) = ((u.length + 1 : Nat) : Int)) := ⟨by simp only [wrap64]; omega⟩
    rw [decorumref09_say.l0, mk_size, if_pos (by omega), if_pos (by omega), hb, hw.out]
    by_cases h35 : c = 35
    · subst h35
      have hc : (Lib.cut p [35]).1 = u := by rw [hp, cut_no 35 u _ hu, cut_hit]; simp
      rw [if_pos (by rfl)]
      exact say_j1 p u (35 :: t) hp x5 hn hx hc k (by omega)
    · rw [if_neg (show ¬ ((c.toNat : Int) = 35) from fun h => h35 ((u8_n c 35).mp h))]
      have hp2 : p = (u ++ [c]) ++ t := by rw [hp]; simp
      have hu2 : ∀ d ∈ u ++ [c], d ≠ 35 := by
        intro d hd
        rcases List.mem_append.mp hd with hd | hd
        · exact hu d hd
        · rw [List.mem_singleton.mp hd]; exact h35
      have hlen : ((u.length + 1 : Nat) : Int) = ((u ++ [c]).length : Int) := by simp
      rw [hlen]
      by_cases h58 : c = 58
      · subst h58
        rw [if_pos (by rfl)]
        rcases hx with ⟨rfl, hno⟩ | ⟨A, B, hAB, rfl, hno⟩
        · rw [if_pos (by decide)]
          exact ih (u ++ [58]) _ k hp2 hu2 (.inr ⟨u, [], rfl, rfl, hno⟩) (by omega)
        · rw [if_neg (by omega)]
          exact ih (u ++ [58]) _ k hp2 hu2 (.inr ⟨A, B ++ [58], by rw [hAB]; simp, rfl, hno⟩) (by omega)
      · rw [if_neg (show ¬ ((c.toNat : Int) = 58) from fun h => h58 ((u8_n c 58).mp h))]
        refine ih (u ++ [c]) _ k hp2 hu2 ?_ (by omega)
        rcases hx with ⟨rfl, hno⟩ | ⟨A, B, hAB, rfl, hno⟩
        · refine .inl ⟨rfl, ?_⟩
          intro d hd
          rcases List.mem_append.mp hd with hd | hd
          · exact hno d hd
          · rw [List.mem_singleton.mp hd]; exact h58
        · exact .inr ⟨A, B ++ [c], by rw [hAB]; simp, rfl, hno⟩
theorem say_f (p : List UInt8) (hn : p.length < 1099511627776) (k : Nat) (hk : 3 * p.length + 5 ≤ k) :
    ∃ K V, decorumref09_say.f k (mk p) = some (K, V, sayB p) ∧ (sayB p = true → K = mk (sayK p) ∧ V = mk (sayV p)) := by
  have := say_l0 p hn p [] (-1) k (by simp) (by simp) (.inl ⟨rfl, by simp⟩) (by omega)
  rw [decorumref09_say.f, mk_size]
  exact this
end Go.Proofs.YthbmedhejlhclaaDoor.Pure
