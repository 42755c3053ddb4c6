/- Plain law: the document's Parse is lines' Parse. -/
import Derived.Test.YthbmedhejlhclaaDoorPureR
import Derived.Test.YthbmedhejlhclaaDoorQBasex5
namespace Go.Proofs.YthbmedhejlhclaaDoor.Pure
open Go Go.RowKit Go.Proofs.YthbmedhejlhclaaDoor.QBase Go.Proofs.YthbmedhejlhclaaDoor.Given Go.Proofs.YthbmedhejlhclaaDoorW.PrintWords Go.Proofs.YthbmedhejlhclaaDoorW.PrintLast
set_option linter.unusedVariables false
set_option linter.unusedSimpArgs false

def conv (x : S40) : S28 := ⟨x.f0, x.f1⟩
def sayR (p : List UInt8) : Option S28 := (sayL p).map conv
theorem i1 (i : Nat) (h : i < 1099511627776) : Aside0 (wrap64 ((i : Int) + 1) = ((i + 1 : Nat) : Int)) := ⟨by simp only [wrap64]; omega⟩
theorem ext_cur (u cur l : List UInt8) : (mk (u ++ cur ++ l)).extract u.length (u ++ cur).length = mk cur := by
  rw [ext_l]
  congr 1
  rw [List.append_assoc, List.drop_left, List.length_append, Nat.add_sub_cancel_left, List.take_left]
theorem ref_j4 (u cur l : List UInt8) (acc : List S28) (k : Nat) (hn : (u ++ cur ++ l).length < 1099511627776) (ha : acc.length < 4398046511104) (hk : 3 * cur.length + 5 ≤ k) :
    decorumref09_Parse.j4 (k + 1) (mk (u ++ cur ++ l)) acc (u.length : Int) ((u ++ cur).length : Int) true =
      decorumref09_Parse.l0 k (mk (u ++ cur ++ l)) (acc ++ (sayR cur).toList) (((u ++ cur).length + 1 : Nat) : Int) (((u ++ cur).length + 1 : Nat) : Int) := by
  have hl : (u ++ cur).length = u.length + cur.length := List.length_append
  have hl2 : (u ++ cur ++ l).length = (u ++ cur).length + l.length := List.length_append
  obtain ⟨K, V, hf, hKV⟩ := say_f cur (by omega) k hk
  have hw := i1 (u ++ cur).length (by omega)
  have he := ext_cur u cur l
  have hsz : (mk (u ++ cur ++ l)).size = (u ++ cur).length + l.length := by rw [mk_size, hl2]
  rw [decorumref09_Parse.j4, if_pos rfl, if_pos (by omega), if_pos (by omega), hsz, if_pos (by omega), Int.toNat_natCast, Int.toNat_natCast, he, hf, Option.bind_some, hw.out]
  unfold sayR sayL
  cases hB : sayB cur with
  | true =>
    obtain ⟨rfl, rfl⟩ := hKV hB
    rw [if_pos rfl, if_pos ha]
    rfl
  | false =>
    rw [if_neg (fun h => by cases h), if_neg (by decide)]
    simp
theorem ref_l0 : ∀ (l u cur : List UInt8) (acc : List S28) (k : Nat), (u ++ cur ++ l).length < 100000 → acc.length + l.length < 1000000 → 3 * (u ++ cur ++ l).length + 2 * l.length + 10 ≤ k →
    decorumref09_Parse.l0 k (mk (u ++ cur ++ l)) acc (u.length : Int) ((u ++ cur).length : Int) = some (acc ++ (spl cur l).filterMap sayR)
  | [], u, cur, acc, k, hn, ha, hk => by
    obtain ⟨k, rfl⟩ : ∃ k', k = k' + 3 := ⟨k - 3, by omega⟩
    have hl : (u ++ cur).length = u.length + cur.length := List.length_append
    have hl2 : (u ++ cur ++ []).length = (u ++ cur).length := by simp
    have hsz : (mk (u ++ cur ++ [])).size = (u ++ cur).length := by rw [mk_size, hl2]
    rw [decorumref09_Parse.l0, hsz, if_pos (by omega), if_pos rfl, ref_j4 u cur [] acc (k + 1) (by omega) (by omega) (by omega), decorumref09_Parse.l0, hsz, if_neg (by omega), spl]
    cases hq : sayR cur <;> simp [hq]
  | c :: t, u, cur, acc, k, hn, ha, hk => by
    rw [List.length_cons] at ha
    obtain ⟨k, rfl⟩ : ∃ k', k = k' + 2 := ⟨k - 2, by omega⟩
    have hl : (u ++ cur).length = u.length + cur.length := List.length_append
    have hl2 : (u ++ cur ++ c :: t).length = (u ++ cur).length + (t.length + 1) := List.length_append
    have hsz : (mk (u ++ cur ++ c :: t)).size = (u ++ cur).length + (t.length + 1) := by rw [mk_size, hl2]
    have hb : bt (mk (u ++ cur ++ c :: t)) ((u ++ cur).length : Int) = (c.toNat : Int) := bt_mk (u ++ cur) c t
    have hw := i1 (u ++ cur).length (by omega)
    rw [List.length_cons] at hk
    rw [decorumref09_Parse.l0, hsz, if_pos (by omega), if_neg (by omega), if_pos (by omega), if_pos (by omega), hb]
    have yes : nlB c = true → decorumref09_Parse.j4 (k + 1) (mk (u ++ cur ++ c :: t)) acc (u.length : Int) ((u ++ cur).length : Int) true = some (acc ++ (spl cur (c :: t)).filterMap sayR) := by
      intro h
      have e : u ++ cur ++ c :: t = (u ++ cur ++ [c]) ++ [] ++ t := by simp
      have e2 : (((u ++ cur).length + 1 : Nat) : Int) = ((u ++ cur ++ [c]).length : Int) := by simp; omega
      have e3 : ((u ++ cur ++ [c]).length : Int) = ((u ++ cur ++ [c] ++ []).length : Int) := by simp
      have e4 : (u ++ cur ++ [c] ++ [] ++ t).length = (u ++ cur).length + (t.length + 1) := by rw [← e, hl2]
      have hacc : (acc ++ (sayR cur).toList).length ≤ acc.length + 1 := by
        rw [List.length_append]
        cases sayR cur <;> simp
      have hr := ref_l0 t (u ++ cur ++ [c]) [] (acc ++ (sayR cur).toList) k (by omega) (by omega) (by omega)
      rw [ref_j4 u cur (c :: t) acc k (by omega) (by omega) (by omega), spl, if_pos h, e2]
      rw [← e, ← e3] at hr
      rw [hr]
      cases hq : sayR cur <;> simp [hq]
    by_cases h10 : c = 10
    · rw [if_pos (show (c.toNat : Int) = 10 by rw [h10]; rfl)]
      exact yes (by rw [h10]; rfl)
    · rw [if_neg (show ¬ ((c.toNat : Int) = 10) from fun h => h10 ((u8_n c 10).mp h))]
      by_cases h13 : c = 13
      · rw [show (((c.toNat : Int)) == 13) = true by rw [h13]; rfl]
        exact yes (by rw [h13]; rfl)
      · rw [show (((c.toNat : Int)) == 13) = false from beq_eq_false_iff_ne.mpr (fun h => h13 ((u8_n c 13).mp h)), decorumref09_Parse.j4, if_neg (by decide), hw.out, spl, if_neg (by simp [nlB, h10, h13])]
        have e : u ++ cur ++ c :: t = u ++ (cur ++ [c]) ++ t := by simp
        have e2 : (((u ++ cur).length + 1 : Nat) : Int) = ((u ++ (cur ++ [c])).length : Int) := by simp; omega
        have e4 : (u ++ (cur ++ [c]) ++ t).length = (u ++ cur).length + (t.length + 1) := by rw [← e, hl2]
        have hr := ref_l0 t u (cur ++ [c]) acc k (by omega) (by omega) (by omega)
        rw [← e] at hr
        rw [e2]
        exact hr
def tpR (l : List UInt8) : List UInt8 := Lib.trimPrefix l [239, 187, 191]
theorem ref_j2 (l : List UInt8) (k : Nat) (hn : l.length < 100000) (hk : 5 * l.length + 11 ≤ k) : decorumref09_Parse.j2 k (mk l) = some ((spl [] l).filterMap sayR) := by
  obtain ⟨k, rfl⟩ : ∃ k', k = k' + 1 := ⟨k - 1, by omega⟩
  have := ref_l0 l [] [] [] k (by simpa using hn) (by simp; omega) (by simp; omega)
  rw [decorumref09_Parse.j2]
  simpa using this
theorem ref_j0 (l : List UInt8) (k : Nat) (hn : l.length < 100000) (hk : 5 * l.length + 13 ≤ k) : decorumref09_Parse.j0 k (mk l) = some ((spl [] (tpR l)).filterMap sayR) := by
  obtain ⟨k, rfl⟩ : ∃ k', k = k' + 2 := ⟨k - 2, by omega⟩
  have no : decorumref09_Parse.j1 (k + 1) (mk l) false = some ((spl [] l).filterMap sayR) := by
    rw [decorumref09_Parse.j1, if_neg (by decide), ref_j2 l k hn (by omega)]
  rw [decorumref09_Parse.j0, mk_size]
  have short : l.length < 3 → tpR l = l := by
    intro h
    have : Lib.hasPrefix l [239, 187, 191] = false := by
      unfold Lib.hasPrefix
      match l, h with
      | [], _ => rfl
      | [a], _ => simp [List.isPrefixOf]
      | [a, b], _ => simp [List.isPrefixOf]
    unfold tpR Lib.trimPrefix
    rw [this]
    rfl
  by_cases h3 : l.length < 3
  · rw [if_neg (by omega), no, short h3]
  · rw [if_pos (by omega), if_pos (by omega)]
    match l, h3 with
    | [], h3 => exact absurd (by decide) h3
    | [a], h3 => exact absurd (by simp) h3
    | [a, b], h3 => exact absurd (by simp) h3
    | a :: b :: c :: r, _ =>
      have b0 : bt (mk (a :: b :: c :: r)) 0 = (a.toNat : Int) := bt_mk [] a (b :: c :: r)
      have b1 : bt (mk (a :: b :: c :: r)) 1 = (b.toNat : Int) := bt_mk [a] b (c :: r)
      have b2 : bt (mk (a :: b :: c :: r)) 2 = (c.toNat : Int) := bt_mk [a, b] c r
      have ht : tpR (a :: b :: c :: r) = if a = 239 ∧ b = 187 ∧ c = 191 then r else a :: b :: c :: r := by
        unfold tpR Lib.trimPrefix Lib.hasPrefix
        by_cases hh : a = 239 ∧ b = 187 ∧ c = 191
        · obtain ⟨rfl, rfl, rfl⟩ := hh
          simp [List.isPrefixOf]
        · rw [if_neg hh]
          have : ([239, 187, 191] : List UInt8).isPrefixOf (a :: b :: c :: r) = false := by
            simp [List.isPrefixOf]
            intro h1 h2 h3
            exact hh ⟨h1.symm, h2.symm, h3.symm⟩
          rw [this]
          rfl
      rw [b0, ht]
      by_cases ha : a = 239
      · rw [if_pos (show (a.toNat : Int) = 239 by rw [ha]; rfl), if_pos (by simp; omega), b1]
        by_cases hb : b = 187
        · rw [if_pos (show (b.toNat : Int) = 187 by rw [hb]; rfl), if_pos (by simp; omega), b2]
          by_cases hc : c = 191
          · have he : (mk (a :: b :: c :: r)).extract 3 (mk (a :: b :: c :: r)).size = mk r := by rw [ext_l, mk_size]; simp
            rw [show (((c.toNat : Int)) == 191) = true by rw [hc]; rfl, decorumref09_Parse.j1, if_pos rfl, if_pos (by rw [mk_size]; simp; omega), he, if_pos ⟨ha, hb, hc⟩]
            simp only [List.length_cons] at hn hk
            exact ref_j2 r k (by omega) (by omega)
          · rw [show (((c.toNat : Int)) == 191) = false from beq_eq_false_iff_ne.mpr (fun h => hc ((u8_n c 191).mp h)), no, if_neg (fun h => hc h.2.2)]
        · rw [if_neg (show ¬ ((b.toNat : Int) = 187) from fun h => hb ((u8_n b 187).mp h)), no, if_neg (fun h => hb h.2.1)]
      · rw [if_neg (show ¬ ((a.toNat : Int) = 239) from fun h => ha ((u8_n a 239).mp h)), no, if_neg (fun h => ha h.1)]
theorem sayR_map (ps : List (List UInt8)) : ps.filterMap sayR = (ps.filterMap sayL).map conv := by
  rw [List.map_filterMap]
  rfl
theorem ref_parse (a : ByteArray) (k : Nat) (hk : 30000 ≤ k) : decorumref09_Parse.f k a = some ((parseV (cut4096 a).data.toList).map conv) := by
  have hgo : ∀ b : ByteArray, b.size ≤ 4096 → decorumref09_Parse.j0 k b = some ((parseV (tpR b.data.toList)).map conv) := by
    intro b hb
    have e : b = mk b.data.toList := by unfold mk; rfl
    rw [Lib.size_eq] at hb
    rw [e, ref_j0 _ _ (by omega) (by omega), sayR_map]
    rfl
  have hcut : (cut4096 a).data.toList = tpR (a.extract 0 (min a.size 4096)).data.toList := rfl
  unfold decorumref09_Parse.f
  rw [hcut]
  by_cases h : (a.size : Int) > 4096
  · rw [if_pos h, if_pos (by omega), if_pos (by omega), hgo _ (by simp only [ByteArray.size_extract]; omega), show min a.size 4096 = 4096 by omega]
  · have : a.extract 0 (min a.size 4096) = a := by
      rw [ext_mk, List.drop_zero, Nat.sub_zero, List.take_of_length_le (by rw [← Lib.size_eq]; omega)]
      rfl
    rw [if_neg h, hgo a (by omega), this]
theorem pairs_f (x : List S40) (hx : x.length < 1000000) (k : Nat) (hk : x.length + 1 ≤ k) : decorumlaw09_pairs.f k x = some (x.map conv) := by
  have key : ∀ (m i k : Nat) (acc : List S28), x.length - i = m → i ≤ x.length → acc.length ≤ i → m + 1 ≤ k → decorumlaw09_pairs.l0 k x acc (i : Int) = some (acc ++ (x.drop i).map conv) := by
    intro m
    induction m with
    | zero =>
      intro i k acc h1 h2 h3 h4
      obtain ⟨k, rfl⟩ : ∃ k', k = k' + 1 := ⟨k - 1, by omega⟩
      rw [decorumlaw09_pairs.l0, if_neg (by omega), List.drop_eq_nil_of_le (by omega)]
      simp
    | succ m ih =>
      intro i k acc h1 h2 h3 h4
      obtain ⟨k, rfl⟩ : ∃ k', k = k' + 1 := ⟨k - 1, by omega⟩
      have hw := i1 i (by omega)
      have hlt : i < x.length := by omega
      have e : rd_T40 x (i : Int) = x[i] := by simp [rd_T40, hlt]
      rw [decorumlaw09_pairs.l0, if_pos (by omega), if_pos (by omega), if_pos (by omega), hw.out, ih (i + 1) k _ (by omega) (by omega) (by simp; omega) (by omega), e, List.drop_eq_getElem_cons hlt, List.map_cons, List.append_assoc]
      rfl
  have := key x.length 0 k [] (by omega) (by omega) (by simp) hk
  rw [List.nil_append, List.drop_zero] at this
  exact this
end Go.Proofs.YthbmedhejlhclaaDoor.Pure
