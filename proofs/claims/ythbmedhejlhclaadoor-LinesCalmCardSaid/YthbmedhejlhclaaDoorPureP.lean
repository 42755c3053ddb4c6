/- Plain law: the pieces of a text between its lines' ends, and what they say. -/
import Derived.Test.YthbmedhejlhclaaDoorGivP
import Derived.Test.YthbmedhejlhclaaDoorPureD
namespace Go.Proofs.YthbmedhejlhclaaDoor.Pure
open Go Go.RowKit Go.Proofs.YthbmedhejlhclaaDoor.QBase Go.Proofs.YthbmedhejlhclaaDoor.Given Go.Proofs.YthbmedhejlhclaaDoorW.PrintWords Go.Proofs.YthbmedhejlhclaaDoorW.PrintLast
set_option linter.unusedVariables false
set_option linter.unusedSimpArgs false

def nlB (c : UInt8) : Bool := c == 13 || c == 10
/-- The pieces of a text at its lines' ends. -/
def spl : List UInt8 → List UInt8 → List (List UInt8)
  | cur, [] => [cur]
  | cur, c :: t => if nlB c = true then cur :: spl [] t else spl (cur ++ [c]) t
theorem spl_no : ∀ (u cur r : List UInt8), (∀ c ∈ u, nlB c = false) → spl cur (u ++ r) = spl (cur ++ u) r
  | [], cur, r, _ => by simp
  | c :: u, cur, r, h => by
    rw [List.cons_append, spl, if_neg (by rw [h c (by simp)]; decide), spl_no u (cur ++ [c]) r (fun d hd => h d (by simp [hd]))]
    simp
theorem spl_app (v : List UInt8) (e : UInt8) (he : nlB e = true) : ∀ (u cur : List UInt8), spl cur (u ++ e :: v) = spl cur u ++ spl [] v
  | [], cur => by rw [List.nil_append, show spl cur (e :: v) = cur :: spl [] v by rw [spl, if_pos he]]; rfl
  | c :: u, cur => by
    rw [List.cons_append, spl, spl]
    split
    · rw [spl_app v e he u []]; rfl
    · rw [spl_app v e he u (cur ++ [c])]
theorem spl_len : ∀ (u cur : List UInt8), (spl cur u).length ≤ u.length + 1
  | [], cur => by simp [spl]
  | c :: u, cur => by
    rw [spl]
    split
    · have := spl_len u []; simp; omega
    · have := spl_len u (cur ++ [c]); simp; omega
theorem spl_in : ∀ (u cur : List UInt8), ∀ p ∈ spl cur u, p.length ≤ cur.length + u.length
  | [], cur, p, h => by simp [spl] at h; subst h; simp
  | c :: u, cur, p, h => by
    rw [spl] at h
    split at h
    · rcases List.mem_cons.mp h with rfl | h
      · simp
      · have := spl_in u [] p h; simp at this ⊢; omega
    · have := spl_in u (cur ++ [c]) p h; simp at this ⊢; omega

def mk (p : List UInt8) : ByteArray := ⟨p.toArray⟩
theorem ext_mk (s : ByteArray) (a b : Nat) : s.extract a b = mk ((s.data.toList.drop a).take (b - a)) := by
  have h := Lib.extract_data s a b
  unfold mk
  rw [← h]
theorem isNL_nlB (c : UInt8) : isNL c.toNat = nlB c := by
  unfold isNL nlB
  have h : ∀ x : UInt8, (c.toNat == x.toNat) = (c == x) := by
    intro x
    by_cases e : c = x
    · rw [e, beq_self_eq_true, beq_self_eq_true]
    · have : c.toNat ≠ x.toNat := fun h => e (UInt8.toNat_inj.mp h)
      rw [beq_eq_false_iff_ne.mpr this, beq_eq_false_iff_ne.mpr e]
  rw [← h 13, ← h 10]
  rfl
theorem take_add (l : List UInt8) (a p n : Nat) (h : a ≤ p) : (l.drop a).take (p + n - a) = (l.drop a).take (p - a) ++ (l.drop p).take n := by
  rw [show p + n - a = (p - a) + n by omega, List.take_add, List.drop_drop, show a + (p - a) = p by omega]

def keep (p : List UInt8) : Bool := !p.isEmpty
theorem spans (s : ByteArray) : ∀ (f pos : Nat) (st : Option Nat) (acc : List (Nat × Nat)) (cur : List UInt8), pos ≤ s.size → s.size - pos ≤ f →
    (st = none ∧ cur = [] ∨ ∃ a, st = some a ∧ a < pos ∧ (s.data.toList.drop a).take (pos - a) = cur) →
    (Lib.closeSpans s (Lib.spansFromP isNL s f pos st acc)).map (fun x => s.extract x.1 x.2) = acc.map (fun x => s.extract x.1 x.2) ++ ((spl cur (s.data.toList.drop pos)).filter keep).map mk := by
  intro f
  induction f with
  | zero =>
    intro pos st acc cur hp hf hst
    obtain rfl : pos = s.size := by omega
    rw [Lib.spansFromP_end isNL s 0 s.size st acc (by omega), show s.data.toList.drop s.size = [] from List.drop_eq_nil_of_le (by rw [← Lib.size_eq]; omega), spl]
    rcases hst with ⟨rfl, rfl⟩ | ⟨a, rfl, ha, rfl⟩
    · simp [Lib.closeSpans, keep]
    · have hk : keep ((s.data.toList.drop a).take (s.size - a)) = true := by
        have hl : ((s.data.toList.drop a).take (s.size - a)).length = s.size - a := by
          rw [List.length_take, List.length_drop, ← Lib.size_eq]; omega
        cases hq : (s.data.toList.drop a).take (s.size - a) with
        | nil => rw [hq] at hl; simp at hl; omega
        | cons _ _ => rfl
      simp only [Lib.closeSpans, List.map_append, List.map_cons, List.map_nil, List.filter_cons, hk, List.filter_nil, if_true, ext_mk]
  | succ f ih =>
    intro pos st acc cur hp hf hst
    by_cases hlt : pos < s.size
    · have hl : pos < s.data.toList.length := by rw [← Lib.size_eq]; exact hlt
      obtain ⟨n1, n2, n3⟩ := dec_in s pos hlt
      have hcur : st.isSome = true → keep cur = true := by
        intro h
        rcases hst with ⟨rfl, rfl⟩ | ⟨a, rfl, ha, rfl⟩
        · cases h
        · have hl2 : ((s.data.toList.drop a).take (pos - a)).length = pos - a := by
            rw [List.length_take, List.length_drop]; omega
          cases hq : (s.data.toList.drop a).take (pos - a) with
          | nil => rw [hq] at hl2; simp at hl2; omega
          | cons _ _ => rfl
      -- what is no line's end
      have go : isNL (Utf8.decode s pos).1 = false → (∀ c ∈ (s.data.toList.drop pos).take (Utf8.decode s pos).2, nlB c = false) →
          (Lib.closeSpans s (Lib.spansFromP isNL s (f + 1) pos st acc)).map (fun x => s.extract x.1 x.2) = acc.map (fun x => s.extract x.1 x.2) ++ ((spl cur (s.data.toList.drop pos)).filter keep).map mk := by
        intro hnl hall
        generalize hn : (Utf8.decode s pos).2 = n at *
        have hsp : spl cur (s.data.toList.drop pos) = spl (cur ++ (s.data.toList.drop pos).take n) (s.data.toList.drop (pos + n)) := by
          rw [← spl_no _ cur _ hall, ← List.drop_drop, List.take_append_drop]
        rw [hsp]
        rcases hst with ⟨rfl, rfl⟩ | ⟨a, rfl, ha, rfl⟩
        all_goals rw [Lib.spansFromP, if_pos hlt, hnl, if_neg (by decide), hn]
        · exact ih (pos + n) (some pos) acc _ (by omega) (by omega) (.inr ⟨pos, rfl, by omega, by rw [Nat.add_sub_cancel_left]; rfl⟩)
        · exact ih (pos + n) (some a) acc _ (by omega) (by omega) (.inr ⟨a, rfl, by omega, take_add _ _ _ _ (by omega)⟩)
      by_cases hb : 128 ≤ (s.get! pos).toNat
      · have hd := dec_big s pos hb
        refine go ?_ ?_
        · unfold isNL
          rw [show ((Utf8.decode s pos).1 == 13) = false from beq_eq_false_iff_ne.mpr (by omega), show ((Utf8.decode s pos).1 == 10) = false from beq_eq_false_iff_ne.mpr (by omega)]
          rfl
        · intro c hc
          obtain ⟨i, hi, rfl⟩ := List.getElem_of_mem hc
          rw [List.length_take] at hi
          have h1 := n3 hb i (by omega)
          rw [get_list s (pos + i) (by omega)] at h1
          rw [List.getElem_take, List.getElem_drop, ← isNL_nlB]
          unfold isNL
          rw [beq_eq_false_iff_ne.mpr (by omega : _ ≠ 13), beq_eq_false_iff_ne.mpr (by omega : _ ≠ 10)]
          rfl
      · have hg := get_list s pos hlt
        have hg2 : s[pos]'hlt = s.get! pos := by rw [hg]; rfl
        have e := decode_ascii s pos hlt (by rw [hg2]; omega)
        rw [hg2] at e
        obtain ⟨c, hc⟩ : ∃ c, c = s.get! pos := ⟨_, rfl⟩
        have hdc : s.data.toList.drop pos = c :: s.data.toList.drop (pos + 1) := by rw [List.drop_eq_getElem_cons hl, hc, hg]
        cases hn : nlB c with
        | false =>
          refine go (by rw [e, ← hc]; exact (isNL_nlB c).trans hn) ?_
          intro d hd
          rw [e, hdc] at hd
          simp at hd
          rw [hd]; exact hn
        | true =>
          have hnl : isNL (s.get! pos).toNat = true := by rw [← hc]; exact (isNL_nlB c).trans hn
          rw [hdc, spl, if_pos hn]
          rcases hst with ⟨rfl, rfl⟩ | ⟨a, rfl, ha, rfl⟩
          all_goals rw [Lib.spansFromP, if_pos hlt, e]; simp only [hnl, if_true]
          · have := ih (pos + 1) none acc [] (by omega) (by omega) (.inl ⟨rfl, rfl⟩)
            simp only [this, List.filter_cons, show keep [] = false from rfl, Bool.false_eq_true, if_false]
          · have := ih (pos + 1) none (acc ++ [(a, pos)]) [] (by omega) (by omega) (.inl ⟨rfl, rfl⟩)
            simp only [ext_mk] at this ⊢
            simp only [this, List.filter_cons, hcur rfl, if_true, List.map_cons, List.map_append, List.map_nil, List.append_assoc, List.cons_append, List.nil_append]
    · obtain rfl : pos = s.size := by omega
      have := ih s.size st acc cur hp (by omega) hst
      rw [Lib.spansFromP_end isNL s f s.size st acc (by omega)] at this
      rw [Lib.spansFromP_end isNL s (f + 1) s.size st acc (by omega)]
      exact this
theorem pieces (s : ByteArray) : Lib.goFieldsP isNL s = ((spl [] s.data.toList).filter keep).map mk := by
  have := spans s s.size 0 none [] [] (Nat.zero_le _) (by omega) (.inl ⟨rfl, rfl⟩)
  unfold Lib.goFieldsP Lib.spansOfP
  simpa using this

/-- What a line says, in bytes: its name, what it tells, whether it says something. -/
def sayK (p : List UInt8) : List UInt8 := lowL (Lib.trimS (Lib.cut (Lib.cut p [35]).1 [58]).1 [32, 9])
def sayV (p : List UInt8) : List UInt8 := Lib.trimS (Lib.cut (Lib.cut p [35]).1 [58]).2.1 [32, 9]
def sayB (p : List UInt8) : Bool := (Lib.cut (Lib.cut p [35]).1 [58]).2.2 && (sayK p != [])
def sayL (p : List UInt8) : Option S40 := if sayB p = true then some ⟨mk (sayK p), mk (sayV p)⟩ else none
def parseV (l : List UInt8) : List S40 := (spl [] l).filterMap sayL
theorem mk_size (p : List UInt8) : (mk p).size = p.length := by rw [Lib.size_eq]; rfl
theorem mk_toList (p : List UInt8) : (mk p).toList = p := by simp [mk]
theorem trimS_len (l cs : List UInt8) : (Lib.trimS l cs).length ≤ l.length := by
  unfold Lib.trimS Lib.trimLeftS Lib.trimRightS
  refine Nat.le_trans ((List.dropWhile_sublist _).length_le) ?_
  rw [List.length_reverse]
  refine Nat.le_trans ((List.dropWhile_sublist _).length_le) ?_
  rw [List.length_reverse]
  exact Nat.le_refl _
theorem line_f (p : List UInt8) (hp : p.length < 4294967281) : lines_line.f (mk p) = some (mk (sayK p), mk (sayV p), sayB p) := by
  have h1 := cut_room p [35]
  have h2 := cut_room (Lib.cut p [35]).1 [58]
  have hk := trimS_len (Lib.cut (Lib.cut p [35]).1 [58]).1 [32, 9]
  have hv := trimS_len (Lib.cut (Lib.cut p [35]).1 [58]).2.1 [32, 9]
  unfold lines_line.f strings_Cut.f strings_Trim.f lines_lower.f
  have e1 : (mk p).data.toList = p := rfl
  rw [e1, if_pos (by rw [mk_size]; exact hp)]
  simp only [Option.bind_some]
  rw [show (ByteArray.mk (Lib.cut p [35]).1.toArray) = mk (Lib.cut p [35]).1 from rfl, if_pos (by rw [mk_size]; omega)]
  simp only [Option.bind_some]
  have e2 : ∀ q : List UInt8, (ByteArray.mk q.toArray) = mk q := fun _ => rfl
  have e3 : ∀ q : List UInt8, (mk q).data.toList = q := fun _ => rfl
  have hset : (((⟨#[32, 9]⟩ : ByteArray).data.toList.all fun b => decide (b.toNat < 128)) = true) := rfl
  have hs9 : (⟨#[32, 9]⟩ : ByteArray).size < 1000 := by decide
  have hd : (⟨#[32, 9]⟩ : ByteArray).data.toList = [32, 9] := rfl
  have hd2 : (⟨#[35]⟩ : ByteArray).data.toList = [35] := rfl
  have hd3 : (⟨#[58]⟩ : ByteArray).data.toList = [58] := rfl
  simp only [e2, e3, hd, hd2, hd3]
  rw [if_pos ⟨by rw [mk_size]; omega, hs9, by rfl⟩]
  simp only [Option.bind_some, e3]
  rw [if_pos (by rw [mk_size]; omega)]
  simp only [Option.bind_some]
  rw [if_pos ⟨by rw [mk_size]; omega, hs9, by rfl⟩]
  simp only [Option.bind_some, mk_toList]
  unfold sayB sayK sayV
  cases (Lib.cut (Lib.cut p [35]).1 [58]).2.2 with
  | true => rw [if_pos rfl, Bool.true_and]
  | false => rw [if_neg (by decide), Bool.false_and]
theorem parse_l : ∀ ps : List (List UInt8), (∀ p ∈ ps, p.length < 4294967281) → parseL ((ps.filter keep).map mk) = some (ps.filterMap sayL)
  | [], _ => rfl
  | p :: ps, h => by
    have ih := parse_l ps (fun q hq => h q (by simp [hq]))
    cases p with
    | nil =>
      have : sayL [] = none := by decide
      rw [List.filterMap_cons, this]
      simpa [keep] using ih
    | cons c t =>
      rw [show ((c :: t) :: ps).filter keep = (c :: t) :: ps.filter keep from rfl, List.map_cons, parseL, line_f _ (h _ (by simp)), ih]
      simp only [Option.bind_some, Option.map_some, List.filterMap_cons]
      unfold sayL
      cases sayB (c :: t) <;> simp
theorem parse_f (a : ByteArray) (ha : a.size ≤ 1099511627776) : lines_Parse.f a = some (parseV (cut4096 a).data.toList) := by
  have hlen : (cut4096 a).data.toList.length ≤ 4096 := by
    have h1 : (a.extract 0 (min a.size 4096)).data.toList.length ≤ 4096 := by
      rw [Lib.extract_data, List.length_take]; omega
    show (Lib.trimPrefix (a.extract 0 (min a.size 4096)).data.toList [239, 187, 191]).length ≤ 4096
    unfold Lib.trimPrefix
    split
    · rw [List.length_drop]; omega
    · exact h1
  unfold lines_Parse.f
  rw [pieces]
  have h2 := spl_len (cut4096 a).data.toList []
  have h3 := List.length_filter_le keep (spl [] (cut4096 a).data.toList)
  rw [if_pos ⟨ha, by rw [List.length_map]; omega⟩, parse_l]
  · rfl
  · intro p hp
    have := spl_in _ _ p hp
    simp at this
    simp at hlen
    omega
end Go.Proofs.YthbmedhejlhclaaDoor.Pure
