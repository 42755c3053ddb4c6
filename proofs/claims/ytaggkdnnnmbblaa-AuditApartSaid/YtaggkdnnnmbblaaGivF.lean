/- AuditApart, walked. -/
import Derived.Test.YtaggkdnnnmbblaaGivE
namespace Go.Proofs.Ytaggkdnnnmbblaa.Given
open Go.RowKit Go.Maps Go.WideMaps Go.Proofs.Ytaggkdnnnmbblaa.QBase Go.Proofs.YtaggkdnnnmbblaaW.PrintWords Go.Proofs.YtaggkdnnnmbblaaW.PrintLast
set_option linter.unusedVariables false
set_option linter.unusedSimpArgs false

/-- An event of a host with a sign ahead. -/
def named (c : UInt8) (e : Ev) : Ev := ⟨e.f0, e.f1, ⟨e.f2.f0, ⟨#[c]⟩ ++ e.f2.f1, e.f2.f2, e.f2.f3, e.f2.f4⟩⟩
theorem named_ne (a b : ByteArray) : (⟨#[97]⟩ : ByteArray) ++ a ≠ ⟨#[98]⟩ ++ b := by
  intro h
  have h0 := congrArg (fun b : ByteArray => b.data.toList[0]?) h
  simp at h0
theorem lastR_none (h : ByteArray) : ∀ x : List Ev, (∀ e ∈ x, hostOf e ≠ h) → lastR x h = none
  | [], _ => rfl
  | e :: r, hx => by
    rw [lastR, if_neg (by simp [hx e (by simp)])]
    exact lastR_none h r (fun e he => hx e (by simp [he]))
theorem lastR_far (h : ByteArray) (x : List Ev) (hx : ∀ e ∈ x, hostOf e ≠ h) : ∀ y : List Ev, lastR (y ++ x) h = lastR y h
  | [] => by rw [List.nil_append, lastR_none h x hx]; rfl
  | e :: y => by
    rw [List.cons_append, lastR, lastR_far h x hx y]
    rfl
theorem gaps_apart (f : Int) (x : List Ev) : ∀ y : List Ev, (∀ e ∈ x, ∀ g ∈ y, hostOf e ≠ hostOf g) → gapsR f (y ++ x) = (gapsR f x && gapsR f y)
  | [], _ => by simp [gapsR]
  | g :: y, h => by
    rw [List.cons_append, gapsR, gaps_apart f x y (fun e he g' hg => h e he g' (by simp [hg])), lastR_far (hostOf g) x (fun e he => h e he g (by simp)), gapsR, Bool.and_assoc]
theorem gapsB_apart (f : Int) (x y : List Ev) (h : ∀ e ∈ x, ∀ g ∈ y, hostOf e ≠ hostOf g) : gapsB f (x ++ y) = (gapsB f x && gapsB f y) := by
  unfold gapsB
  rw [List.reverse_append]
  exact gaps_apart f _ _ (fun e he g hg => h e (by simpa using he) g (by simpa using hg))
theorem countR_append (k : Int) (x : List Ev) : ∀ y : List Ev, countR k (y ++ x) = countR k x + countR k y
  | [] => by simp [countR]
  | e :: y => by rw [List.cons_append, countR, countR_append k x y, countR]; omega
theorem countR_rev (k : Int) (x y : List Ev) : countR k (x ++ y).reverse = countR k x.reverse + countR k y.reverse := by
  rw [List.reverse_append, countR_append]

/-- A list of events in a row of the call's own. -/
def Row (B : Nat) (W : World) (v : Value) (l : List Ev) : Prop := W.ownsRow B 28 7 v l.length (evRow l) ∧ v ≠ .slice none 0 0
theorem evRow_length (l : List Ev) : (evRow l).length = l.length * 7 := by
  induction l with
  | nil => rfl
  | cons e r ih => simp [evRow, evCells, ih]; omega
theorem evRow_one (l : List Ev) : ∀ u ∈ evRow l, u.oneCell' = true := by
  induction l with
  | nil => simp [evRow]
  | cons e r ih =>
    intro u hu
    simp only [evRow, evCells, List.mem_append] at hu
    rcases hu with hu | hu
    · simp at hu
      rcases hu with rfl | rfl | rfl | rfl | rfl | rfl | rfl <;> rfl
    · exact ih u hu
theorem Row.slice {B : Nat} {W : World} {v : Value} {l : List Ev} (h : Row B W v l) : ∃ g c, v = .slice (some ⟨g, 0, none⟩) l.length c ∧ B ≤ g ∧ g < W.heap.size := by
  rcases h.1.2 with ⟨h1, h2⟩ | ⟨b, cap, cur, h1, hB, hb, _⟩
  · exact absurd h1 h.2
  · exact ⟨b, cap, h1, hB, (Array.getElem?_eq_some_iff.1 hb).1⟩
theorem Row.kept {B : Nat} {W W' : World} {v : Value} {l : List Ev} {row : Option Nat} (h : Row B W v l) (hg : W.grownBy W' row) (hne : v.ownBlock ≠ row) : Row B W' v l := ⟨h.1.kept hg (.inr hne), h.2⟩
theorem Row.below {B : Nat} {W W' : World} {v : Value} {l : List Ev} (h : Row B W v l) (hb : Below W.heap.size W W') : Row B W' v l :=
  ⟨h.1.kept (row := none) ⟨hb.os, hb.tape, hb.output, hb.size, fun k hk _ => hb.block k hk⟩ (Classical.em _), h.2⟩
theorem Row.C {B : Nat} {W : World} {v : Value} {l : List Ev} (h : Row B W v l) : ∃ g c, v = .slice (some ⟨g, 0, none⟩) l.length c ∧ l.length ≤ c ∧ Kd.C k28 W (some ⟨g, 0, none⟩) l.length l := by
  obtain ⟨g, c, rfl, _, _⟩ := h.slice
  have hR : Kd.R k28 28 W B (fun _ => True) (.slice (some ⟨g, 0, none⟩) l.length c) l := ⟨fun _ _ => trivial, evRow l, h.1, ev_reps W _ _ l⟩
  exact ⟨g, c, rfl, (Kd.R_reads' hR).2.1, (Kd.R_reads' hR).2.2⟩
theorem row_empty {B : Nat} {W : World} {c : Nat} (hB : B ≤ W.heap.size) : Row B (W.alloc (.cells #[] 28)) (.slice (some ⟨W.heap.size, 0, none⟩) 0 0) [] := by
  have := World.ownsRow_lit (base := B) (e := 28) (size := 7) W #[] 0 hB (by unfold maxLen; omega) (by simp)
  exact ⟨by simpa [evRow] using this, by simp⟩

theorem Row.own_lt {B : Nat} {W : World} {v : Value} {l : List Ev} (h : Row B W v l) {k : Nat} (e : v.ownBlock = some k) : B ≤ k ∧ k < W.heap.size := by
  obtain ⟨g, c, rfl, h1, h2⟩ := h.slice
  simp only [Value.ownBlock, Option.some.injEq] at e
  subst e
  exact ⟨h1, h2⟩
/-- Behind an append to a row of one's own. -/
theorem app_row {B n : Nat} {W W1 w5 : World} {v v5 : Value} {l new : List Ev} (h : Row B W v l) (hB : B ≤ W.heap.size) (hb : Below W.heap.size W W1) (hown : w5.ownsRow B 28 7 v5 (l.length + n) (evRow l ++ evRow new)) (hn : n = new.length) (hg : W1.grownBy w5 v.ownBlock)
    (hnil : v5 = .slice none 0 0 ↔ v = .slice none 0 0 ∧ n = 0) (hloc : v5.ownBlock = v.ownBlock ∨ v5.ownBlock = some W1.heap.size) :
    Row B w5 v5 (l ++ new) ∧ (∀ u lu, Row B W u lu → u.ownBlock ≠ v.ownBlock → Row B w5 u lu ∧ u.ownBlock ≠ v5.ownBlock) ∧ Below B W w5 := by
  subst hn
  have hs1 := hb.size
  refine ⟨⟨?_, fun e => h.2 (hnil.1 e).1⟩, ?_, ?_⟩
  · rw [List.length_append, evRow_append]
    exact hown
  · intro u lu hu hne
    refine ⟨(hu.below hb).kept hg hne, ?_⟩
    rcases hloc with e | e
    · rw [e]; exact hne
    · rw [e]
      intro e2
      have := hu.own_lt e2
      omega
  · refine (hb.mono hB).trans ⟨hg.os, hg.tape, hg.output, hg.size, ?_⟩
    intro k hk
    refine hg.block k (by omega) ?_
    intro e
    have := h.own_lt e.symm
    omega
theorem two_below (W : World) (o o' : Obj) : Below W.heap.size W ((W.alloc o).alloc o') := ((Below.refl _ W).alloc (Nat.le_refl _) o).alloc (by simp) o'
theorem map_take_succ (c : UInt8) (l : List Ev) (k : Nat) (h : k < l.length) : (l.take (k + 1)).map (named c) = (l.take k).map (named c) ++ [named c l[k]] := by
  rw [List.take_succ_eq_append_getElem h, List.map_append]; rfl
theorem evRow_one_ev (e : Ev) : evRow [e] = (evCells e).toList := by simp [evRow]
theorem news_two (wr : World) (o : Obj) (cs : Array Value) : ∀ (j : Nat) u, cs.toList[j]? = some u → ((wr.alloc o).alloc (.cells cs 28)).cell? ((⟨wr.heap.size + 1, 0, none⟩ : Addr).add j) = some u := by
  intro j u h
  have hh : ((wr.alloc o).alloc (.cells cs 28)).heap[wr.heap.size + 1]? = some (.cells cs 28) := by simpa using heap_alloc_new (wr.alloc o) (.cells cs 28)
  rw [show (⟨wr.heap.size + 1, 0, none⟩ : Addr).add j = ⟨wr.heap.size + 1, j, none⟩ by simp [Addr.add]; intro h; exact h.symm]
  exact (blk_cell hh j).trans (by simpa using h)
theorem ev_cells {W wr : World} {A : Option Addr} {l : List Ev} (hr : Kd.C k28 W A l.length l) (hb : Below W.heap.size W wr) (k : Nat) (h : k < l.length) : ∃ ad, A = some ad ∧ wr.cell? (ad.add (k * 7)) = some (.int .i64 l[k].f0) ∧
    wr.cell? ⟨(ad.add (k * 7)).block, (ad.add (k * 7)).off + 1, none⟩ = some (.int .i64 l[k].f1) ∧ wr.cell? ⟨(ad.add (k * 7)).block, (ad.add (k * 7)).off + 2, none⟩ = some (.int .i64 l[k].f2.f0) ∧
    wr.cell? ⟨(ad.add (k * 7)).block, (ad.add (k * 7)).off + 3, none⟩ = some (.string l[k].f2.f1) ∧ wr.cell? ⟨(ad.add (k * 7)).block, (ad.add (k * 7)).off + 4, none⟩ = some (.string l[k].f2.f2) ∧
    wr.cell? ⟨(ad.add (k * 7)).block, (ad.add (k * 7)).off + 5, none⟩ = some (.int .i64 l[k].f2.f3) ∧ wr.cell? ⟨(ad.add (k * 7)).block, (ad.add (k * 7)).off + 6, none⟩ = some (.int .i64 l[k].f2.f4) := by
  obtain ⟨ad, e, x0, x1, x2, x3, x4, x5, x6⟩ := at_T28 hr (k : Int) (by omega) (by omega)
  rw [rd_get l k h] at x0 x1 x2 x3 x4 x5 x6
  rw [Int.toNat_natCast] at *
  exact ⟨ad, e, (hb.cell (World.block_lt_of_cell? _ _ x0)).trans x0, (hb.cell (World.block_lt_of_cell? _ _ x1)).trans x1, (hb.cell (World.block_lt_of_cell? _ _ x2)).trans x2, (hb.cell (World.block_lt_of_cell? _ _ x3)).trans x3, (hb.cell (World.block_lt_of_cell? _ _ x4)).trans x4, (hb.cell (World.block_lt_of_cell? _ _ x5)).trans x5, (hb.cell (World.block_lt_of_cell? _ _ x6)).trans x6⟩

theorem row_news {B : Nat} {W : World} {g n c : Nat} {l : List Ev} (h : Row B W (.slice (some ⟨g, 0, none⟩) n c) l) (hl : l.length = n) : ∀ (j : Nat) u, (evRow l)[j]? = some u → W.cell? ((⟨g, 0, none⟩ : Addr).add j) = some u := by
  intro j u hj
  subst hl
  have hlt : j < l.length * 7 := by
    rw [← evRow_length]
    exact (List.getElem?_eq_some_iff.1 hj).1
  rw [show (⟨g, 0, none⟩ : Addr).add j = ⟨g, j, none⟩ by simp [Addr.add]; intro h; exact h.symm]
  exact (h.1.cellAt j hlt).trans hj
theorem row_own {B n : Nat} {W : World} {v : Value} {l : List Ev} (h : Row B W v l) (hl : l.length = n) : W.ownsRow B 28 7 v n (evRow l) := hl ▸ h.1
theorem counts_n {B g n c : Nat} {l : List Ev} {W : World} (h : Row B W (.slice (some ⟨g, 0, none⟩) n c) l) (hn : l.length = n) (hl : n ≤ 1000) {p : Array Value} (hp : countsV l.reverse = p) :
    Calls Try.prog 16 #[.slice (some ⟨g, 0, none⟩) n c] W fun e w' => e = .returned (.agg p) ∧ Below W.heap.size W w' := by
  subst hn
  subst hp
  obtain ⟨g', c', e, _, hC⟩ := h.C
  injection e with e1 e2 e3
  subst e3
  rw [← e1] at hC
  exact counts_calls _ _ l W hC hl
theorem counts_ex (X : List Ev) (h : X.length ≤ 60) : ∃ p0 p1 p2 p3 p4 : Int, countsV X.reverse = #[.int .i64 p0, .int .i64 p1, .int .i64 p2, .int .i64 p3, .int .i64 p4] ∧ (0 ≤ p0 ∧ p0 ≤ 60) ∧ (0 ≤ p1 ∧ p1 ≤ 60) ∧ (0 ≤ p2 ∧ p2 ≤ 60) ∧ (0 ≤ p3 ∧ p3 ≤ 60) ∧ (0 ≤ p4 ∧ p4 ≤ 60) := by
  have hb := fun k => countR_bd k X.reverse
  simp only [List.length_reverse] at hb
  exact ⟨_, _, _, _, _, rfl, by have := hb 0; omega, by have := hb 1; omega, by have := hb 2; omega, by have := hb 3; omega, by have := hb 4; omega⟩
theorem counts_add {X Y : List Ev} {p0 p1 p2 p3 p4 s0 s1 s2 s3 s4 : Int} (hp : countsV X.reverse = #[.int .i64 p0, .int .i64 p1, .int .i64 p2, .int .i64 p3, .int .i64 p4]) (hq : countsV Y.reverse = #[.int .i64 s0, .int .i64 s1, .int .i64 s2, .int .i64 s3, .int .i64 s4]) :
    countsV (X ++ Y).reverse = #[.int .i64 (p0 + s0), .int .i64 (p1 + s1), .int .i64 (p2 + s2), .int .i64 (p3 + s3), .int .i64 (p4 + s4)] := by
  simp only [countsV, countR_rev] at hp hq ⊢
  simp only [Array.mk.injEq, List.cons.injEq, Value.int.injEq, true_and, and_true] at hp hq
  obtain ⟨a0, a1, a2, a3, a4⟩ := hp
  obtain ⟨b0, b1, b2, b3, b4⟩ := hq
  rw [a0, a1, a2, a3, a4, b0, b1, b2, b3, b4]
theorem gaps_n {B g n c : Nat} {l : List Ev} {W : World} (f : Int) (h : Row B W (.slice (some ⟨g, 0, none⟩) n c) l) (hn : l.length = n) (hl : n ≤ 1000) (ok : ∀ e ∈ l, okEv e) :
    Calls Try.prog 13 #[.slice (some ⟨g, 0, none⟩) n c, .int .i64 f] W fun e w' => e = .returned (.bool (gapsB f l)) ∧ Below W.heap.size W w' := by
  subst hn
  obtain ⟨g', c', e, _, hC⟩ := h.C
  injection e with e1 e2 e3
  subst e3
  rw [← e1] at hC
  exact gaps_calls _ _ l f W hC hl ok
theorem three_below {B gz nz cz gx nx cx gy ny cy : Nat} {W W' : World} {X Y Z : List Ev} (h : Row B W (.slice (some ⟨gz, 0, none⟩) nz cz) Z ∧ Row B W (.slice (some ⟨gx, 0, none⟩) nx cx) X ∧ Row B W (.slice (some ⟨gy, 0, none⟩) ny cy) Y) (b : Below W.heap.size W W') :
    Row B W' (.slice (some ⟨gz, 0, none⟩) nz cz) Z ∧ Row B W' (.slice (some ⟨gx, 0, none⟩) nx cx) X ∧ Row B W' (.slice (some ⟨gy, 0, none⟩) ny cy) Y := ⟨h.1.below b, h.2.1.below b, h.2.2.below b⟩
theorem Row.of_heap {B : Nat} {W W' : World} {v : Value} {l : List Ev} (h : Row B W v l) (e : W'.heap = W.heap) : Row B W' v l := by
  refine ⟨⟨h.1.1, ?_⟩, h.2⟩
  rcases h.1.2 with a | ⟨g', cap, cur, a, b, c, d⟩
  · exact .inl a
  · exact .inr ⟨g', cap, cur, a, b, by rw [e]; exact c, d⟩
theorem three_heap {B gz nz cz gx nx cx gy ny cy : Nat} {W W' : World} {X Y Z : List Ev} (h : Row B W (.slice (some ⟨gz, 0, none⟩) nz cz) Z ∧ Row B W (.slice (some ⟨gx, 0, none⟩) nx cx) X ∧ Row B W (.slice (some ⟨gy, 0, none⟩) ny cy) Y) (e : W'.heap = W.heap) :
    Row B W' (.slice (some ⟨gz, 0, none⟩) nz cz) Z ∧ Row B W' (.slice (some ⟨gx, 0, none⟩) nx cx) X ∧ Row B W' (.slice (some ⟨gy, 0, none⟩) ny cy) Y := ⟨h.1.of_heap e, h.2.1.of_heap e, h.2.2.of_heap e⟩
theorem named_ok {m : List Ev} (h : ∀ e ∈ m, e.f2.f1.size ≤ 140737488351232 ∧ okEv e) (c : UInt8) : ∀ e ∈ m.map (named c), okEv e := by
  intro e he
  obtain ⟨e', he', rfl⟩ := List.mem_map.1 he
  obtain ⟨hs, h0, h1, h2, h3, h4, h5, h6⟩ := h e' he'
  refine ⟨h0, h1, h2, ?_, h4, h5, h6⟩
  simp only [named]
  rw [ByteArray.size_append]
  show 1 + e'.f2.f1.size ≤ _
  omega
theorem cell_alloc_of {W : World} {o : Obj} {a : Addr} {u : Value} (h : W.cell? a = some u) : (W.alloc o).cell? a = some u :=
  (((Below.refl W.heap.size W).alloc (Nat.le_refl _) o).cell (World.block_lt_of_cell? _ _ h)).trans h

set_option maxHeartbeats 8000000 in
set_option maxRecDepth 100000 in
theorem apart_law (A1 A2 : Option Addr) (c1 c2 : Nat) (l1 l2 : List Ev) (floor : Int) (W : World) (hr1 : Kd.C k28 W A1 l1.length l1) (hc1 : l1.length ≤ c1) (hok1 : ∀ e ∈ l1, e.f2.f1.size ≤ 140737488351232 ∧ okEv e)
    (hr2 : Kd.C k28 W A2 l2.length l2) (hc2 : l2.length ≤ c2) (hok2 : ∀ e ∈ l2, e.f2.f1.size ≤ 140737488351232 ∧ okEv e) :
    Calls Try.prog 7 #[.slice A1 l1.length c1, .slice A2 l2.length c2, .int .i64 floor] W fun e w' => e = .returned (.bool true) ∧ Below W.heap.size W w' := by
  obtain ⟨m1, hm1⟩ : ∃ m, m = l1.take 60 := ⟨_, rfl⟩
  obtain ⟨m2, hm2⟩ : ∃ m, m = l2.take 60 := ⟨_, rfl⟩
  obtain ⟨hs1, hl1⟩ := C_take60 hm1 hr1
  obtain ⟨hs2, hl2⟩ := C_take60 hm2 hr2
  have HOK1 := Aside0.mk (show ∀ e ∈ m1, e.f2.f1.size ≤ 140737488351232 ∧ okEv e from fun e he => hok1 e (List.mem_of_mem_take (hm1 ▸ he)))
  have HOK2 := Aside0.mk (show ∀ e ∈ m2, e.f2.f1.size ≤ 140737488351232 ∧ okEv e from fun e he => hok2 e (List.mem_of_mem_take (hm2 ▸ he)))
  have HCUT1 := Aside0.mk (cut_to60 A1 c1 l1 m1 hm1 W hr1 hc1)
  have HCUT2 := Aside0.mk (cut_to60 A2 c2 l2 m2 hm2 W hr2 hc2)
  clear hr1 hc1 hok1 hm1 hr2 hc2 hok2 hm2
  go_enter Try.func7, Try.ntmps7
  go_upto_region 2 with (first | (go_at_call 8; (with_reducible refine HCUT1.out.mono ?_); rintro e w5 ⟨d1, rfl, hd1, e5⟩; obtain rfl := e5.symm) | (go_at_call 8; (with_reducible refine HCUT2.out.mono ?_); rintro e w5 ⟨d2, rfl, hd2, e5⟩; obtain rfl := e5.symm))
  clear HCUT1 HCUT2
  go_wp2
  obtain ⟨i0, hi, hz0, hz1, hz2⟩ := info_parts info28
  go_loopw [7, 9] (fun v i wr => ∃ (k : Nat) (g c : Nat), v = .slice (some ⟨g, 0, none⟩) k c ∧ i = .int .i64 k ∧ k ≤ m1.length ∧ Aside0 (Row W.heap.size wr (.slice (some ⟨g, 0, none⟩) k c) ((m1.take k).map (named 97))) ∧ Aside0 (Row W.heap.size wr (.slice (some ⟨W.heap.size + 1, 0, none⟩) 0 0) []) ∧ Aside0 ((Value.slice (some ⟨W.heap.size + 1, 0, none⟩) 0 0).ownBlock ≠ (Value.slice (some ⟨g, 0, none⟩) k c).ownBlock) ∧ Below W.heap.size W wr) (fun _ i wr => m1.length - (intOf i).toNat)
  case atStart =>
    refine ⟨0, W.heap.size, 0, rfl, rfl, Nat.zero_le _, ⟨?_⟩, ⟨?_⟩, ⟨by simp [Value.ownBlock]⟩, ?_⟩
    · exact (row_empty (c := 0) (Nat.le_refl _)).below ((Below.refl _ _).alloc (Nat.le_refl _) _)
    · have := row_empty (B := W.heap.size) (W := W.alloc (.cells #[] 28)) (c := 0) (by simp)
      simpa using this
    · exact ((Below.refl _ W).alloc (Nat.le_refl _) _).alloc (by simp) _
  case round =>
    obtain ⟨k, g, c, rfl, rfl, hk, hrow, hy, hne, hb⟩ := hrel
    have hz := hb.size
    by_cases hlt : k < m1.length
    · obtain ⟨ad, e, x0, x1, x2, x3, x4, x5, x6⟩ := ev_cells hs1 hb k hlt
      cases e
      have HT := Aside0.mk (map_take_succ 97 m1 k hlt)
      have HSZ := Aside0.mk (show ((m1.take k).map (named 97)).length = k by rw [List.length_map, List.length_take]; omega)
      have HS := Aside0.mk (HOK1.out m1[k] (List.getElem_mem hlt)).1
      have q1 : ((k : Int) < (m1.length : Int)) = True := eq_true (by omega)
      have q2 : (0 ≤ (k : Int)) = True := eq_true (by omega)
      generalize m1[k] = ev at x0 x1 x2 x3 x4 x5 x6 HT HS
      have hown : wr.ownsRow W.heap.size 28 7 (.slice (some ⟨g, 0, none⟩) k c) k (evRow ((m1.take k).map (named 97))) := by
        have := hrow.out.1
        rw [HSZ.out] at this
        exact this
      have hs0 := HS.out
      have HONE := Aside0.mk (show ∀ u ∈ (evCells (named 97 ev)).toList, u.oneCell' = true from fun u hu => evRow_one [named 97 ev] u (by rw [evRow_one_ev]; exact hu))
      go_wp2_with (at_builtin; go_loud (refine wpList_append_own_at _ rfl _ _ 22 rfl W.heap.size 28 i0 _ 7 72 Try.underlying22 hi hz0 hz1 hz2 rfl (by decide) _ _ _ rfl ((hown.alloc _).alloc _) ⟨wr.heap.size + 1, 0, none⟩ 1 1 (evCells (named 97 ev)).toList rfl rfl (news_two _ _ _) HONE.out (by unfold maxLen; omega) (by omega) (by simp; omega) ?_); intro v5 w5 hown5 hgrow5 hnil5 hloc5)
      obtain ⟨r1, r2, r3⟩ := app_row (new := [named 97 ev]) hrow.out hz (two_below wr _ _) (by rw [HSZ.out, evRow_one_ev]; exact hown5) rfl hgrow5 hnil5 (hloc5.imp id fun e => e)
      obtain ⟨g5, c5, e5, _, _⟩ := r1.slice
      have e6 : ((m1.take k).map (named 97) ++ [named 97 ev]).length = k + 1 := by rw [List.length_append, HSZ.out]; rfl
      rw [e6] at e5
      clear e6
      subst e5
      obtain ⟨r4, r5⟩ := r2 _ _ hy.out hne.out
      go_roundw
      case rel => exact ⟨k + 1, g5, c5, rfl, by go_num, by omega, ⟨by rw [HT.out]; exact r1⟩, ⟨r4⟩, ⟨r5⟩, hb.trans r3⟩
      case measure => simp [intOf]; omega
    · obtain rfl : k = m1.length := by omega
      have q1 : ((m1.length : Int) < (m1.length : Int)) = False := eq_false (by omega)
      rw [List.take_length] at hrow
      clear q1 hlt hk
      obtain ⟨X, hX⟩ : ∃ X, X = m1.map (named 97) := ⟨_, rfl⟩
      have HXL := Aside0.mk (show X.length = m1.length by rw [hX, List.length_map])
      rw [← hX] at hrow
      have HX := Aside0.mk hX
      clear hX
      have q1 : ((m1.length : Int) < (m1.length : Int)) = False := eq_false (by omega)
      go_wp2
      clear q1
      obtain ⟨wo, rfl⟩ : ∃ wo : World, wo = wr := ⟨_, rfl⟩
      obtain ⟨i0, hi, hz0, hz1, hz2⟩ := info_parts info28
      go_loopw [8, 11] (fun v i wr => ∃ (k : Nat) (g2 c2 : Nat), v = .slice (some ⟨g2, 0, none⟩) k c2 ∧ i = .int .i64 k ∧ k ≤ m2.length ∧ Aside0 (Row W.heap.size wr (.slice (some ⟨g2, 0, none⟩) k c2) ((m2.take k).map (named 98))) ∧ Aside0 (Row W.heap.size wr (.slice (some ⟨g, 0, none⟩) m1.length c) X) ∧ Aside0 ((Value.slice (some ⟨g, 0, none⟩) m1.length c).ownBlock ≠ (Value.slice (some ⟨g2, 0, none⟩) k c2).ownBlock) ∧ Below W.heap.size W wr) (fun _ i wr => m2.length - (intOf i).toNat)
      case atStart => exact ⟨0, W.heap.size + 1, 0, rfl, rfl, Nat.zero_le _, hy, hrow, ⟨fun e => hne.out e.symm⟩, hb⟩
      case round =>
        clear hrow hy hne hb hz
        obtain ⟨k, g2, c2, rfl, rfl, hk, hrow, hy, hne, hb⟩ := hrel
        have hz := hb.size
        by_cases hlt : k < m2.length
        · obtain ⟨ad, e, x0, x1, x2, x3, x4, x5, x6⟩ := ev_cells hs2 hb k hlt
          cases e
          have HT := Aside0.mk (map_take_succ 98 m2 k hlt)
          have HSZ := Aside0.mk (show ((m2.take k).map (named 98)).length = k by rw [List.length_map, List.length_take]; omega)
          have HS := Aside0.mk (HOK2.out m2[k] (List.getElem_mem hlt)).1
          have q1 : ((k : Int) < (m2.length : Int)) = True := eq_true (by omega)
          have q2 : (0 ≤ (k : Int)) = True := eq_true (by omega)
          generalize m2[k] = ev at x0 x1 x2 x3 x4 x5 x6 HT HS
          have hown : wr.ownsRow W.heap.size 28 7 (.slice (some ⟨g2, 0, none⟩) k c2) k (evRow ((m2.take k).map (named 98))) := by
            have := hrow.out.1
            rw [HSZ.out] at this
            exact this
          have hs0 := HS.out
          have HONE := Aside0.mk (show ∀ u ∈ (evCells (named 98 ev)).toList, u.oneCell' = true from fun u hu => evRow_one [named 98 ev] u (by rw [evRow_one_ev]; exact hu))
          go_wp2_with (at_builtin; go_loud (refine wpList_append_own_at _ rfl _ _ 22 rfl W.heap.size 28 i0 _ 7 72 Try.underlying22 hi hz0 hz1 hz2 rfl (by decide) _ _ _ rfl ((hown.alloc _).alloc _) ⟨wr.heap.size + 1, 0, none⟩ 1 1 (evCells (named 98 ev)).toList rfl rfl (news_two _ _ _) HONE.out (by unfold maxLen; omega) (by omega) (by simp; omega) ?_); intro v5 w5 hown5 hgrow5 hnil5 hloc5)
          obtain ⟨r1, r2, r3⟩ := app_row (new := [named 98 ev]) hrow.out hz (two_below wr _ _) (by rw [HSZ.out, evRow_one_ev]; exact hown5) rfl hgrow5 hnil5 (hloc5.imp id fun e => e)
          obtain ⟨g5, c5, e5, _, _⟩ := r1.slice
          have e6 : ((m2.take k).map (named 98) ++ [named 98 ev]).length = k + 1 := by rw [List.length_append, HSZ.out]; rfl
          rw [e6] at e5
          clear e6
          subst e5
          obtain ⟨r4, r5⟩ := r2 _ _ hy.out hne.out
          go_roundw
          case rel => exact ⟨k + 1, g5, c5, rfl, by go_num, by omega, ⟨by rw [HT.out]; exact r1⟩, ⟨r4⟩, ⟨r5⟩, hb.trans r3⟩
          case measure => simp [intOf]; omega
        · obtain rfl : k = m2.length := by omega
          rw [List.take_length] at hrow
          clear hlt hk
          obtain ⟨Y, hY⟩ : ∃ Y, Y = m2.map (named 98) := ⟨_, rfl⟩
          have HYL := Aside0.mk (show Y.length = m2.length by rw [hY, List.length_map])
          rw [← hY] at hrow
          have HY := Aside0.mk hY
          clear hY
          have hNX := Aside0.mk (show ∀ j u, (evRow X)[j]? = some u → wr.cell? ((⟨g, 0, none⟩ : Addr).add j) = some u from row_news hy.out HXL.out)
          have hNY := Aside0.mk (show ∀ j u, (evRow Y)[j]? = some u → wr.cell? ((⟨g2, 0, none⟩ : Addr).add j) = some u from row_news hrow.out HYL.out)
          have LX := Aside0.mk (show (evRow X).length = m1.length * 7 by rw [evRow_length, HXL.out])
          have LY := Aside0.mk (show (evRow Y).length = m2.length * 7 by rw [evRow_length, HYL.out])
          have q1 : ((m2.length : Int) < (m2.length : Int)) = False := eq_false (by omega)
          have hE : Row W.heap.size (wr.alloc (.cells #[] 28)) (.slice (some ⟨wr.heap.size, 0, none⟩) 0 0) [] := row_empty (c := 0) hz
          have hyE := hy.out.below ((Below.refl _ wr).alloc (Nat.le_refl _) (.cells #[] 28))
          have hrE := hrow.out.below ((Below.refl _ wr).alloc (Nat.le_refl _) (.cells #[] 28))
          have nyE : (Value.slice (some ⟨g, 0, none⟩) m1.length c).ownBlock ≠ (Value.slice (some ⟨wr.heap.size, 0, none⟩) 0 0).ownBlock := by
            have := (hy.out.own_lt (k := g) rfl).2
            simp [Value.ownBlock]; omega
          have nrE : (Value.slice (some ⟨g2, 0, none⟩) m2.length c2).ownBlock ≠ (Value.slice (some ⟨wr.heap.size, 0, none⟩) 0 0).ownBlock := by
            have := (hrow.out.own_lt (k := g2) rfl).2
            simp [Value.ownBlock]; omega
          have he : (wr.alloc (.cells #[] 28)).ownsRow W.heap.size 28 7 (.slice (some ⟨wr.heap.size, 0, none⟩) 0 0) 0 [] := hE.1
          have HE := Aside0.mk (And.intro hE (And.intro hyE (And.intro hrE (And.intro nyE nrE))))
          have HNX2 := Aside0.mk (row_news hyE HXL.out)
          have bE := hb.alloc hz (.cells #[] 28)
          have zE := bE.size
          clear hE hyE hrE nyE nrE hNX hNY hy hrow hne hb
          go_upto_region 16 with (first
            | ((with_reducible refine gate_builtin (b := .append) (xs := #[.tmp 64, .tmp 65]) rfl ?_); go_loud (refine wpList_append_own_at _ rfl _ _ 22 rfl W.heap.size 28 i0 _ 7 72 Try.underlying22 hi hz0 hz1 hz2 rfl (by decide) _ _ _ rfl he ⟨g, 0, none⟩ m1.length c (evRow X) rfl LX.out HNX2.out (evRow_one X) (by unfold maxLen; omega) (by omega) (by simp; omega) ?_; intro v5 w5 hown5 hgrow5 hnil5 hloc5; obtain ⟨r1, r2, r3⟩ := app_row (new := X) HE.out.1 zE (Below.refl _ _) (by simpa [evRow] using hown5) HXL.out.symm hgrow5 hnil5 (hloc5.imp id fun e => e); obtain ⟨ry, ny⟩ := r2 _ _ HE.out.2.1 HE.out.2.2.2.1; obtain ⟨rr, nr⟩ := r2 _ _ HE.out.2.2.1 HE.out.2.2.2.2; obtain ⟨g5, c5, e5, _, _⟩ := r1.slice; rw [List.nil_append, HXL.out] at e5; subst e5; rw [List.nil_append] at r1; have b5 := bE.trans r3; have z5 := b5.size; have he5 : w5.ownsRow W.heap.size 28 7 (.slice (some ⟨g5, 0, none⟩) m1.length c5) m1.length (evRow X) := row_own r1 HXL.out; have HE5 := Aside0.mk (And.intro r1 (And.intro ry (And.intro rr (And.intro ny nr)))); have HNY5 := Aside0.mk (row_news rr HYL.out); clear r1 r2 r3 ry ny rr nr HE he HNX2 bE zE hown5 hgrow5 hnil5 hloc5))
            | ((with_reducible refine gate_builtin (b := .append) (xs := #[.tmp 66, .tmp 67]) rfl ?_); go_loud (refine wpList_append_own_at _ rfl _ _ 22 rfl W.heap.size 28 i0 _ 7 72 Try.underlying22 hi hz0 hz1 hz2 rfl (by decide) _ _ _ rfl he5 ⟨g2, 0, none⟩ m2.length c2 (evRow Y) rfl LY.out HNY5.out (evRow_one Y) (by unfold maxLen; omega) (by omega) (by omega) ?_; intro v6 w6 hown6 hgrow6 hnil6 hloc6; obtain ⟨r1, r2, r3⟩ := app_row (new := Y) HE5.out.1 z5 (Below.refl _ _) (by rw [HXL.out]; exact hown6) HYL.out.symm hgrow6 hnil6 (hloc6.imp id fun e => e); obtain ⟨ry, ny⟩ := r2 _ _ HE5.out.2.1 HE5.out.2.2.2.1; obtain ⟨rr, nr⟩ := r2 _ _ HE5.out.2.2.1 HE5.out.2.2.2.2; obtain ⟨g6, c6, e6, _, _⟩ := r1.slice; rw [List.length_append, HXL.out, HYL.out] at e6; subst e6; have b6 := b5.trans r3; have z6 := b6.size; have HE6 := Aside0.mk (And.intro r1 (And.intro ry rr)); clear r1 r2 r3 ry ny rr nr HE5 he5 HNY5 b5 z5 hown6 hgrow6 hnil6 hloc6)))
          have ZL := Aside0.mk (show (X ++ Y).length = m1.length + m2.length by rw [List.length_append, HXL.out, HYL.out])
          obtain ⟨p0, p1, p2, p3, p4, hp, hpb⟩ := counts_ex X (by rw [HXL.out]; omega)
          obtain ⟨s0, s1, s2, s3, s4, hq, hqb⟩ := counts_ex Y (by rw [HYL.out]; omega)
          have HP := Aside0.mk hp
          have HQ := Aside0.mk hq
          have HZ := Aside0.mk (counts_add hp hq)
          clear hp hq
          go_upto_region 17 with (first
            | (go_at_call 16; (with_reducible refine (counts_n HE6.out.2.1 HXL.out (by omega) HP.out).mono ?_); rintro e w7 ⟨rfl, b0⟩; have b7 := b6.trans (b0.mono z6); have H7 := Aside0.mk (three_below HE6.out b0); clear HE6 b6 z6 b0; have HE6 := H7; have b6 := b7; have z6 := b6.size; clear H7 b7)
            | (go_at_call 16; (with_reducible refine (counts_n HE6.out.2.2 HYL.out (by omega) HQ.out).mono ?_); rintro e w7 ⟨rfl, b0⟩; have b7 := b6.trans (b0.mono z6); have H7 := Aside0.mk (three_below HE6.out b0); clear HE6 b6 z6 b0; have HE6 := H7; have b6 := b7; have z6 := b6.size; clear H7 b7)
            | (go_at_call 16; (with_reducible refine (counts_n HE6.out.1 ZL.out (by omega) HZ.out).mono ?_); rintro e w7 ⟨rfl, b0⟩; have b7 := b6.trans (b0.mono z6); have H7 := Aside0.mk (three_below HE6.out b0); clear HE6 b6 z6 b0; have HE6 := H7; have b6 := b7; have z6 := b6.size; clear H7 b7))
          have HE8 := Aside0.mk (three_below HE6.out ((((Below.refl _ w7).alloc (Nat.le_refl _) (.cells #[.int .i64 p0, .int .i64 p1, .int .i64 p2, .int .i64 p3, .int .i64 p4] 34)).alloc (by simp) (.cells #[.int .i64 s0, .int .i64 s1, .int .i64 s2, .int .i64 s3, .int .i64 s4] 34)).alloc (by simp; omega) (.cells #[.int .i64 (p0 + s0), .int .i64 (p1 + s1), .int .i64 (p2 + s2), .int .i64 (p3 + s3), .int .i64 (p4 + s4)] 34)))
          have b8 := ((b6.alloc z6 (.cells #[.int .i64 p0, .int .i64 p1, .int .i64 p2, .int .i64 p3, .int .i64 p4] 34)).alloc (by simp; omega) (.cells #[.int .i64 s0, .int .i64 s1, .int .i64 s2, .int .i64 s3, .int .i64 s4] 34)).alloc (by simp; omega) (.cells #[.int .i64 (p0 + s0), .int .i64 (p1 + s1), .int .i64 (p2 + s2), .int .i64 (p3 + s3), .int .i64 (p4 + s4)] 34)
          have BP := Aside0.mk (blk_alloc (blk_alloc (blk_new w7 (.cells #[.int .i64 p0, .int .i64 p1, .int .i64 p2, .int .i64 p3, .int .i64 p4] 34)) (.cells #[.int .i64 s0, .int .i64 s1, .int .i64 s2, .int .i64 s3, .int .i64 s4] 34)) (.cells #[.int .i64 (p0 + s0), .int .i64 (p1 + s1), .int .i64 (p2 + s2), .int .i64 (p3 + s3), .int .i64 (p4 + s4)] 34))
          have BQ : Aside0 ((((w7.alloc (.cells #[.int .i64 p0, .int .i64 p1, .int .i64 p2, .int .i64 p3, .int .i64 p4] 34)).alloc (.cells #[.int .i64 s0, .int .i64 s1, .int .i64 s2, .int .i64 s3, .int .i64 s4] 34)).alloc (.cells #[.int .i64 (p0 + s0), .int .i64 (p1 + s1), .int .i64 (p2 + s2), .int .i64 (p3 + s3), .int .i64 (p4 + s4)] 34)).heap[w7.heap.size + 1]? = some (.cells #[.int .i64 s0, .int .i64 s1, .int .i64 s2, .int .i64 s3, .int .i64 s4] 34)) := ⟨by simpa using blk_alloc (blk_new (w7.alloc (.cells #[.int .i64 p0, .int .i64 p1, .int .i64 p2, .int .i64 p3, .int .i64 p4] 34)) (.cells #[.int .i64 s0, .int .i64 s1, .int .i64 s2, .int .i64 s3, .int .i64 s4] 34)) (.cells #[.int .i64 (p0 + s0), .int .i64 (p1 + s1), .int .i64 (p2 + s2), .int .i64 (p3 + s3), .int .i64 (p4 + s4)] 34)⟩
          have BR : Aside0 ((((w7.alloc (.cells #[.int .i64 p0, .int .i64 p1, .int .i64 p2, .int .i64 p3, .int .i64 p4] 34)).alloc (.cells #[.int .i64 s0, .int .i64 s1, .int .i64 s2, .int .i64 s3, .int .i64 s4] 34)).alloc (.cells #[.int .i64 (p0 + s0), .int .i64 (p1 + s1), .int .i64 (p2 + s2), .int .i64 (p3 + s3), .int .i64 (p4 + s4)] 34)).heap[w7.heap.size + 1 + 1]? = some (.cells #[.int .i64 (p0 + s0), .int .i64 (p1 + s1), .int .i64 (p2 + s2), .int .i64 (p3 + s3), .int .i64 (p4 + s4)] 34)) := ⟨by simpa using blk_new ((w7.alloc (.cells #[.int .i64 p0, .int .i64 p1, .int .i64 p2, .int .i64 p3, .int .i64 p4] 34)).alloc (.cells #[.int .i64 s0, .int .i64 s1, .int .i64 s2, .int .i64 s3, .int .i64 s4] 34)) (.cells #[.int .i64 (p0 + s0), .int .i64 (p1 + s1), .int .i64 (p2 + s2), .int .i64 (p3 + s3), .int .i64 (p4 + s4)] 34)⟩
          clear HE6 b6 z6
          generalize ((w7.alloc (.cells #[.int .i64 p0, .int .i64 p1, .int .i64 p2, .int .i64 p3, .int .i64 p4] 34)).alloc (.cells #[.int .i64 s0, .int .i64 s1, .int .i64 s2, .int .i64 s3, .int .i64 s4] 34)).alloc (.cells #[.int .i64 (p0 + s0), .int .i64 (p1 + s1), .int .i64 (p2 + s2), .int .i64 (p3 + s3), .int .i64 (p4 + s4)] 34) = w8 at *
          generalize w7.heap.size = ga at *
          obtain ⟨hb0, hb1, hb2, hb3, hb4⟩ := hpb
          obtain ⟨hc0, hc1, hc2, hc3, hc4⟩ := hqb
          go_wp2
          go_loopw [17] (fun i wr => ∃ (k : Nat), i = .int .i64 k ∧ k ≤ 5 ∧ Aside0 (wr.heap = w8.heap) ∧ Below W.heap.size W wr) (fun i wr => 5 - (intOf i).toNat)
          case atStart => exact ⟨0, rfl, by omega, ⟨rfl⟩, b8⟩
          case round =>
            obtain ⟨k, rfl, hk, hheap, hb9⟩ := hrel
            by_cases h5 : k < 5
            · have hs5 : k = 0 ∨ k = 1 ∨ k = 2 ∨ k = 3 ∨ k = 4 := by omega
              rcases hs5 with rfl | rfl | rfl | rfl | rfl
              · have y0 := (blk_cell (hheap.out ▸ BP.out) 0).trans (show _ = some (Value.int .i64 p0) from rfl)
                have y1 := (blk_cell (hheap.out ▸ BQ.out) 0).trans (show _ = some (Value.int .i64 s0) from rfl)
                have y2 := (blk_cell (hheap.out ▸ BR.out) 0).trans (show _ = some (Value.int .i64 (p0 + s0)) from rfl)
                go_wp2
                go_quiet (fail)
                go_wp2
                go_roundw
                case rel => exact ⟨0 + 1, by simp, by omega, ⟨(drewN_h _ _).trans hheap.out⟩, hb9.trans (drewN_b _ _ _)⟩
                case measure => simp [intOf]
              · have y0 := (blk_cell (hheap.out ▸ BP.out) 1).trans (show _ = some (Value.int .i64 p1) from rfl)
                have y1 := (blk_cell (hheap.out ▸ BQ.out) 1).trans (show _ = some (Value.int .i64 s1) from rfl)
                have y2 := (blk_cell (hheap.out ▸ BR.out) 1).trans (show _ = some (Value.int .i64 (p1 + s1)) from rfl)
                go_wp2
                go_quiet (fail)
                go_wp2
                go_roundw
                case rel => exact ⟨1 + 1, by simp, by omega, ⟨(drewN_h _ _).trans hheap.out⟩, hb9.trans (drewN_b _ _ _)⟩
                case measure => simp [intOf]
              · have y0 := (blk_cell (hheap.out ▸ BP.out) 2).trans (show _ = some (Value.int .i64 p2) from rfl)
                have y1 := (blk_cell (hheap.out ▸ BQ.out) 2).trans (show _ = some (Value.int .i64 s2) from rfl)
                have y2 := (blk_cell (hheap.out ▸ BR.out) 2).trans (show _ = some (Value.int .i64 (p2 + s2)) from rfl)
                go_wp2
                go_quiet (fail)
                go_wp2
                go_roundw
                case rel => exact ⟨2 + 1, by simp, by omega, ⟨(drewN_h _ _).trans hheap.out⟩, hb9.trans (drewN_b _ _ _)⟩
                case measure => simp [intOf]
              · have y0 := (blk_cell (hheap.out ▸ BP.out) 3).trans (show _ = some (Value.int .i64 p3) from rfl)
                have y1 := (blk_cell (hheap.out ▸ BQ.out) 3).trans (show _ = some (Value.int .i64 s3) from rfl)
                have y2 := (blk_cell (hheap.out ▸ BR.out) 3).trans (show _ = some (Value.int .i64 (p3 + s3)) from rfl)
                go_wp2
                go_quiet (fail)
                go_wp2
                go_roundw
                case rel => exact ⟨3 + 1, by simp, by omega, ⟨(drewN_h _ _).trans hheap.out⟩, hb9.trans (drewN_b _ _ _)⟩
                case measure => simp [intOf]
              · have y0 := (blk_cell (hheap.out ▸ BP.out) 4).trans (show _ = some (Value.int .i64 p4) from rfl)
                have y1 := (blk_cell (hheap.out ▸ BQ.out) 4).trans (show _ = some (Value.int .i64 s4) from rfl)
                have y2 := (blk_cell (hheap.out ▸ BR.out) 4).trans (show _ = some (Value.int .i64 (p4 + s4)) from rfl)
                go_wp2
                go_quiet (fail)
                go_wp2
                go_roundw
                case rel => exact ⟨4 + 1, by simp, by omega, ⟨(drewN_h _ _).trans hheap.out⟩, hb9.trans (drewN_b _ _ _)⟩
                case measure => simp [intOf]
            · obtain rfl : k = 5 := by omega
              have HG := Aside0.mk (show gapsB floor (X ++ Y) = (gapsB floor X && gapsB floor Y) by
                apply gapsB_apart
                intro e he g hg
                rw [HX.out] at he
                rw [HY.out] at hg
                obtain ⟨e', _, rfl⟩ := List.mem_map.1 he
                obtain ⟨g', _, rfl⟩ := List.mem_map.1 hg
                exact named_ne _ _)
              have HE6 : Aside0 (Row W.heap.size wr (.slice (some ⟨g6, 0, none⟩) (m1.length + m2.length) c6) (X ++ Y) ∧ Row W.heap.size wr (.slice (some ⟨g, 0, none⟩) m1.length c) X ∧ Row W.heap.size wr (.slice (some ⟨g2, 0, none⟩) m2.length c2) Y) := ⟨three_heap HE8.out hheap.out⟩
              have OX := Aside0.mk (show ∀ e ∈ X, okEv e from fun e he => named_ok (fun e he => HOK1.out e he) 97 e (HX.out ▸ he))
              have OY := Aside0.mk (show ∀ e ∈ Y, okEv e from fun e he => named_ok (fun e he => HOK2.out e he) 98 e (HY.out ▸ he))
              have OZ := Aside0.mk (show ∀ e ∈ X ++ Y, okEv e from fun e he => (List.mem_append.1 he).elim (OX.out e) (OY.out e))
              have HB9 := Aside0.mk hb9
              clear hb9 hheap HE8 BP BQ BR
              obtain ⟨ba, hba⟩ : ∃ b, gapsB floor X = b := ⟨_, rfl⟩
              obtain ⟨bb, hbb⟩ : ∃ b, gapsB floor Y = b := ⟨_, rfl⟩
              rw [hba, hbb] at HG
              have HA := Aside0.mk hba
              have HBB := Aside0.mk hbb
              clear hba hbb
              cases ba <;> cases bb
              all_goals
                go_wp2_with (first
                  | (go_at_call 12; (with_reducible refine (awake_calls _).mono ?_); rintro e w7 ⟨rfl, b0⟩; have b9 := HB9.out.trans (b0.mono HB9.out.size); have H7 := Aside0.mk (three_below HE6.out b0); clear HE6 HB9 b0; have HE6 := H7; have HB9 := Aside0.mk b9; clear H7 b9)
                  | (go_at_call 13; (with_reducible refine (gaps_n floor HE6.out.1 ZL.out (by omega) OZ.out).mono ?_); rintro e w7 ⟨rfl, b0⟩; rw [HG.out]; have b9 := HB9.out.trans (b0.mono HB9.out.size); have H7 := Aside0.mk (three_below HE6.out b0); clear HE6 HB9 b0; have HE6 := H7; have HB9 := Aside0.mk b9; clear H7 b9)
                  | (go_at_call 13; (with_reducible refine (gaps_n floor HE6.out.2.1 HXL.out (by omega) OX.out).mono ?_); rintro e w7 ⟨rfl, b0⟩; rw [HA.out]; have b9 := HB9.out.trans (b0.mono HB9.out.size); have H7 := Aside0.mk (three_below HE6.out b0); clear HE6 HB9 b0; have HE6 := H7; have HB9 := Aside0.mk b9; clear H7 b9)
                  | (go_at_call 13; (with_reducible refine (gaps_n floor HE6.out.2.2 HYL.out (by omega) OY.out).mono ?_); rintro e w7 ⟨rfl, b0⟩; rw [HBB.out]; have b9 := HB9.out.trans (b0.mono HB9.out.size); have H7 := Aside0.mk (three_below HE6.out b0); clear HE6 HB9 b0; have HE6 := H7; have HB9 := Aside0.mk b9; clear H7 b9))
                go_ret
                exact ⟨rfl, HB9.out⟩
end Go.Proofs.Ytaggkdnnnmbblaa.Given
