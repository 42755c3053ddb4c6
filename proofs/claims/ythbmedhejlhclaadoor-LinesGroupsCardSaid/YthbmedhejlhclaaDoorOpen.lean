/- Opening arguments: a value that reads as data at a type is of that type's kind, and its numbers fit; for bools, integers, strings, structs and slices of these; no condition. -/
import Derived.Test.YthbmedhejlhclaaDoorWMore
import Derived.SizedLaws
import Derived.ChangeSlices
import Derived.ChangeArms
import Derived.ChangeSame
import Derived.DataElems
namespace Go.Proofs.YthbmedhejlhclaaDoor.Open
open Go.RowKit Go.Proofs.YthbmedhejlhclaaDoorW.PrintWords
set_option linter.unusedVariables false
/-- Whatever reads as data at type t is of the kind d, and good. -/
def Opens {α : Type} (P : Program) (t : TypeId) (d : Kd α) (good : α → Prop) : Prop :=
  d.sz = P.cellsOf t ∧ ∀ (H : Type) (enc : TypeId × Value → H) (w : World) (base : Nat) (spare : Nat → Bool) (held : Bool) (fuel : Nat) (cs : List Value) (D : DataW H) (ps : List MemPlace),
    DataW.trod enc P w base spare held fuel t cs = some (D, ps) → (∀ n ∈ D.weights P t, n ≤ reachBytes) → ∃ x, d.K w x cs ∧ good x
theorem Opens.mono {α : Type} {P : Program} {t : TypeId} {d : Kd α} {g g' : α → Prop} (h : Opens P t d g) (hg : ∀ x, g x → g' x) : Opens P t d g' :=
  ⟨h.1, fun H enc w base spare held fuel cs D ps ht hw => by
    obtain ⟨x, hx, gx⟩ := h.2 H enc w base spare held fuel cs D ps ht hw
    exact ⟨x, hx, hg x gx⟩⟩
theorem opens_int {P : Program} {t : TypeId} {k : IntKind} (hu : P.underlying t = some (.int k)) (hc : P.cellsOf t = 1) : Opens P t (Kd.int k) (fun x => (Lit.int k x).wf = true) :=
  ⟨hc.symm, fun H enc w base spare held fuel cs D ps ht hw => by
    obtain ⟨n, rfl, _, hn⟩ := DataW.trod_int hu ht
    exact ⟨n, rfl, hn⟩⟩
theorem opens_bool {P : Program} {t : TypeId} (hu : P.underlying t = some .bool) (hc : P.cellsOf t = 1) : Opens P t Kd.bool (fun _ => True) :=
  ⟨hc.symm, fun H enc w base spare held fuel cs D ps ht hw => by
    obtain ⟨b, rfl, _⟩ := DataW.trod_bool hu ht
    exact ⟨b, rfl, trivial⟩⟩
theorem opens_string {P : Program} {t : TypeId} (hu : P.underlying t = some .string) (hc : P.cellsOf t = 1) : Opens P t Kd.string (fun x => x.size ≤ 140737488351232) :=
  ⟨hc.symm, fun H enc w base spare held fuel cs D ps ht hw => by
    obtain ⟨s, rfl, hx, _⟩ := DataW.trod_string hu ht
    obtain ⟨rfl, _⟩ := Prod.mk.inj hx
    refine ⟨s, rfl, ?_⟩
    have := hw s.data.toList.length (by simp [DataW.weights])
    rw [data_length] at this
    exact this⟩
theorem exists_list {α : Type} (Q : Nat → α → Prop) : ∀ n, (∀ i, i < n → ∃ x, Q i x) → ∃ l : List α, l.length = n ∧ ∀ i x, l[i]? = some x → Q i x
  | 0, _ => ⟨[], rfl, fun i x h => by simp at h⟩
  | n + 1, h => by
    obtain ⟨l, hl, hq⟩ := exists_list Q n (fun i hi => h i (by omega))
    obtain ⟨x, hx⟩ := h n (by omega)
    refine ⟨l ++ [x], by simp [hl], fun i y hy => ?_⟩
    by_cases hi : i < n
    · rw [List.getElem?_append_left (by omega)] at hy
      exact hq i y hy
    · have hlt := (List.getElem?_eq_some_iff.1 hy).1
      have : i = n := by simp [hl] at hlt; omega
      subst this
      rw [List.getElem?_append_right (by omega), hl] at hy
      simp at hy
      exact hy ▸ hx
theorem cells_at {w : World} {base n : Nat} {a : Addr} {cs : List Value} (h : w.cells? base a n = some cs) : cs.length = n ∧ ∀ i u, cs[i]? = some u → w.cell? (a.add i) = some u := by
  unfold World.cells? at h
  split at h
  · have hl := mapM_some_length h
    simp only [List.length_range] at hl
    refine ⟨hl, fun i u hu => ?_⟩
    have hi := (List.getElem?_eq_some_iff.1 hu).1
    have := mapM_some_get h i i (by rw [List.getElem?_range (by omega)])
    rw [this, hu]
  · cases h
theorem weightsAll_mem {H : Type} {P : Program} {e : TypeId} : ∀ {l : List (DataW H)} {d : DataW H} {n : Nat}, d ∈ l → n ∈ d.weights P e → n ∈ DataW.weightsAll P e l
  | a :: l, d, n, hd, hn => by
    simp only [DataW.weightsAll, List.mem_append]
    rcases List.mem_cons.1 hd with rfl | hd
    · exact Or.inl hn
    · exact Or.inr (weightsAll_mem hd hn)
theorem opens_slice {α : Type} {P : Program} {t e : TypeId} {d : Kd α} {good : α → Prop} (hu : P.underlying t = some (.slice e)) (hc : P.cellsOf t = 1) {b : Nat} (hb : P.bytesOf e = b) (ho : Opens P e d good) :
    Opens P t (Kd.slice e d) (fun l => l.length * b ≤ 140737488351232 ∧ l.length ≤ maxLen ∧ ∀ x ∈ l, good x) :=
  ⟨hc.symm, fun H enc w base spare held fuel cs D ps ht hw => by
    rcases DataW.trod_slice hu ht with ⟨rfl, _⟩ | ⟨a, len, cap, elems, rest, n, _, rfl, hx, hbb, hl, hm, hlen, hel, _, _⟩
    · exact ⟨[], ⟨none, 0, rfl, Nat.le_refl _, Kd.C_nil d w⟩, by simp, by simp, fun x hx => by simp at hx⟩
    · obtain ⟨rfl, _⟩ := Prod.mk.inj hx
      have hs : (elems.length + rest.length) * b ≤ reachBytes := by
        have := hw ((elems.length + rest.length) * P.bytesOf e) (by simp [DataW.weights, hu])
        rw [hb] at this
        exact this
      have each : ∀ i, i < len → ∃ x, good x ∧ ∃ c, c.length = d.sz ∧ d.K w x c ∧ ∀ j u, c[j]? = some u → w.cell? (a.add (i * d.sz + j)) = some u := by
        intro i hi
        have h1 := hel i hi
        have hi2 : i < elems.length := by omega
        rw [List.getElem?_eq_getElem hi2, Option.bind_eq_some_iff] at h1
        obtain ⟨c, hcs, htr⟩ := h1
        obtain ⟨x, hK, hg⟩ := ho.2 H enc w base spare held n c elems[i].1 elems[i].2 htr (fun m hm => by
          refine hw m ?_
          simp only [DataW.weights, hu, List.mem_cons, List.mem_append]
          exact Or.inr (Or.inl (weightsAll_mem (List.mem_map_of_mem (List.getElem_mem hi2)) hm)))
        obtain ⟨hl1, hcell⟩ := cells_at hcs
        refine ⟨x, hg, c, by rw [ho.1]; exact hl1, hK, fun j u hu => ?_⟩
        have := hcell j u hu
        rw [Addr.add_add] at this
        rw [ho.1]
        exact this
      obtain ⟨l, hl1, hq⟩ := exists_list _ len each
      have hcap : len * b ≤ 140737488351232 := by
        have h2 : len * b ≤ (elems.length + rest.length) * b := Nat.mul_le_mul_right _ (by omega)
        have h3 : reachBytes = 140737488351232 := rfl
        omega
      subst hl1
      refine ⟨l, ⟨some a, cap, rfl, hl, rfl, by unfold maxLen at hm; omega, fun _ => ⟨a, rfl, fun j p hj => (hq j p hj).2⟩⟩, hcap, by omega, fun x hx => ?_⟩
      obtain ⟨i, hi⟩ := List.getElem?_of_mem hx
      exact (hq i x hi).1⟩
/-- The same of a struct's fields, from one on. -/
def OpensF {α : Type} (P : Program) (fs : List Field) (o : Nat) (d : Kd α) (good : α → Prop) : Prop :=
  ∀ (H : Type) (enc : TypeId × Value → H) (w : World) (base : Nat) (spare : Nat → Bool) (held : Bool) (fuel : Nat) (cs : List Value) (xs : List (DataW H × List MemPlace)),
    o + d.sz = cs.length → xs.length = fs.length → (∀ (i : Nat) (f : Field), fs[i]? = some f → DataW.trod enc P w base spare held fuel f.type ((cs.drop f.offset).take (P.cellsOf f.type)) = xs[i]?) →
    (∀ n ∈ DataW.weightsEach P (fs.map (·.type)) (xs.map (·.1)), n ≤ reachBytes) → ∃ x, d.K w x (cs.drop o) ∧ good x
theorem opensF_one {α : Type} {P : Program} {f : Field} {o : Nat} {d : Kd α} {good : α → Prop} (hf : f.offset = o) (h : Opens P f.type d good) : OpensF P [f] o d good := by
  intro H enc w base spare held fuel cs xs hl hx ht hw
  match xs, hx with
  | [y], _ =>
    have h0 := ht 0 f rfl
    rw [hf, List.take_of_length_le (by rw [List.length_drop, ← h.1]; omega)] at h0
    refine h.2 H enc w base spare held fuel _ y.1 y.2 h0 (fun n hn => hw n ?_)
    simp [DataW.weightsEach, hn]
theorem opensF_cons {α β : Type} {P : Program} {f : Field} {fs : List Field} {o : Nat} {a : Kd α} {b : Kd β} {ga : α → Prop} {gb : β → Prop} (hf : f.offset = o) (h : Opens P f.type a ga) (hr : OpensF P fs (o + a.sz) b gb) :
    OpensF P (f :: fs) o (Kd.pair a b) (fun x => ga x.1 ∧ gb x.2) := by
  intro H enc w base spare held fuel cs xs hl hx ht hw
  have hl2 : o + (a.sz + b.sz) = cs.length := hl
  match xs, hx with
  | y :: ys, hx =>
    have h0 := ht 0 f rfl
    rw [hf] at h0
    obtain ⟨x0, k0, g0⟩ := h.2 H enc w base spare held fuel _ y.1 y.2 h0 (fun n hn => hw n (by simp [DataW.weightsEach, hn]))
    obtain ⟨x1, k1, g1⟩ := hr H enc w base spare held fuel cs ys (by omega) (by simpa using hx) (fun i f' hi => ht (i + 1) f' (by simpa using hi)) (fun n hn => hw n (by simp [DataW.weightsEach, hn]))
    refine ⟨(x0, x1), ⟨_, _, ?_, k0, k1⟩, g0, g1⟩
    rw [← h.1, ← List.drop_drop, List.take_append_drop]
theorem opens_struct {α : Type} {P : Program} {t : TypeId} {fs : Array Field} {d : Kd α} {good : α → Prop} (hu : P.underlying t = some (.struct fs)) (hc : P.cellsOf t = d.sz) (h : OpensF P fs.toList 0 d good) : Opens P t d good :=
  ⟨hc.symm, fun H enc w base spare held fuel cs D ps ht hw => by
    obtain ⟨xs, n, _, hx, hl, hlen, hf⟩ := DataW.trod_struct hu ht
    obtain ⟨rfl, _⟩ := Prod.mk.inj hx
    have := h H enc w base spare held n cs xs (by omega) (by rw [hlen, Array.length_toList]) (fun i f hi => hf i f (by simpa using hi)) (fun m hm => hw m (by simp only [DataW.weights, hu]; exact hm))
    simpa using this⟩
theorem opens_iso {α β : Type} {P : Program} {t : TypeId} {d : Kd α} {good : α → Prop} (f : β → α) (g : α → β) (hg : ∀ y, f (g y) = y) (h : Opens P t d good) : Opens P t (Kd.iso d f) (fun x => good (f x)) :=
  ⟨h.1, fun H enc w base spare held fuel cs D ps ht hw => by
    obtain ⟨x, hx, gx⟩ := h.2 H enc w base spare held fuel cs D ps ht hw
    refine ⟨g x, ?_, by show good (f (g x)); rw [hg]; exact gx⟩
    show d.K w (f (g x)) cs
    rw [hg]
    exact hx⟩
/-- An argument opened. -/
theorem Opens.arg {α : Type} {P : Program} {t : TypeId} {d : Kd α} {good : α → Prop} (h : Opens P t d good) {H : Type} {enc : TypeId × Value → H} {w : World} {base : Nat} {spare : Nat → Bool} {held : Bool} {v : Value} {D : DataW H} {ps : List MemPlace}
    (ht : DataW.Trod enc P w base spare held t v D ps) {ts : List TypeId} {ds : List (DataW H)} {j : Nat} (hsz : (DataW.weightsEach P ts ds).all (· ≤ reachBytes) = true) (hj : ts[j]? = some t) (hd : ds[j]? = some D) : ∃ x, d.K w x v.cells.toList ∧ good x := by
  obtain ⟨fuel, hf⟩ := ht
  refine h.2 H enc w base spare held fuel _ D ps hf (fun n hn => ?_)
  have := List.all_eq_true.1 hsz n (DataW.weights_mem_each hj hd n hn)
  simpa using this
theorem agg_cells {v : Value} {cs : Array Value} {l : List Value} (hv : v = .agg cs) (h : v.cells.toList = l) : v = .agg l.toArray := by
  subst hv
  have : cs.toList = l := h
  rw [← this]
end Go.Proofs.YthbmedhejlhclaaDoor.Open
