/- The last group of a row of groups of the call's own: taken out, written, put back. -/
import Derived.Test.YthbmedhejlhclaaDoorQBasex0
import Derived.Test.YthbmedhejlhclaaDoorGivD
namespace Go.Proofs.YthbmedhejlhclaaDoor.Given
open Go.RowKit Go.Proofs.YthbmedhejlhclaaDoor.QBase Go.Proofs.YthbmedhejlhclaaDoorW.PrintWords Go.Proofs.YthbmedhejlhclaaDoorW.PrintLast
set_option linter.unusedVariables false

/-- The last group of a row: its cells, its rows, and the row without it. -/
theorem last_open53 {w : World} {B g n cap : Nat} {gs : List S53} (h : Kd.S k53 53 w B (fun _ => True) (.slice (some ⟨g, 0, none⟩) n cap) gs) (hn : 0 < n) :
    ∃ (oki : Nat → Prop) (v0 v1 : Value), Kd.string.R 9 w B oki v0 (gs.getD (n - 1) z53).f0 ∧ k59.R 59 w B oki v1 (gs.getD (n - 1) z53).f1 ∧
      w.cell? ⟨g, (n - 1) * 3, none⟩ = some v0 ∧ w.cell? ⟨g, (n - 1) * 3 + 1, none⟩ = some v1 ∧ w.cell? ⟨g, (n - 1) * 3 + 2, none⟩ = some (.int .i64 (gs.getD (n - 1) z53).f2) ∧
      (∀ j, w.frozen? ⟨g, (n - 1) * 3 + j, none⟩ = false) ∧ (∀ k, oki k → k ≠ g) ∧
      Kd.H k53 53 w B (fun _ => True) (.slice (some ⟨g, 0, none⟩) n cap) gs ((n - 1 : Nat) : Int) oki [v0, v1, .int .i64 (gs.getD (n - 1) z53).f2] := by
  obtain ⟨oki, c, hcl, hM, hcc, hfr, hoki, hH⟩ := Kd.S_elem h z53 ((n - 1 : Nat) : Int) (by omega) (by omega)
  rw [Int.toNat_natCast] at hM hcc hfr
  obtain ⟨v0, v1, rfl, g0, g1⟩ := k53_openM hM
  exact ⟨oki, v0, v1, g0, g1, hcc 0 _ rfl, hcc 1 _ rfl, hcc 2 _ rfl, hfr, fun k hk => (hoki k hk).2, hH⟩
/-- One cell of it is written, and it is put back. -/
theorem last_put53 {w : World} {B g n cap : Nat} {gs : List S53} {oki : Nat → Prop} {c : List Value} (h : Kd.H k53 53 w B (fun _ => True) (.slice (some ⟨g, 0, none⟩) n cap) gs ((n - 1 : Nat) : Int) oki c) (hn : 0 < n)
    (j : Nat) (hj : j < 3) (u : Value) (hu : u.oneCell' = true) (x : S53) (hM : k53.M w B oki x (c.take j ++ [u] ++ c.drop (j + 1))) (hg : ∀ k, oki k → k ≠ g) :
    Kd.S k53 53 (w.setCell ⟨g, (n - 1) * 3 + j, none⟩ u) B (fun _ => True) (.slice (some ⟨g, 0, none⟩) n cap) (gs.set (n - 1) x) ∧ w.grownBy (w.setCell ⟨g, (n - 1) * 3 + j, none⟩ u) (some g) := by
  obtain ⟨h2, h3⟩ := Kd.H_seg (seg := [u]) (j := j) h (by omega) (by omega) (by simp; show j + 1 ≤ 3; omega) (by intro q hq; obtain rfl := List.mem_singleton.mp hq; exact hu)
  have e : w.setCells g (((n - 1 : Nat) : Int).toNat * k53.sz + j) [u] = w.setCell ⟨g, (n - 1) * 3 + j, none⟩ u := by
    rw [Int.toNat_natCast]
    rfl
  rw [e] at h2 h3
  refine ⟨?_, h3⟩
  have := Kd.H_back h2 (x' := x) (okp := oki) (Kd.M_far (p := ⟨g, (n - 1) * 3 + j, none⟩) hM (fun k hk => hg k hk) u) (fun _ hk => hk)
  rwa [Int.toNat_natCast] at this

/-- The last group of a row: its cells, its rows, and the row without it. -/
theorem last_open57 {w : World} {B g n cap : Nat} {gs : List S57} (h : Kd.S k57 57 w B (fun _ => True) (.slice (some ⟨g, 0, none⟩) n cap) gs) (hn : 0 < n) :
    ∃ (oki : Nat → Prop) (v0 v1 : Value), Kd.string.R 9 w B oki v0 (gs.getD (n - 1) z57).f0 ∧ k59.R 59 w B oki v1 (gs.getD (n - 1) z57).f1 ∧
      w.cell? ⟨g, (n - 1) * 3, none⟩ = some v0 ∧ w.cell? ⟨g, (n - 1) * 3 + 1, none⟩ = some v1 ∧ w.cell? ⟨g, (n - 1) * 3 + 2, none⟩ = some (.int .i64 (gs.getD (n - 1) z57).f2) ∧
      (∀ j, w.frozen? ⟨g, (n - 1) * 3 + j, none⟩ = false) ∧ (∀ k, oki k → k ≠ g) ∧
      Kd.H k57 57 w B (fun _ => True) (.slice (some ⟨g, 0, none⟩) n cap) gs ((n - 1 : Nat) : Int) oki [v0, v1, .int .i64 (gs.getD (n - 1) z57).f2] := by
  obtain ⟨oki, c, hcl, hM, hcc, hfr, hoki, hH⟩ := Kd.S_elem h z57 ((n - 1 : Nat) : Int) (by omega) (by omega)
  rw [Int.toNat_natCast] at hM hcc hfr
  obtain ⟨v0, v1, rfl, g0, g1⟩ := k57_openM hM
  exact ⟨oki, v0, v1, g0, g1, hcc 0 _ rfl, hcc 1 _ rfl, hcc 2 _ rfl, hfr, fun k hk => (hoki k hk).2, hH⟩
/-- One cell of it is written, and it is put back. -/
theorem last_put57 {w : World} {B g n cap : Nat} {gs : List S57} {oki : Nat → Prop} {c : List Value} (h : Kd.H k57 57 w B (fun _ => True) (.slice (some ⟨g, 0, none⟩) n cap) gs ((n - 1 : Nat) : Int) oki c) (hn : 0 < n)
    (j : Nat) (hj : j < 3) (u : Value) (hu : u.oneCell' = true) (x : S57) (hM : k57.M w B oki x (c.take j ++ [u] ++ c.drop (j + 1))) (hg : ∀ k, oki k → k ≠ g) :
    Kd.S k57 57 (w.setCell ⟨g, (n - 1) * 3 + j, none⟩ u) B (fun _ => True) (.slice (some ⟨g, 0, none⟩) n cap) (gs.set (n - 1) x) ∧ w.grownBy (w.setCell ⟨g, (n - 1) * 3 + j, none⟩ u) (some g) := by
  obtain ⟨h2, h3⟩ := Kd.H_seg (seg := [u]) (j := j) h (by omega) (by omega) (by simp; show j + 1 ≤ 3; omega) (by intro q hq; obtain rfl := List.mem_singleton.mp hq; exact hu)
  have e : w.setCells g (((n - 1 : Nat) : Int).toNat * k57.sz + j) [u] = w.setCell ⟨g, (n - 1) * 3 + j, none⟩ u := by
    rw [Int.toNat_natCast]
    rfl
  rw [e] at h2 h3
  refine ⟨?_, h3⟩
  have := Kd.H_back h2 (x' := x) (okp := oki) (Kd.M_far (p := ⟨g, (n - 1) * 3 + j, none⟩) hM (fun k hk => hg k hk) u) (fun _ hk => hk)
  rwa [Int.toNat_natCast] at this
end Go.Proofs.YthbmedhejlhclaaDoor.Given
