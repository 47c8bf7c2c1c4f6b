import Derived.Test.YtgppnfnbihngnaaTTextP
import Derived.Test.YtgppnfnbihngnaaPTilesFreex3
import Derived.Test.YtgppnfnbihngnaaPTilesFreex4
set_option linter.unusedVariables false
set_option linter.unusedSimpArgs false
namespace Go.Proofs.Ytgppnfnbihngnaa.Tiles
open Go.RowKit Go.Proofs.YtgppnfnbihngnaaW.PrintWords Go.Proofs.YtgppnfnbihngnaaW.PrintLast Go.Proofs.YtgppnfnbihngnaaW.PrintMore Go.Proofs.Ytgppnfnbihngnaa.PTilesFree

theorem drop_rd (p : List S39) {i : Nat} (h : i < p.length) : p.drop i = rd_T39 p (i : Int) :: p.drop (i + 1) := by
  rw [List.drop_eq_getElem_cons h]
  simp [rd_T39, List.getD, List.getElem?_eq_getElem h]
theorem diff_l1 (a b : Int) (l : List Bool) (p q : List S39) (hp : p.length ≤ 1000000) (hpq : p.length = q.length) : ∀ (n i F : Nat), p.length ≤ i + n → i ≤ p.length → n + 1 ≤ F → ∃ r, ricochetref11_Same.l1 F (i : Int) a b l p a b l q = some r ∧ (r = true ↔ p.drop i = q.drop i) := by
  intro n
  induction n with
  | zero =>
    intro i F h1 h2 h3
    obtain ⟨F, rfl⟩ : ∃ G, F = G + 1 := ⟨F - 1, by omega⟩
    refine ⟨true, ?_, ?_⟩
    · unfold ricochetref11_Same.l1
      rw [if_neg (by omega)]
    · rw [List.drop_eq_nil_of_le (by omega), List.drop_eq_nil_of_le (by omega)]
      simp
  | succ n ih =>
    intro i F h1 h2 h3
    obtain ⟨F, rfl⟩ : ∃ G, F = G + 1 := ⟨F - 1, by omega⟩
    by_cases h : (i : Int) < (p.length : Int)
    · have e1 := drop_rd p (i := i) (by omega)
      have e2 := drop_rd q (i := i) (by omega)
      by_cases hh : (rd_T39 p (i : Int)).f0 = (rd_T39 q (i : Int)).f0 ∧ (rd_T39 p (i : Int)).f1 = (rd_T39 q (i : Int)).f1
      · obtain ⟨r, hr, hi⟩ := ih (i + 1) F (by omega) (by omega) (by omega)
        refine ⟨r, ?_, ?_⟩
        · unfold ricochetref11_Same.l1
          rw [if_pos h, if_pos (by omega), if_pos (by omega), if_neg (by simp [hh.1, hh.2]), show wrap64 ((i : Int) + 1) = ((i + 1 : Nat) : Int) by unfold wrap64; omega]
          exact hr
        · rw [hi, e1, e2]
          have : rd_T39 p (i : Int) = rd_T39 q (i : Int) := by
            generalize rd_T39 p (i : Int) = u at *
            generalize rd_T39 q (i : Int) = v at *
            cases u; cases v; simp only [S39.mk.injEq]; exact hh
          rw [this]
          simp
      · refine ⟨false, ?_, ?_⟩
        · unfold ricochetref11_Same.l1
          rw [if_pos h, if_pos (by omega), if_pos (by omega), if_pos (by
            by_cases h0 : (rd_T39 p (i : Int)).f0 = (rd_T39 q (i : Int)).f0
            · have h1' : ¬ (rd_T39 p (i : Int)).f1 = (rd_T39 q (i : Int)).f1 := fun e => hh ⟨h0, e⟩
              simp [h1']
            · simp [h0])]
        · rw [e1, e2]
          constructor
          · intro e; cases e
          · intro e
            have := (List.cons.inj e).1
            exact absurd ⟨by rw [this], by rw [this]⟩ hh
    · refine ⟨true, ?_, ?_⟩
      · unfold ricochetref11_Same.l1
        rw [if_neg h]
      · rw [List.drop_eq_nil_of_le (by omega), List.drop_eq_nil_of_le (by omega)]
        simp
theorem diff_l0 (a b : Int) (l : List Bool) (p q : List S39) (hl : l.length ≤ 1000000) (r : Bool) : ∀ (n i F : Nat), l.length ≤ i + n → (∀ G, p.length + 1 ≤ G → ricochetref11_Same.l1 G 0 a b l p a b l q = some r) → n + p.length + 2 ≤ F → ricochetref11_Same.l0 F (i : Int) a b l p a b l q = some r := by
  intro n
  induction n with
  | zero =>
    intro i F h1 hr h2
    obtain ⟨F, rfl⟩ : ∃ G, F = G + 1 := ⟨F - 1, by omega⟩
    unfold ricochetref11_Same.l0
    rw [if_neg (by omega)]
    exact hr F (by omega)
  | succ n ih =>
    intro i F h1 hr h2
    obtain ⟨F, rfl⟩ : ∃ G, F = G + 1 := ⟨F - 1, by omega⟩
    unfold ricochetref11_Same.l0
    by_cases h : (i : Int) < (l.length : Int)
    · rw [if_pos h, if_pos (by omega), if_pos h, if_neg (by simp), show wrap64 ((i : Int) + 1) = ((i + 1 : Nat) : Int) by unfold wrap64; omega]
      exact ih (i + 1) F (by omega) hr (by omega)
    · rw [if_neg h]
      exact hr F (by omega)
/-- The reference's Same of two maps that differ in their spawns at most. -/
theorem same_gen (a b : Int) (l : List Bool) (p q : List S39) (hl : l.length ≤ 1000000) (hp : p.length ≤ 1000000) : ∃ k r, ricochetref11_Same.f k a b l p a b l q = some r ∧ (r = true ↔ p = q) := by
  by_cases hpq : p.length = q.length
  · obtain ⟨r, hr, hi⟩ := diff_l1 a b l p q hp hpq p.length 0 (p.length + 1) (by omega) (by omega) (by omega)
    refine ⟨l.length + p.length + 3, r, ?_, by simpa using hi⟩
    unfold ricochetref11_Same.f
    rw [if_pos rfl, if_pos rfl, if_pos rfl, show l.length + p.length + 3 = (l.length + p.length + 2) + 1 by omega]
    simp only [ricochetref11_Same.j0]
    rw [if_neg (by simp [hpq])]
    refine diff_l0 a b l p q hl r l.length 0 _ (by omega) (fun G hG => ?_) (by omega)
    obtain ⟨r', hr', hi'⟩ := diff_l1 a b l p q hp hpq p.length 0 G (by omega) (by omega) (by omega)
    have : r' = r := by
      cases r <;> cases r' <;> simp_all
    rw [← this]
    exact hr'
  · refine ⟨1, false, ?_, ?_⟩
    · unfold ricochetref11_Same.f
      rw [if_pos rfl, if_pos rfl, if_pos rfl]
      simp only [ricochetref11_Same.j0]
      rw [if_pos (by simp; omega)]
    · constructor
      · intro e; cases e
      · intro e; exact absurd (by rw [e]) hpq
theorem spawns_l0 (a b : Int) (l : List Bool) (sp : List S39) (p : S39) (hl : sp.length ≤ 1000000) : ∀ (n i F : Nat), sp.length ≤ i + n → n + 1 ≤ F → ricochetref11_spawns.l0 F (i : Int) a b l sp p.f0 p.f1 = some (hasS (sp.drop i) p) := by
  intro n
  induction n with
  | zero =>
    intro i F h1 h2
    obtain ⟨F, rfl⟩ : ∃ G, F = G + 1 := ⟨F - 1, by omega⟩
    unfold ricochetref11_spawns.l0
    rw [if_neg (by omega), List.drop_eq_nil_of_le (by omega)]
    rfl
  | succ n ih =>
    intro i F h1 h2
    obtain ⟨F, rfl⟩ : ∃ G, F = G + 1 := ⟨F - 1, by omega⟩
    unfold ricochetref11_spawns.l0
    by_cases h : (i : Int) < (sp.length : Int)
    · rw [if_pos h, if_pos (by omega), drop_rd sp (i := i) (by omega)]
      by_cases hh : ((rd_T39 sp (i : Int)).f0 == p.f0 && ((rd_T39 sp (i : Int)).f1 == p.f1)) = true
      · rw [if_pos hh]
        unfold hasS
        rw [List.any_cons, hh]
        rfl
      · rw [if_neg hh, show wrap64 ((i : Int) + 1) = ((i + 1 : Nat) : Int) by unfold wrap64; omega, ih (i + 1) F (by omega) (by omega)]
        unfold hasS
        rw [List.any_cons, Bool.eq_false_iff.2 hh]
        rfl
    · rw [if_neg h, List.drop_eq_nil_of_le (by omega)]
      rfl
theorem spawns_f (a b : Int) (l : List Bool) (sp : List S39) (p : S39) (hl : sp.length ≤ 1000000) : ricochetref11_spawns.f (sp.length + 1) a b l sp p.f0 p.f1 = some (hasS sp p) := by
  unfold ricochetref11_spawns.f
  exact spawns_l0 a b l sp p hl sp.length 0 _ (by omega) (by omega)
theorem sg_size3 (k : Nat) : (sg k).size ≤ 3 := (sg_size k).2
theorem row_size (W : Int) (ws : List Bool) (sp : List S39) (t : ByteArray) (base : Nat) : ∀ x, (rowF W ws sp t base x).size ≤ t.size + 3 * x
  | 0 => by show t.size ≤ _; omega
  | x + 1 => by
    have h := row_size W ws sp t base x
    have h3 := sg_size3 (sgn W ws sp (base + x))
    show (rowF W ws sp t base x ++ _).size ≤ _
    rw [size_app]
    omega
theorem text_size (W : Int) (n : Nat) (ws : List Bool) (sp : List S39) : ∀ y, (textF W n ws sp y).size ≤ (3 * n + 3) * y
  | 0 => by show (0 : Nat) ≤ _; omega
  | y + 1 => by
    have h := text_size W n ws sp y
    have h2 := row_size W ws sp (textF W n ws sp y) (y * n) n
    show (rowF W ws sp (textF W n ws sp y) (y * n) n ++ sg 3).size ≤ _
    rw [size_app, Nat.mul_add]
    have : (sg 3).size = 1 := rfl
    omega
theorem text_small (W : Int) (n : Nat) (ws : List Bool) (sp : List S39) (y : Nat) (hn : n ≤ 32) (hy : y ≤ 32) : (textF W n ws sp y).size ≤ 5000 := by
  have h := text_size W n ws sp y
  have : (3 * n + 3) * y ≤ 99 * 32 := Nat.mul_le_mul (by omega) hy
  omega
end Go.Proofs.Ytgppnfnbihngnaa.Tiles
