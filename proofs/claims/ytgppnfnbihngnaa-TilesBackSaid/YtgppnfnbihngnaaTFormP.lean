import Derived.Test.YtgppnfnbihngnaaTMem
set_option linter.unusedVariables false
set_option linter.unusedSimpArgs false
namespace Go.Proofs.Ytgppnfnbihngnaa.Tiles
open Go.RowKit Go.Proofs.YtgppnfnbihngnaaW.PrintWords Go.Proofs.YtgppnfnbihngnaaW.PrintLast Go.Proofs.YtgppnfnbihngnaaW.PrintMore Go.Proofs.Ytgppnfnbihngnaa.PTilesFree

theorem w64 (n : Int) (h : -1000000000 ≤ n ∧ n ≤ 1000000000) : wrap64 n = n := by unfold wrap64; omega
def midJ (W : Int) (j : Nat) : S39 := midF ((j : Int) % W) ((j : Int) / W)
theorem midF_small (x y : Int) (h1 : 0 ≤ x) (h2 : x ≤ 2000) (h3 : 0 ≤ y) (h4 : y ≤ 2000) : midF x y = ⟨x * 65536 + 32768, y * 65536 + 32768⟩ := by
  unfold midF
  rw [show wrap64 (x * 65536) = x * 65536 by unfold wrap64; omega, show wrap64 (y * 65536) = y * 65536 by unfold wrap64; omega, show wrap64 (x * 65536 + 32768) = x * 65536 + 32768 by unfold wrap64; omega, show wrap64 (y * 65536 + 32768) = y * 65536 + 32768 by unfold wrap64; omega]
theorem mod_small (W : Int) (j : Nat) (h1 : 1 ≤ W) (h2 : W ≤ 32) (hj : j ≤ 1100) : 0 ≤ (j : Int) % W ∧ (j : Int) % W < W ∧ 0 ≤ (j : Int) / W ∧ (j : Int) / W ≤ 1100 := by
  refine ⟨Int.emod_nonneg _ (by omega), Int.emod_lt_of_pos _ (by omega), Int.ediv_nonneg (by omega) (by omega), ?_⟩
  have := Int.ediv_le_self (a := (j : Int)) W (by omega)
  omega
theorem midJ_inj (W : Int) (i j : Nat) (h1 : 1 ≤ W) (h2 : W ≤ 32) (hi : i ≤ 1100) (hj : j ≤ 1100) (h : midJ W i = midJ W j) : i = j := by
  obtain ⟨a1, a2, a3, a4⟩ := mod_small W i h1 h2 hi
  obtain ⟨b1, b2, b3, b4⟩ := mod_small W j h1 h2 hj
  unfold midJ at h
  rw [midF_small _ _ a1 (by omega) a3 (by omega), midF_small _ _ b1 (by omega) b3 (by omega)] at h
  simp only [S39.mk.injEq] at h
  obtain ⟨e1, e2⟩ := h
  have f1 : (i : Int) % W = (j : Int) % W := by omega
  have f2 : (i : Int) / W = (j : Int) / W := by omega
  have g1 := Int.emod_add_mul_ediv (i : Int) W
  have g2 := Int.emod_add_mul_ediv (j : Int) W
  rw [f1, f2] at g1
  omega
/-- The spawns stand in the order of the tiles, each on a floor's middle, from tile n on. -/
def Spawn (W : Int) (ws : List Bool) : Nat → List S39 → Prop
  | _, [] => True
  | n, p :: ps => ∃ j, n ≤ j ∧ ws[j]? = some false ∧ p = midJ W j ∧ Spawn W ws (j + 1) ps
theorem Spawn.len {W : Int} {ws : List Bool} : ∀ (sp : List S39) (n : Nat), Spawn W ws n sp → sp = [] ∨ n + sp.length ≤ ws.length
  | [], _, _ => .inl rfl
  | p :: ps, n, h => by
    obtain ⟨j, h1, h2, _, h4⟩ := h
    have hj : j < ws.length := by
      rw [List.getElem?_eq_some_iff] at h2
      exact h2.1
    rcases Spawn.len ps (j + 1) h4 with h | h
    · subst h; right; simp; omega
    · right; simp; omega
/-- What a map is that can be read. -/
def FormP (W H : Int) (ws : List Bool) (sp : List S39) : Prop := 1 ≤ W ∧ W ≤ 32 ∧ 1 ≤ H ∧ H ≤ 32 ∧ (ws.length : Int) = W * H ∧ sp ≠ [] ∧ Spawn W ws 0 sp
theorem mul_small (W H : Int) (h1 : 1 ≤ W) (h2 : W ≤ 32) (h3 : 1 ≤ H) (h4 : H ≤ 32) : 1 ≤ W * H ∧ W * H ≤ 1024 := by
  constructor
  · have := Int.mul_le_mul h1 h3 (by omega) (by omega); omega
  · have := Int.mul_le_mul h2 h4 (by omega) (by omega); omega
theorem FormP.few {W H : Int} {ws : List Bool} {sp : List S39} (h : FormP W H ws sp) : (sp.length : Int) ≤ W * H ∧ 0 < sp.length ∧ ws.length ≤ 1024 := by
  obtain ⟨a1, a2, a3, a4, a5, a6, a7⟩ := h
  have := mul_small W H a1 a2 a3 a4
  have hp : 0 < sp.length := List.length_pos_iff.2 a6
  rcases Spawn.len sp 0 a7 with h | h
  · exact absurd h a6
  · exact ⟨by omega, hp, by omega⟩
/-- Where the first floor stands. -/
def findB : List Bool → Nat → Int
  | [], _ => -1
  | x :: l, i => if x = false then (i : Int) else findB l (i + 1)
theorem findB_ways : ∀ (l : List Bool) (i : Nat), (findB l i = -1 ∧ ∀ j : Nat, l[j]? ≠ some false) ∨ ∃ k : Nat, findB l i = ((i + k : Nat) : Int) ∧ l[k]? = some false ∧ ∀ j, j < k → l[j]? ≠ some false
  | [], i => .inl ⟨rfl, by simp⟩
  | x :: l, i => by
    unfold findB
    cases x with
    | false => exact .inr ⟨0, by simp, by simp, by simp⟩
    | true =>
      rw [if_neg (by decide)]
      rcases findB_ways l (i + 1) with ⟨h1, h2⟩ | ⟨k, h1, h2, h3⟩
      · refine .inl ⟨h1, fun j => ?_⟩
        cases j with
        | zero => simp
        | succ j => simpa using h2 j
      · refine .inr ⟨k + 1, by rw [h1]; omega, by simpa using h2, fun j hj => ?_⟩
        cases j with
        | zero => simp
        | succ j => simpa using h3 j (by omega)
/-- No floor is left: no spawn fits. -/
theorem spawn_none {W : Int} {ws : List Bool} {n : Nat} {p : S39} {ps : List S39} (h : ∀ j, n ≤ j → ws[j]? ≠ some false) : ¬ Spawn W ws n (p :: ps) := by
  rintro ⟨j, h1, h2, _⟩
  exact h j h1 h2
/-- All tiles from the first floor on have been tried. -/
theorem spawn_miss {W : Int} {ws : List Bool} {n j0 : Nat} {p : S39} {ps : List S39} (h0 : ∀ j, n ≤ j → j < j0 → ws[j]? ≠ some false) (h : ∀ j, j0 ≤ j → j < ws.length → p ≠ midJ W j) : ¬ Spawn W ws n (p :: ps) := by
  rintro ⟨j, h1, h2, h3, _⟩
  have hj : j < ws.length := by
    rw [List.getElem?_eq_some_iff] at h2
    exact h2.1
  by_cases hh : j < j0
  · exact h0 j h1 hh h2
  · exact h j (by omega) hj h3
/-- The spawn's tile has been found. -/
theorem spawn_hit {W : Int} {ws : List Bool} {n j : Nat} {p : S39} {ps : List S39} (hw1 : 1 ≤ W) (hw2 : W ≤ 32) (hl : ws.length ≤ 1024) (hn : n ≤ j) (hj : j < ws.length) (he : p = midJ W j) :
    (ws[j]? = some false → (Spawn W ws n (p :: ps) ↔ Spawn W ws (j + 1) ps)) ∧ (ws[j]? ≠ some false → ¬ Spawn W ws n (p :: ps)) := by
  have key : ∀ i, ws[i]? = some false → p = midJ W i → i = j := by
    intro i h2 h3
    have hi : i < ws.length := by
      rw [List.getElem?_eq_some_iff] at h2
      exact h2.1
    exact midJ_inj W i j hw1 hw2 (by omega) (by omega) (h3.symm.trans he)
  constructor
  · intro hf
    constructor
    · rintro ⟨i, h1, h2, h3, h4⟩
      rw [key i h2 h3] at h4
      exact h4
    · intro h
      exact ⟨j, hn, hf, he, h⟩
  · rintro hf ⟨i, h1, h2, h3, h4⟩
    rw [key i h2 h3] at h2
    exact hf h2
end Go.Proofs.Ytgppnfnbihngnaa.Tiles
