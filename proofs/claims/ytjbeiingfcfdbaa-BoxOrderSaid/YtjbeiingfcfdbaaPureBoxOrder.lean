/- The printed function of the law 'BoxOrder' answers true for all three times, without conditions. -/
import Derived.Test.YtjbeiingfcfdbaaPBoxOrderx1
import Derived.Test.YtjbeiingfcfdbaaPlain
set_option linter.unusedVariables false
set_option linter.unusedSimpArgs false
namespace Go.Proofs.Ytjbeiingfcfdbaa.Pure
open Go.RowKit Go.Proofs.Ytjbeiingfcfdbaa.PBoxOrder Go.Proofs.YtjbeiingfcfdbaaW.PrintWords Go.Proofs.YtjbeiingfcfdbaaW.PrintLast Go.Proofs.Ytjbeiingfcfdbaa.Plain
namespace BoxOrderAid
theorem zFormed (a b : Int) : vec_Formed.f a b = some (fmd a b) := by
  unfold vec_Formed.f fmd
  by_cases h1 : a ≥ -134217728
  · rw [if_pos h1]
    by_cases h2 : a ≤ 134217728
    · rw [if_pos h2]
      by_cases h3 : b ≥ -134217728
      · rw [if_pos h3]; exact dec_t (by omega)
      · rw [if_neg h3]; exact dec_f (by omega)
    · rw [if_neg h2]; exact dec_f (by omega)
  · rw [if_neg h1]; exact dec_f (by omega)
theorem zbF (a b c d : Int) : box_Formed.f a b c d = some (bfm a b c d) := by
  unfold box_Formed.f bfm
  simp only [zFormed, Option.bind_some]
  cases fmd a b <;> cases fmd c d <;> simp only [Bool.true_and, Bool.false_and, Bool.false_eq_true, if_true, if_false]
  by_cases h1 : a ≤ c
  · rw [if_pos h1]; exact dec_t (by omega)
  · rw [if_neg h1]; exact dec_f (by omega)
theorem zIn (x y a b c d : Int) : box_In.f x y a b c d = some (binn x y a b c d) := by
  unfold box_In.f binn
  simp only [zFormed, zbF, Option.bind_some]
  cases fmd x y <;> cases bfm a b c d <;> simp only [Bool.true_and, Bool.false_and, Bool.false_eq_true, if_true, if_false]
  by_cases h1 : x ≥ a
  · rw [if_pos h1]
    by_cases h2 : x ≤ c
    · rw [if_pos h2]
      by_cases h3 : y ≥ b
      · rw [if_pos h3]; exact dec_t (by omega)
      · rw [if_neg h3]; exact dec_f (by omega)
    · rw [if_neg h2]; exact dec_f (by omega)
  · rw [if_neg h1]; exact dec_f (by omega)
theorem zawake : ricochetlaw03_awake.f = some true := by
  unfold ricochetlaw03_awake.f
  simp only [zbF, zIn, Option.bind_some]
  decide
theorem zright (a b : Int) : box_right.f a b = some (rght (a, b)) := by
  unfold box_right.f rght
  by_cases h1 : b ≥ 1
  · rw [if_pos h1]
    by_cases h2 : b ≤ 1073741824
    · rw [if_pos h2]
      by_cases h3 : a ≥ 0
      · rw [if_pos h3]; exact dec_t (by omega)
      · rw [if_neg h3]; exact dec_f (by omega)
    · rw [if_neg h2]; exact dec_f (by omega)
  · rw [if_neg h1]; exact dec_f (by omega)
theorem zAhead (a b c d : Int) : box_Ahead.f a b c d = some (ahd (a, b) (c, d)) := by
  unfold box_Ahead.f
  simp only [zright, Option.bind_some]
  by_cases h1 : rght (a, b) = true
  · rw [if_pos h1]
    by_cases h2 : rght (c, d) = true
    · rw [if_pos h2, ahd_ok h1 h2]
      unfold rght at h1 h2
      simp only [decide_eq_true_eq] at h1 h2
      have e1 : -(1073741824 * 1073741824) ≤ a * d ∧ a * d ≤ 1073741824 * 1073741824 := mul_bd (by omega) (by omega) (by omega) (by omega) (by omega) (by omega)
      have e2 : -(1073741824 * 1073741824) ≤ c * b ∧ c * b ≤ 1073741824 * 1073741824 := mul_bd (by omega) (by omega) (by omega) (by omega) (by omega) (by omega)
      rw [wrap64_id (x := a * d) (by omega) (by omega), wrap64_id (x := c * b) (by omega) (by omega)]
    · rw [if_neg h2]
      unfold ahd
      simp [h2]
  · rw [if_neg h1]
    unfold ahd
    simp [h1]
end BoxOrderAid
open BoxOrderAid
theorem BoxOrder (a0 a1 b0 b1 c0 c1 : Int) (_ : (Lit.int .i64 a0).wf = true) (_ : (Lit.int .i64 a1).wf = true) (_ : (Lit.int .i64 b0).wf = true) (_ : (Lit.int .i64 b1).wf = true) (_ : (Lit.int .i64 c0).wf = true) (_ : (Lit.int .i64 c1).wf = true) :
    ∃ k, ricochetlaw03_BoxOrder.f k a0 a1 b0 b1 c0 c1 = some true := by
  refine ⟨1, ?_⟩
  have go : ∀ x : Bool, x = false → ricochetlaw03_BoxOrder.j0 1 x a0 a1 b0 b1 c0 c1 = some true := by
    rintro x rfl
    simp only [ricochetlaw03_BoxOrder.j0, Bool.false_eq_true, if_false, zAhead, Option.bind_some]
    by_cases h1 : ahd (a0, a1) (b0, b1) = true
    · rw [if_pos h1]
      by_cases h2 : ahd (b0, b1) (c0, c1) = true
      · rw [if_pos h2, ahd_trans h1 h2]
      · rw [if_neg h2]
    · rw [if_neg h1]
  unfold ricochetlaw03_BoxOrder.f
  simp only [zawake, zAhead, ahd_self, Option.bind_some, if_true, Bool.false_eq_true, if_false]
  by_cases h1 : ahd (a0, a1) (b0, b1) = true
  · rw [if_pos h1]
    exact go _ (ahd_not h1)
  · rw [if_neg h1]
    exact go _ rfl
end Go.Proofs.Ytjbeiingfcfdbaa.Pure
