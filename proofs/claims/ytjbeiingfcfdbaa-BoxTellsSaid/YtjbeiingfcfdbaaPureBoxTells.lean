/- The printed function of the law 'BoxTells' answers true for all boxes and points, without conditions. -/
import Derived.Test.YtjbeiingfcfdbaaPBoxTellsx2
import Derived.Test.YtjbeiingfcfdbaaPlain
set_option linter.unusedVariables false
set_option linter.unusedSimpArgs false
namespace Go.Proofs.Ytjbeiingfcfdbaa.Pure
open Go.RowKit Go.Proofs.Ytjbeiingfcfdbaa.PBoxTells Go.Proofs.YtjbeiingfcfdbaaW.PrintWords Go.Proofs.YtjbeiingfcfdbaaW.PrintLast Go.Proofs.Ytjbeiingfcfdbaa.Plain
namespace BoxTellsAid
theorem zFormed (a b : Int) : vec_Formed.f a b = some (fmd a b) := by
  unfold vec_Formed.f fmd
  by_cases h1 : a ≥ -134217728
  · rw [if_pos h1]
    by_cases h2 : a ≤ 134217728
    · rw [if_pos h2]
      by_cases h3 : b ≥ -134217728
      · rw [if_pos h3]; exact dec_t (by omega)
      · rw [if_neg h3]; exact dec_f (by omega)
    · rw [if_neg h2]; exact dec_f (by omega)
  · rw [if_neg h1]; exact dec_f (by omega)
theorem zbF (a b c d : Int) : box_Formed.f a b c d = some (bfm a b c d) := by
  unfold box_Formed.f bfm
  simp only [zFormed, Option.bind_some]
  cases fmd a b <;> cases fmd c d <;> simp only [Bool.true_and, Bool.false_and, Bool.false_eq_true, if_true, if_false]
  by_cases h1 : a ≤ c
  · rw [if_pos h1]; exact dec_t (by omega)
  · rw [if_neg h1]; exact dec_f (by omega)
theorem zIn (x y a b c d : Int) : box_In.f x y a b c d = some (binn x y a b c d) := by
  unfold box_In.f binn
  simp only [zFormed, zbF, Option.bind_some]
  cases fmd x y <;> cases bfm a b c d <;> simp only [Bool.true_and, Bool.false_and, Bool.false_eq_true, if_true, if_false]
  by_cases h1 : x ≥ a
  · rw [if_pos h1]
    by_cases h2 : x ≤ c
    · rw [if_pos h2]
      by_cases h3 : y ≥ b
      · rw [if_pos h3]; exact dec_t (by omega)
      · rw [if_neg h3]; exact dec_f (by omega)
    · rw [if_neg h2]; exact dec_f (by omega)
  · rw [if_neg h1]; exact dec_f (by omega)
theorem zawake : ricochetlaw03_awake.f = some true := by
  unfold ricochetlaw03_awake.f
  simp only [zbF, zIn, Option.bind_some]
  decide
theorem rFormed (a b : Int) : ricochetref02_Formed.f a b = some (fmd a b) := by
  unfold ricochetref02_Formed.f fmd
  by_cases h1 : a ≥ -134217728
  · rw [if_pos h1]
    by_cases h2 : a ≤ 134217728
    · rw [if_pos h2]
      by_cases h3 : b ≥ -134217728
      · rw [if_pos h3]; exact dec_t (by omega)
      · rw [if_neg h3]; exact dec_f (by omega)
    · rw [if_neg h2]; exact dec_f (by omega)
  · rw [if_neg h1]; exact dec_f (by omega)
theorem rbF (a b c d : Int) : ricochetref03_Formed.f a b c d = some (bfm a b c d) := by
  unfold ricochetref03_Formed.f bfm
  simp only [rFormed, Option.bind_some]
  cases fmd a b <;> cases fmd c d <;> simp only [Bool.true_and, Bool.false_and, Bool.false_eq_true, if_true, if_false]
  by_cases h1 : a ≤ c
  · rw [if_pos h1]; exact dec_t (by omega)
  · rw [if_neg h1]; exact dec_f (by omega)
theorem zplain (a b c d : Int) : ricochetlaw03_plain.f a b c d = some (a, b, c, d) := rfl
theorem rIn (x y a b c d : Int) : ricochetref03_In.f x y a b c d = some (binn x y a b c d) := by
  unfold ricochetref03_In.f binn
  simp only [rFormed, rbF, Option.bind_some]
  cases fmd x y <;> cases bfm a b c d <;> simp only [Bool.true_and, Bool.false_and, Bool.false_eq_true, if_true, if_false]
  by_cases h1 : a ≤ x
  · rw [if_pos h1]
    by_cases h2 : x ≤ c
    · rw [if_pos h2]
      by_cases h3 : b ≤ y
      · rw [if_pos h3]; exact dec_t (by omega)
      · rw [if_neg h3]; exact dec_f (by omega)
    · rw [if_neg h2]; exact dec_f (by omega)
  · rw [if_neg h1]; exact dec_f (by omega)
theorem zOver (a b c d e f g h : Int) : box_Overlap.f a b c d e f g h = some (ovl a b c d e f g h) := by
  unfold box_Overlap.f ovl
  simp only [zbF, Option.bind_some]
  cases bfm a b c d <;> cases bfm e f g h <;> simp only [Bool.true_and, Bool.false_and, Bool.false_eq_true, Bool.not_true, if_true, if_false]
  by_cases h1 : a < g
  · rw [if_pos h1]
    by_cases h2 : e < c
    · rw [if_pos h2]
      by_cases h3 : b < h
      · rw [if_pos h3]; exact dec_t (by omega)
      · rw [if_neg h3]; exact dec_f (by omega)
    · rw [if_neg h2]; exact dec_f (by omega)
  · rw [if_neg h1]; exact dec_f (by omega)
theorem rOver (a b c d e f g h : Int) : ricochetref03_Overlap.f a b c d e f g h = some (ovl a b c d e f g h) := by
  unfold ricochetref03_Overlap.f ovl
  simp only [rbF, Option.bind_some]
  cases bfm a b c d <;> cases bfm e f g h <;> simp only [Bool.true_and, Bool.false_and, Bool.false_eq_true, Bool.not_true, if_true, if_false]
  by_cases h1 : c ≤ e
  · rw [if_pos h1]; exact dec_f (by omega)
  · rw [if_neg h1]
    by_cases h2 : g ≤ a
    · rw [if_pos h2]; exact dec_f (by omega)
    · rw [if_neg h2]
      by_cases h3 : d ≤ f
      · rw [if_pos h3]; exact dec_f (by omega)
      · rw [if_neg h3]; exact dec_n (by omega)
end BoxTellsAid
open BoxTellsAid
theorem BoxTells (a b c d e f g h x y : Int) (_ : (Lit.int .i64 a).wf = true) (_ : (Lit.int .i64 b).wf = true) (_ : (Lit.int .i64 c).wf = true) (_ : (Lit.int .i64 d).wf = true) (_ : (Lit.int .i64 e).wf = true) (_ : (Lit.int .i64 f).wf = true) (_ : (Lit.int .i64 g).wf = true) (_ : (Lit.int .i64 h).wf = true) (_ : (Lit.int .i64 x).wf = true) (_ : (Lit.int .i64 y).wf = true) :
    ricochetlaw03_BoxTells.f a b c d e f g h x y = some true := by
  unfold ricochetlaw03_BoxTells.f
  simp only [zawake, zbF, rbF, zIn, rIn, zOver, rOver, zplain, Option.bind_some, if_true, beq_self_eq_true]
end Go.Proofs.Ytjbeiingfcfdbaa.Pure
