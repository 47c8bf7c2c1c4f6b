/- The printed function of the law 'BoxAbout' answers true for all places and halves, without conditions. -/
import Derived.Test.YtjbeiingfcfdbaaPBoxAboutx3
import Derived.Test.YtjbeiingfcfdbaaPlain
set_option linter.unusedVariables false
set_option linter.unusedSimpArgs false
namespace Go.Proofs.Ytjbeiingfcfdbaa.Pure
open Go.RowKit Go.Proofs.Ytjbeiingfcfdbaa.PBoxAbout Go.Proofs.YtjbeiingfcfdbaaW.PrintWords Go.Proofs.YtjbeiingfcfdbaaW.PrintLast Go.Proofs.Ytjbeiingfcfdbaa.Plain
namespace BoxAboutAid
theorem zFormed (a b : Int) : vec_Formed.f a b = some (fmd a b) := by
  unfold vec_Formed.f fmd
  by_cases h1 : a ≥ -134217728
  · rw [if_pos h1]
    by_cases h2 : a ≤ 134217728
    · rw [if_pos h2]
      by_cases h3 : b ≥ -134217728
      · rw [if_pos h3]; exact dec_t (by omega)
      · rw [if_neg h3]; exact dec_f (by omega)
    · rw [if_neg h2]; exact dec_f (by omega)
  · rw [if_neg h1]; exact dec_f (by omega)
theorem zbF (a b c d : Int) : box_Formed.f a b c d = some (bfm a b c d) := by
  unfold box_Formed.f bfm
  simp only [zFormed, Option.bind_some]
  cases fmd a b <;> cases fmd c d <;> simp only [Bool.true_and, Bool.false_and, Bool.false_eq_true, if_true, if_false]
  by_cases h1 : a ≤ c
  · rw [if_pos h1]; exact dec_t (by omega)
  · rw [if_neg h1]; exact dec_f (by omega)
theorem zIn (x y a b c d : Int) : box_In.f x y a b c d = some (binn x y a b c d) := by
  unfold box_In.f binn
  simp only [zFormed, zbF, Option.bind_some]
  cases fmd x y <;> cases bfm a b c d <;> simp only [Bool.true_and, Bool.false_and, Bool.false_eq_true, if_true, if_false]
  by_cases h1 : x ≥ a
  · rw [if_pos h1]
    by_cases h2 : x ≤ c
    · rw [if_pos h2]
      by_cases h3 : y ≥ b
      · rw [if_pos h3]; exact dec_t (by omega)
      · rw [if_neg h3]; exact dec_f (by omega)
    · rw [if_neg h2]; exact dec_f (by omega)
  · rw [if_neg h1]; exact dec_f (by omega)
theorem zawake : ricochetlaw03_awake.f = some true := by
  unfold ricochetlaw03_awake.f
  simp only [zbF, zIn, Option.bind_some]
  decide
theorem zOver (a b c d e f g h : Int) : box_Overlap.f a b c d e f g h = some (ovl a b c d e f g h) := by
  unfold box_Overlap.f ovl
  simp only [zbF, Option.bind_some]
  cases bfm a b c d <;> cases bfm e f g h <;> simp only [Bool.true_and, Bool.false_and, Bool.false_eq_true, Bool.not_true, if_true, if_false]
  by_cases h1 : a < g
  · rw [if_pos h1]
    by_cases h2 : e < c
    · rw [if_pos h2]
      by_cases h3 : b < h
      · rw [if_pos h3]; exact dec_t (by omega)
      · rw [if_neg h3]; exact dec_f (by omega)
    · rw [if_neg h2]; exact dec_f (by omega)
  · rw [if_neg h1]; exact dec_f (by omega)
theorem zHold (a : Int) : fix_Hold.f a = some (hold a) := by unfold fix_Hold.f; rw [mnmx]
theorem zheld (a b : Int) : fix_held.f a b = some (hold a, hold b) := by unfold fix_held.f; simp only [zHold, Option.bind_some]
theorem zSub (a b : Int) : fix_Sub.f a b = some (hold (hold a - hold b)) := by
  have h1 := hold_bd a
  have h2 := hold_bd b
  unfold fix_Sub.f
  simp only [zheld, zHold, Option.bind_some]
  rw [wrap64_id (by omega) (by omega)]
theorem zvSub (a b c d : Int) : vec_Sub.f a b c d = some (hold (hold a - hold c), hold (hold b - hold d)) := by unfold vec_Sub.f; simp only [zSub, Option.bind_some]
theorem zAdd (a b : Int) : fix_Add.f a b = some (hold (hold a + hold b)) := by
  have h1 := hold_bd a
  have h2 := hold_bd b
  unfold fix_Add.f
  simp only [zheld, zHold, Option.bind_some]
  rw [wrap64_id (by omega) (by omega)]
theorem zvAdd (a b c d : Int) : vec_Add.f a b c d = some (hold (hold a + hold c), hold (hold b + hold d)) := by unfold vec_Add.f; simp only [zAdd, Option.bind_some]
theorem zAround (x y h : Int) : box_Around.f x y h = some (hold (hold x - hold h), hold (hold y - hold h), hold (hold x + hold h), hold (hold y + hold h)) := by
  unfold box_Around.f; simp only [zvSub, zvAdd, Option.bind_some]
theorem znear {x y h : Int} (h1 : -2097152 ≤ x) (h2 : x ≤ 2097152) (h3 : -2097152 ≤ y) (h4 : y ≤ 2097152) (h5 : 0 ≤ h) (h6 : h ≤ 65535) : ricochetlaw03_near.f x y h = some (decide (x - y < 2 * h ∧ y - x < 2 * h)) := by
  unfold ricochetlaw03_near.f
  rw [wrap64_id (x := x - y) (by omega) (by omega), wrap64_id (x := y - x) (by omega) (by omega), wrap64_id (x := 2 * h) (by omega) (by omega)]
  by_cases hh : x - y < 2 * h
  · rw [if_pos hh]; exact dec_t (by omega)
  · rw [if_neg hh]; exact dec_f (by omega)
end BoxAboutAid
open BoxAboutAid
theorem BoxAbout (a b c d p : Int) (_ : (Lit.int .i64 a).wf = true) (_ : (Lit.int .i64 b).wf = true) (_ : (Lit.int .i64 c).wf = true) (_ : (Lit.int .i64 d).wf = true) (hp : (Lit.int .u16 p).wf = true) :
    ∃ k, ricochetlaw03_BoxAbout.f k a b c d p = some true := by
  obtain ⟨p0, p1⟩ := wfu16 hp
  refine ⟨1, ?_⟩
  have no : ricochetlaw03_BoxAbout.j0 1 p true a b c d = some true := by simp only [ricochetlaw03_BoxAbout.j0, zawake, Option.bind_some, if_true]
  unfold ricochetlaw03_BoxAbout.f
  simp only [zawake, Option.bind_some, if_true]
  by_cases h1 : a > 2097152
  · rw [if_pos h1]; exact no
  rw [if_neg h1]
  by_cases h2 : a < -2097152
  · rw [if_pos h2]; exact no
  rw [if_neg h2]
  by_cases h3 : b > 2097152
  · rw [if_pos h3]; exact no
  rw [if_neg h3]
  by_cases h4 : b < -2097152
  · rw [if_pos h4]; exact no
  rw [if_neg h4]
  by_cases h5 : c > 2097152
  · rw [if_pos h5]; exact no
  rw [if_neg h5]
  by_cases h6 : c < -2097152
  · rw [if_pos h6]; exact no
  rw [if_neg h6]
  by_cases h7 : d > 2097152
  · rw [if_pos h7]; exact no
  rw [if_neg h7]
  by_cases h8 : d < -2097152
  · rw [decide_eq_true h8]; exact no
  rw [decide_eq_false h8]
  simp only [ricochetlaw03_BoxAbout.j0, Bool.false_eq_true, if_false]
  rw [wrap64_id (x := p) (by omega) (by omega), znear (x := a) (y := c) (by omega) (by omega) (by omega) (by omega) p0 p1, znear (x := b) (y := d) (by omega) (by omega) (by omega) (by omega) p0 p1]
  simp only [zAround, Option.bind_some]
  rw [hold_id (x := a) (by omega) (by omega), hold_id (x := b) (by omega) (by omega), hold_id (x := c) (by omega) (by omega), hold_id (x := d) (by omega) (by omega), hold_id (x := p) (by omega) (by omega),
    hold_id (x := a - p) (by omega) (by omega), hold_id (x := b - p) (by omega) (by omega), hold_id (x := c - p) (by omega) (by omega), hold_id (x := d - p) (by omega) (by omega), hold_id (x := a + p) (by omega) (by omega), hold_id (x := b + p) (by omega) (by omega), hold_id (x := c + p) (by omega) (by omega), hold_id (x := d + p) (by omega) (by omega)]
  simp only [zOver, zIn, Option.bind_some]
  have f1 : ∀ x y : Int, -2097152 ≤ x → x ≤ 2097152 → -2097152 ≤ y → y ≤ 2097152 → bfm (x - p) (y - p) (x + p) (y + p) = true := by
    intro x y _ _ _ _
    unfold bfm fmd
    simp
    omega
  have g1 := f1 a b (by omega) (by omega) (by omega) (by omega)
  have g2 := f1 c d (by omega) (by omega) (by omega) (by omega)
  have hin : binn a b (a - p) (b - p) (a + p) (b + p) = true := by
    unfold binn
    rw [g1]
    unfold fmd
    simp
    omega
  rw [hin]
  unfold ovl
  rw [g1, g2]
  by_cases n1 : a - c < 2 * p ∧ c - a < 2 * p
  · rw [if_pos (decide_eq_true n1)]
    have e : (true && true && decide (a - p < c + p ∧ c - p < a + p ∧ b - p < d + p ∧ d - p < b + p)) = decide (b - d < 2 * p ∧ d - b < 2 * p) := by
      rw [Bool.true_and, Bool.true_and, decide_eq_decide]
      omega
    rw [e]
    simp
  · rw [if_neg (by simpa using n1)]
    have e : (true && true && decide (a - p < c + p ∧ c - p < a + p ∧ b - p < d + p ∧ d - p < b + p)) = false := by
      rw [Bool.true_and, Bool.true_and, decide_eq_false_iff_not]
      omega
    rw [e]
    simp
end Go.Proofs.Ytjbeiingfcfdbaa.Pure
