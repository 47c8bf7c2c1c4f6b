/- The law 'BoxTimes' returns true for all times, places and halves; without conditions. -/
import Derived.Test.YtjbeiingfcfdbaaTimesY
import Derived.Test.YtjbeiingfcfdbaaPlain
set_option linter.unusedVariables false
set_option linter.unusedSimpArgs false
namespace Go.Proofs.Ytjbeiingfcfdbaa.Pure
open Go.RowKit Go.Proofs.Ytjbeiingfcfdbaa.PBoxTimes Go.Proofs.YtjbeiingfcfdbaaW.PrintWords Go.Proofs.YtjbeiingfcfdbaaW.PrintLast Go.Proofs.Ytjbeiingfcfdbaa.Plain
namespace BoxTimesAid
theorem zFormed (a b : Int) : vec_Formed.f a b = some (fmd a b) := by
  unfold vec_Formed.f fmd
  by_cases h1 : a ≥ -134217728
  · rw [if_pos h1]
    by_cases h2 : a ≤ 134217728
    · rw [if_pos h2]
      by_cases h3 : b ≥ -134217728
      · rw [if_pos h3]; exact dec_t (by omega)
      · rw [if_neg h3]; exact dec_f (by omega)
    · rw [if_neg h2]; exact dec_f (by omega)
  · rw [if_neg h1]; exact dec_f (by omega)
theorem zbF (a b c d : Int) : box_Formed.f a b c d = some (bfm a b c d) := by
  unfold box_Formed.f bfm
  simp only [zFormed, Option.bind_some]
  cases fmd a b <;> cases fmd c d <;> simp only [Bool.true_and, Bool.false_and, Bool.false_eq_true, if_true, if_false]
  by_cases h1 : a ≤ c
  · rw [if_pos h1]; exact dec_t (by omega)
  · rw [if_neg h1]; exact dec_f (by omega)
theorem zIn (x y a b c d : Int) : box_In.f x y a b c d = some (binn x y a b c d) := by
  unfold box_In.f binn
  simp only [zFormed, zbF, Option.bind_some]
  cases fmd x y <;> cases bfm a b c d <;> simp only [Bool.true_and, Bool.false_and, Bool.false_eq_true, if_true, if_false]
  by_cases h1 : x ≥ a
  · rw [if_pos h1]
    by_cases h2 : x ≤ c
    · rw [if_pos h2]
      by_cases h3 : y ≥ b
      · rw [if_pos h3]; exact dec_t (by omega)
      · rw [if_neg h3]; exact dec_f (by omega)
    · rw [if_neg h2]; exact dec_f (by omega)
  · rw [if_neg h1]; exact dec_f (by omega)
theorem zawake : ricochetlaw03_awake.f = some true := by
  unfold ricochetlaw03_awake.f
  simp only [zbF, zIn, Option.bind_some]
  decide
theorem zright (a b : Int) : box_right.f a b = some (rght (a, b)) := by
  unfold box_right.f rght
  by_cases h1 : b ≥ 1
  · rw [if_pos h1]
    by_cases h2 : b ≤ 1073741824
    · rw [if_pos h2]
      by_cases h3 : a ≥ 0
      · rw [if_pos h3]; exact dec_t (by omega)
      · rw [if_neg h3]; exact dec_f (by omega)
    · rw [if_neg h2]; exact dec_f (by omega)
  · rw [if_neg h1]; exact dec_f (by omega)
theorem zAhead (a b c d : Int) : box_Ahead.f a b c d = some (ahd (a, b) (c, d)) := by
  unfold box_Ahead.f
  simp only [zright, Option.bind_some]
  by_cases h1 : rght (a, b) = true
  · rw [if_pos h1]
    by_cases h2 : rght (c, d) = true
    · rw [if_pos h2, ahd_ok h1 h2]
      unfold rght at h1 h2
      simp only [decide_eq_true_eq] at h1 h2
      have e1 : -(1073741824 * 1073741824) ≤ a * d ∧ a * d ≤ 1073741824 * 1073741824 := mul_bd (by omega) (by omega) (by omega) (by omega) (by omega) (by omega)
      have e2 : -(1073741824 * 1073741824) ≤ c * b ∧ c * b ≤ 1073741824 * 1073741824 := mul_bd (by omega) (by omega) (by omega) (by omega) (by omega) (by omega)
      rw [wrap64_id (x := a * d) (by omega) (by omega), wrap64_id (x := c * b) (by omega) (by omega)]
    · rw [if_neg h2]
      unfold ahd
      simp [h2]
  · rw [if_neg h1]
    unfold ahd
    simp [h1]
theorem zplain (a b c d : Int) : ricochetlaw03_plain.f a b c d = some (a, b, c, d) := rfl
theorem rright (a b : Int) : ricochetref03_right.f a b = some (rght (a, b)) := by
  unfold ricochetref03_right.f rght
  by_cases h1 : b ≥ 1
  · rw [if_pos h1]
    by_cases h2 : b ≤ 1073741824
    · rw [if_pos h2]
      by_cases h3 : a ≥ 0
      · rw [if_pos h3]; exact dec_t (by omega)
      · rw [if_neg h3]; exact dec_f (by omega)
    · rw [if_neg h2]; exact dec_f (by omega)
  · rw [if_neg h1]; exact dec_f (by omega)
theorem rAhead (a b c d : Int) : ricochetref03_Ahead.f a b c d = some (ahd (a, b) (c, d)) := by
  unfold ricochetref03_Ahead.f
  simp only [rright, Option.bind_some]
  by_cases h1 : rght (a, b) = true
  · rw [if_pos h1]
    by_cases h2 : rght (c, d) = true
    · rw [if_pos h2, ahd_ok h1 h2]
      unfold rght at h1 h2
      simp only [decide_eq_true_eq] at h1 h2
      have e1 : -(1073741824 * 1073741824) ≤ a * d ∧ a * d ≤ 1073741824 * 1073741824 := mul_bd (by omega) (by omega) (by omega) (by omega) (by omega) (by omega)
      have e2 : -(1073741824 * 1073741824) ≤ c * b ∧ c * b ≤ 1073741824 * 1073741824 := mul_bd (by omega) (by omega) (by omega) (by omega) (by omega) (by omega)
      rw [wrap64_id (x := a * d) (by omega) (by omega), wrap64_id (x := c * b) (by omega) (by omega)]
    · rw [if_neg h2]
      unfold ahd
      simp [h2]
  · rw [if_neg h1]
    unfold ahd
    simp [h1]
theorem zHold (a : Int) : fix_Hold.f a = some (hold a) := by unfold fix_Hold.f; rw [mnmx]
theorem zheld (a b : Int) : fix_held.f a b = some (hold a, hold b) := by unfold fix_held.f; simp only [zHold, Option.bind_some]
theorem zSub (a b : Int) : fix_Sub.f a b = some (hold (hold a - hold b)) := by
  have h1 := hold_bd a
  have h2 := hold_bd b
  unfold fix_Sub.f
  simp only [zheld, zHold, Option.bind_some]
  rw [wrap64_id (by omega) (by omega)]
theorem zvSub (a b c d : Int) : vec_Sub.f a b c d = some (hold (hold a - hold c), hold (hold b - hold d)) := by unfold vec_Sub.f; simp only [zSub, Option.bind_some]
theorem zAdd (a b : Int) : fix_Add.f a b = some (hold (hold a + hold b)) := by
  have h1 := hold_bd a
  have h2 := hold_bd b
  unfold fix_Add.f
  simp only [zheld, zHold, Option.bind_some]
  rw [wrap64_id (by omega) (by omega)]
theorem zvAdd (a b c d : Int) : vec_Add.f a b c d = some (hold (hold a + hold c), hold (hold b + hold d)) := by unfold vec_Add.f; simp only [zAdd, Option.bind_some]
theorem zAround (x y h : Int) : box_Around.f x y h = some (hold (hold x - hold h), hold (hold y - hold h), hold (hold x + hold h), hold (hold y + hold h)) := by
  unfold box_Around.f; simp only [zvSub, zvAdd, Option.bind_some]
theorem rHold (a : Int) : ricochetref01_Hold.f a = some (hold a) := by unfold ricochetref01_Hold.f hold; split; rfl; split <;> rfl
theorem rwhole (a : Int) : ricochetref01_whole.f a = some (hold a) := by unfold ricochetref01_whole.f; simp only [rHold, Option.bind_some]
theorem rSub (a b : Int) : ricochetref01_Sub.f a b = some (hold (hold a - hold b)) := by
  have h1 := hold_bd a
  have h2 := hold_bd b
  unfold ricochetref01_Sub.f
  simp only [rwhole, rHold, Option.bind_some]
  rw [wrap64_id (by omega) (by omega)]
theorem rAdd (a b : Int) : ricochetref01_Add.f a b = some (hold (hold a + hold b)) := by
  have h1 := hold_bd a
  have h2 := hold_bd b
  unfold ricochetref01_Add.f
  simp only [rwhole, rHold, Option.bind_some]
  rw [wrap64_id (by omega) (by omega)]
theorem rAround (x y h : Int) : ricochetref03_Around.f x y h = some (hold (hold x - hold h), hold (hold y - hold h), hold (hold x + hold h), hold (hold y + hold h)) := by
  unfold ricochetref03_Around.f; simp only [rSub, rAdd, Option.bind_some]
end BoxTimesAid
open BoxTimesAid
end Go.Proofs.Ytjbeiingfcfdbaa.Pure
namespace Go.Proofs.Ytjbeiingfcfdbaa.PBoxTimes
open Go.RowKit Go.Proofs.YtjbeiingfcfdbaaW.PrintWords Go.Proofs.Ytjbeiingfcfdbaa.Plain Go.Proofs.Ytjbeiingfcfdbaa.Pure.BoxTimesAid
theorem ricochetlaw03_BoxTimes.calls (s0 s1 t0 t1 x y h : Int) (w : World) (_ : (Lit.int .i64 s0).wf = true) (_ : (Lit.int .i64 s1).wf = true) (_ : (Lit.int .i64 t0).wf = true) (_ : (Lit.int .i64 t1).wf = true) (_ : (Lit.int .i64 x).wf = true) (_ : (Lit.int .i64 y).wf = true) (_ : (Lit.int .i64 h).wf = true) :
    Calls Try.prog 5 #[.agg #[.int .i64 s0, .int .i64 s1], .agg #[.int .i64 t0, .int .i64 t1], .agg #[.int .i64 x, .int .i64 y, .int .i64 h]] w fun e w' => e = .returned (.bool true) ∧ Below w.heap.size w w' :=
  times_walk s0 s1 t0 t1 x y h _ _ _ _ _ w ⟨zawake⟩ ⟨zAhead s0 s1 t0 t1⟩ ⟨rAhead s0 s1 t0 t1⟩ ⟨zAround x y h⟩ ⟨rfl⟩ ⟨rSub x h⟩ ⟨rSub y h⟩ ⟨rAdd x h⟩ ⟨rAdd y h⟩
end Go.Proofs.Ytjbeiingfcfdbaa.PBoxTimes
namespace Go.Proofs.Ytjbeiingfcfdbaa.Pure
end Go.Proofs.Ytjbeiingfcfdbaa.Pure
