/- The printed function of the law 'FixRises' answers true for all three numbers, without conditions. -/
import Derived.Test.YtkpekdkejcofiaaPFixRisesx1
import Derived.Test.YtkpekdkejcofiaaPlain
set_option linter.unusedVariables false
set_option linter.unusedSimpArgs false
namespace Go.Proofs.Ytkpekdkejcofiaa.Pure
open Go.RowKit Go.Proofs.Ytkpekdkejcofiaa.PFixRises Go.Proofs.YtkpekdkejcofiaaW.PrintWords Go.Proofs.YtkpekdkejcofiaaW.PrintLast Go.Proofs.Ytkpekdkejcofiaa.Plain
namespace FixRisesAid
theorem zHold (a : Int) : fix_Hold.f a = some (hold a) := by unfold fix_Hold.f; rw [mnmx]
theorem zOf (a : Int) : fix_Of.f a = some (ofn a) := by unfold fix_Of.f; simp only [zHold, Option.bind_some, ofn]
theorem zheld (a b : Int) : fix_held.f a b = some (hold a, hold b) := by unfold fix_held.f; simp only [zHold, Option.bind_some]
theorem zMul (a b : Int) : fix_Mul.f a b = some (hold (hold a * hold b / 65536)) := by
  have h1 := hold_mul a b
  unfold fix_Mul.f
  simp only [zheld, zHold, Option.bind_some]
  rw [wrap64_id (by omega) (by omega)]
theorem zawake : ricochetlaw01_awake.f = some true := by
  unfold ricochetlaw01_awake.f
  simp only [zMul, zOf, Option.bind_some]
  rfl
theorem zAdd (a b : Int) : fix_Add.f a b = some (hold (hold a + hold b)) := by
  have h1 := hold_bd a
  have h2 := hold_bd b
  unfold fix_Add.f
  simp only [zheld, zHold, Option.bind_some]
  rw [wrap64_id (by omega) (by omega)]
theorem zFloor (a : Int) : fix_Floor.f a = some (hold a / 65536) := by unfold fix_Floor.f; simp only [zHold, Option.bind_some]
theorem zSub (a b : Int) : fix_Sub.f a b = some (hold (hold a - hold b)) := by
  have h1 := hold_bd a
  have h2 := hold_bd b
  unfold fix_Sub.f
  simp only [zheld, zHold, Option.bind_some]
  rw [wrap64_id (by omega) (by omega)]
theorem zroot (j : Nat) : ∀ (k : Nat) (x r b : Int), b = 2 ^ j → j ≤ 24 → j + 1 < k → 0 ≤ r → r ≤ 33554432 - 2 * b → 0 ≤ x → x ≤ 140737488355328 → r * r ≤ x → x < (r + 2 * b) * (r + 2 * b) →
    ∃ s, fix_Sqrt.l0 k x r b = some s ∧ Root s x ∧ s ≤ 33554431 := by
  induction j with
  | zero =>
    intro k x r b hb _ hk hr hrb hx hx' h1 h2
    obtain ⟨k, rfl⟩ : ∃ m, k = m + 2 := ⟨k - 2, by omega⟩
    have hb1 : b = 1 := by rw [hb]; rfl
    subst hb1
    have hs := sq_le (a := r + 1) (b := 33554432) (by omega) (by omega)
    have hp : 0 ≤ (r + 1) * (r + 1) := Int.mul_nonneg (by omega) (by omega)
    have st := root_step (r := r) (b := 1) (x := x) hr (by omega) h1 h2
    simp only [fix_Sqrt.l0]
    rw [if_pos (by omega), u64w (x := r + 1) (by omega) (by omega), u64w (by omega) (by omega), show (1 : Int) / 2 = 0 by decide]
    by_cases h : (r + 1) * (r + 1) ≤ x
    · rw [if_pos h, if_neg (by omega), wrap64_id (by omega) (by omega)]
      exact ⟨r + 1, rfl, ⟨by omega, (st.1 h).1, (st.1 h).2⟩, by omega⟩
    · rw [if_neg h, if_neg (by omega), wrap64_id (by omega) (by omega)]
      exact ⟨r, rfl, ⟨by omega, (st.2 h).1, (st.2 h).2⟩, by omega⟩
  | succ j ih =>
    intro k x r b hb hj hk hr hrb hx hx' h1 h2
    obtain ⟨k, rfl⟩ : ∃ m, k = m + 1 := ⟨k - 1, by omega⟩
    obtain ⟨c, hc⟩ : ∃ c : Int, c = 2 ^ j := ⟨_, rfl⟩
    have hc0 : 0 < c := by rw [hc]; exact Int.pow_pos (by omega)
    have hbc : b = 2 * c := by rw [hb, hc, Int.pow_succ]; omega
    have hs := sq_le (a := r + b) (b := 33554432) (by omega) (by omega)
    have hp : 0 ≤ (r + b) * (r + b) := Int.mul_nonneg (by omega) (by omega)
    have st := root_step (r := r) (b := b) (x := x) hr (by omega) h1 h2
    simp only [fix_Sqrt.l0]
    rw [if_pos (by omega), u64w (x := r + b) (by omega) (by omega), u64w (by omega) (by omega), show b / 2 = c by omega]
    by_cases h : (r + b) * (r + b) ≤ x
    · rw [if_pos h]
      have g := (st.1 h).2
      rw [show r + b + b = r + b + 2 * c by omega] at g
      exact ih k x (r + b) c hc (by omega) (by omega) (by omega) (by omega) hx hx' h g
    · rw [if_neg h]
      have g := (st.2 h).2
      rw [show r + b = r + 2 * c by omega] at g
      exact ih k x r c hc (by omega) (by omega) hr (by omega) hx hx' h1 g
/-- What the root is of. -/
def rx (a : Int) : Int := mx (hold a) 0 * 65536
theorem rx_bd (a : Int) : 0 ≤ rx a ∧ rx a ≤ 140737488289792 := by have := hold_bd a; unfold rx mx; omega
theorem zSqrt (a : Int) (k : Nat) : ∃ s, fix_Sqrt.f (k + 27) a = some s ∧ Root s (rx a) ∧ s ≤ 33554431 := by
  have h1 := hold_bd a
  have hm : 0 ≤ mx (hold a) 0 ∧ mx (hold a) 0 ≤ 2147483647 := by unfold mx; omega
  unfold fix_Sqrt.f
  simp only [zHold, Option.bind_some]
  rw [u64w (x := mx (hold a) 0) (by omega) (by omega), u64w (by omega) (by omega)]
  exact zroot 24 _ _ 0 16777216 (by decide) (by omega) (by omega) (by omega) (by omega) (by omega) (by omega) (by omega) (by omega)
end FixRisesAid
open FixRisesAid
theorem FixRises : ricochetlaw01_FixRises.Pure := by
  intro a b c _ _ _
  refine ⟨30, ?_⟩
  unfold ricochetlaw01_FixRises.f
  simp only [zawake, Option.bind_some, if_true]
  by_cases hab : a > b
  · rw [decide_eq_true hab]
    simp only [ricochetlaw01_FixRises.j0, zawake, Option.bind_some, if_true]
  · rw [decide_eq_false hab]
    have h := hold_mono (show a ≤ b by omega)
    obtain ⟨s, hs, S, _⟩ := zSqrt a 2
    obtain ⟨t, ht, T, _⟩ := zSqrt b 2
    have hst : s ≤ t := S.mono T (by unfold rx mx; omega)
    simp only [ricochetlaw01_FixRises.j0, Bool.false_eq_true, if_false]
    rw [hs, ht]
    simp only [zAdd, zSub, zFloor, Option.bind_some]
    have m1 := hold_mono (show hold a + hold c ≤ hold b + hold c by omega)
    have m2 := hold_mono (show hold c - hold b ≤ hold c - hold a by omega)
    rw [if_neg (by omega), if_neg (by omega), if_neg (by omega), decide_eq_false (by omega)]
    simp only [ricochetlaw01_FixRises.j1, Bool.false_eq_true, if_false]
    by_cases hc : c < 0
    · rw [if_pos hc]
    · rw [if_neg hc]
      simp only [zMul, Option.bind_some]
      have hc0 : 0 ≤ hold c := by unfold hold; omega
      have e := Int.mul_le_mul_of_nonneg_right h hc0
      have := hold_mono (Int.ediv_le_ediv (show (0 : Int) < 65536 by omega) e)
      rw [decide_eq_true this]
end Go.Proofs.Ytkpekdkejcofiaa.Pure
