/- The printed function of the law 'FixWays' answers true for all two numbers and all parts, without conditions. -/
import Derived.Test.YtkpekdkejcofiaaPFixWaysx1
import Derived.Test.YtkpekdkejcofiaaPlain
set_option linter.unusedVariables false
set_option linter.unusedSimpArgs false
namespace Go.Proofs.Ytkpekdkejcofiaa.Pure
open Go.RowKit Go.Proofs.Ytkpekdkejcofiaa.PFixWays Go.Proofs.YtkpekdkejcofiaaW.PrintWords Go.Proofs.YtkpekdkejcofiaaW.PrintLast Go.Proofs.Ytkpekdkejcofiaa.Plain
namespace FixWaysAid
theorem zHold (a : Int) : fix_Hold.f a = some (hold a) := by unfold fix_Hold.f; rw [mnmx]
theorem zheld (a b : Int) : fix_held.f a b = some (hold a, hold b) := by unfold fix_held.f; simp only [zHold, Option.bind_some]
theorem zBetween (a b : Int) {p : Int} (hp : 0 ≤ p) (hp' : p ≤ 255) : fix_Between.f a b p = some (btw (hold a) (hold b) p) := by
  have h1 := hold_bd a
  have h2 := hold_bd b
  unfold fix_Between.f
  simp only [zheld, zHold, Option.bind_some]
  have hb : -(4294967295 * 255) ≤ (hold b - hold a) * p ∧ (hold b - hold a) * p ≤ 4294967295 * 255 := mul_bd (by omega) (by omega) (by omega) (by omega) (by omega) (by omega)
  rw [wrap64_id (x := hold b - hold a) (by omega) (by omega), wrap64_id (x := p) (by omega) (by omega), wrap64_id (x := (hold b - hold a) * p) (by omega) (by omega), wrap64_id (by omega) (by omega)]
  rfl
theorem zOf (a : Int) : fix_Of.f a = some (ofn a) := by unfold fix_Of.f; simp only [zHold, Option.bind_some, ofn]
theorem zMul (a b : Int) : fix_Mul.f a b = some (hold (hold a * hold b / 65536)) := by
  have h1 := hold_mul a b
  unfold fix_Mul.f
  simp only [zheld, zHold, Option.bind_some]
  rw [wrap64_id (by omega) (by omega)]
theorem zawake : ricochetlaw01_awake.f = some true := by
  unfold ricochetlaw01_awake.f
  simp only [zMul, zOf, Option.bind_some]
  rfl
end FixWaysAid
open FixWaysAid
theorem FixWays : ricochetlaw01_FixWays.Pure := by
  intro a b p _ _ hp
  obtain ⟨hp0, hp1⟩ := wfu8 hp
  refine ⟨1, ?_⟩
  have h1 := hold_bd a
  have h2 := hold_bd b
  have f0 := zBetween a b (show (0 : Int) ≤ 0 by omega) (by omega)
  have fp := zBetween a b hp0 hp1
  have fq : p ≠ 255 → fix_Between.f a b ((p + 1) % 256) = some (btw (hold a) (hold b) (p + 1)) := by
    intro h
    rw [show (p + 1) % 256 = p + 1 by omega]
    exact zBetween a b (by omega) (by omega)
  unfold ricochetlaw01_FixWays.f
  simp only [zHold, zawake, f0, fp, Option.bind_some, if_true]
  generalize hold a = x at *
  generalize hold b = y at *
  have e0 : btw x y 0 = x := by rw [btw_eq h1.1 h1.2 h2.1 h2.2 (by omega) (by omega)]; omega
  have em := btw_eq h1.1 h1.2 h2.1 h2.2 hp0 hp1
  have hm : mn x y ≤ btw x y p ∧ btw x y p ≤ mx x y := by
    rw [em]
    unfold mn mx
    by_cases h : x ≤ y
    · have := part_bd h hp0 hp1
      omega
    · have := part_bd' (show y ≤ x by omega) hp0 hp1
      omega
  rw [e0, if_pos rfl, if_neg (by omega), if_neg (by omega)]
  simp only [ricochetlaw01_FixWays.j0]
  by_cases h255 : p = 255
  · rw [if_pos (by simp [h255])]
    simp only [zawake, f0, Option.bind_some, if_true]
    rw [e0, if_pos rfl, if_pos (by omega), decide_eq_true hm.2]
  · rw [if_neg (by simp [h255]), fq h255]
    simp only [Option.bind_some]
    have en := btw_eq h1.1 h1.2 h2.1 h2.2 (show 0 ≤ p + 1 by omega) (show p + 1 ≤ 255 by omega)
    have e3 : (y - x) * (p + 1) = (y - x) * p + (y - x) := by grind
    rw [e3] at en
    by_cases h : x ≤ y
    · rw [if_pos h, if_pos (by omega)]
    · rw [if_neg h, if_pos (by omega), decide_eq_true (by omega)]
end Go.Proofs.Ytkpekdkejcofiaa.Pure
