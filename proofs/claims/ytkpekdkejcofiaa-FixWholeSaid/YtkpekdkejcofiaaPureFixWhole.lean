/- The printed function of the law 'FixWhole' answers true for all two whole numbers of eight bits, without conditions. -/
import Derived.Test.YtkpekdkejcofiaaPFixWholex1
import Derived.Test.YtkpekdkejcofiaaPlain
set_option linter.unusedVariables false
set_option linter.unusedSimpArgs false
namespace Go.Proofs.Ytkpekdkejcofiaa.Pure
open Go.RowKit Go.Proofs.Ytkpekdkejcofiaa.PFixWhole Go.Proofs.YtkpekdkejcofiaaW.PrintWords Go.Proofs.YtkpekdkejcofiaaW.PrintLast Go.Proofs.Ytkpekdkejcofiaa.Plain
namespace FixWholeAid
theorem zHold (a : Int) : fix_Hold.f a = some (hold a) := by unfold fix_Hold.f; rw [mnmx]
theorem zOf (a : Int) : fix_Of.f a = some (ofn a) := by unfold fix_Of.f; simp only [zHold, Option.bind_some, ofn]
theorem zheld (a b : Int) : fix_held.f a b = some (hold a, hold b) := by unfold fix_held.f; simp only [zHold, Option.bind_some]
theorem zMul (a b : Int) : fix_Mul.f a b = some (hold (hold a * hold b / 65536)) := by
  have h1 := hold_mul a b
  unfold fix_Mul.f
  simp only [zheld, zHold, Option.bind_some]
  rw [wrap64_id (by omega) (by omega)]
theorem zawake : ricochetlaw01_awake.f = some true := by
  unfold ricochetlaw01_awake.f
  simp only [zMul, zOf, Option.bind_some]
  rfl
theorem zAdd (a b : Int) : fix_Add.f a b = some (hold (hold a + hold b)) := by
  have h1 := hold_bd a
  have h2 := hold_bd b
  unfold fix_Add.f
  simp only [zheld, zHold, Option.bind_some]
  rw [wrap64_id (by omega) (by omega)]
theorem zFloor (a : Int) : fix_Floor.f a = some (hold a / 65536) := by unfold fix_Floor.f; simp only [zHold, Option.bind_some]
theorem zSub (a b : Int) : fix_Sub.f a b = some (hold (hold a - hold b)) := by
  have h1 := hold_bd a
  have h2 := hold_bd b
  unfold fix_Sub.f
  simp only [zheld, zHold, Option.bind_some]
  rw [wrap64_id (by omega) (by omega)]
end FixWholeAid
open FixWholeAid
theorem FixWhole : ricochetlaw01_FixWhole.Pure := by
  intro a b ha hb
  obtain ⟨a0, a1⟩ := wfi8 ha
  obtain ⟨b0, b1⟩ := wfi8 hb
  have o : ∀ n : Int, -16384 ≤ n → n ≤ 16384 → ofn n = n * 65536 := by
    intro n h1 h2
    unfold ofn mn mx
    rw [hold_id (by omega) (by omega)]
    omega
  have hab : -(128 * 128) ≤ a * b ∧ a * b ≤ 128 * 128 := mul_bd (by omega) (by omega) (by omega) (by omega) (by omega) (by omega)
  unfold ricochetlaw01_FixWhole.f
  rw [wrap64_id (x := a) (by omega) (by omega), wrap64_id (x := b) (by omega) (by omega), wrap64_id (x := a + b) (by omega) (by omega), wrap64_id (x := a * b) (by omega) (by omega), wrap64_id (x := a - b) (by omega) (by omega)]
  simp only [zawake, zOf, zAdd, zMul, zFloor, zSub, Option.bind_some, if_true]
  rw [o a (by omega) (by omega), o b (by omega) (by omega), o (a + b) (by omega) (by omega), o (a * b) (by omega) (by omega), o (a - b) (by omega) (by omega)]
  rw [hold_id (x := a * 65536) (by omega) (by omega), hold_id (x := b * 65536) (by omega) (by omega), hold_id (x := a * 65536 + b * 65536) (by omega) (by omega), hold_id (x := a * 65536 - b * 65536) (by omega) (by omega)]
  have e : a * 65536 * (b * 65536) = a * b * 65536 * 65536 := by grind
  rw [e, show a * b * 65536 * 65536 / 65536 = a * b * 65536 by omega, hold_id (x := a * b * 65536) (by omega) (by omega)]
  rw [if_pos (by omega), if_pos rfl, if_pos (by omega)]
  simp
  omega
end Go.Proofs.Ytkpekdkejcofiaa.Pure
