/- The printed function of the law 'FixReckons' answers true for all two numbers, without conditions. -/
import Derived.Test.YtkpekdkejcofiaaPFixReckonsx1
import Derived.Test.YtkpekdkejcofiaaPlain
set_option linter.unusedVariables false
set_option linter.unusedSimpArgs false
namespace Go.Proofs.Ytkpekdkejcofiaa.Pure
open Go.RowKit Go.Proofs.Ytkpekdkejcofiaa.PFixReckons Go.Proofs.YtkpekdkejcofiaaW.PrintWords Go.Proofs.YtkpekdkejcofiaaW.PrintLast Go.Proofs.Ytkpekdkejcofiaa.Plain
namespace FixReckonsAid
theorem zHold (a : Int) : fix_Hold.f a = some (hold a) := by unfold fix_Hold.f; rw [mnmx]
theorem zOf (a : Int) : fix_Of.f a = some (ofn a) := by unfold fix_Of.f; simp only [zHold, Option.bind_some, ofn]
theorem zheld (a b : Int) : fix_held.f a b = some (hold a, hold b) := by unfold fix_held.f; simp only [zHold, Option.bind_some]
theorem zMul (a b : Int) : fix_Mul.f a b = some (hold (hold a * hold b / 65536)) := by
  have h1 := hold_mul a b
  unfold fix_Mul.f
  simp only [zheld, zHold, Option.bind_some]
  rw [wrap64_id (by omega) (by omega)]
theorem zawake : ricochetlaw01_awake.f = some true := by
  unfold ricochetlaw01_awake.f
  simp only [zMul, zOf, Option.bind_some]
  rfl
theorem zAdd (a b : Int) : fix_Add.f a b = some (hold (hold a + hold b)) := by
  have h1 := hold_bd a
  have h2 := hold_bd b
  unfold fix_Add.f
  simp only [zheld, zHold, Option.bind_some]
  rw [wrap64_id (by omega) (by omega)]
theorem zSub (a b : Int) : fix_Sub.f a b = some (hold (hold a - hold b)) := by
  have h1 := hold_bd a
  have h2 := hold_bd b
  unfold fix_Sub.f
  simp only [zheld, zHold, Option.bind_some]
  rw [wrap64_id (by omega) (by omega)]
theorem zDiv (a b : Int) (k : Nat) : fix_Div.f (k + 2) a b = some (dvn (hold a) (hold b)) := by
  have h1 := hold_bd a
  have h2 := hold_bd b
  unfold fix_Div.f
  simp only [zheld, Option.bind_some]
  generalize hold a = x at *
  generalize hold b = y at *
  by_cases hy : y = 0
  · rw [if_pos hy]
    simp only [fix_Div.j0, fix_Div.j1, dvn]
    rw [if_pos hy]
    by_cases hx : x = 0
    · simp [hx, hy]
    · simp only [hx, beq_iff_eq, if_false, if_pos hy]
      by_cases hx' : x > 0
      · simp [hx']
      · simp [hx', hy]
  · rw [if_neg hy]
    simp only [fix_Div.j0, fix_Div.j1, dvn, Bool.false_eq_true, if_false]
    rw [if_neg hy, if_neg hy, if_neg hy]
    have tmd : ∀ p q : Int, 0 < q → -140737488355328 ≤ p → p ≤ 140737488355328 → (if p.tmod q < 0 then (fix_Hold.f (wrap64 (wrap64 (p.tdiv q) - 1))).bind (fun t => some t) else (fix_Hold.f (wrap64 (p.tdiv q))).bind (fun t => some t)) = some (hold (p / q)) := by
      intro p q hq hp hp'
      have e := tmod_down (a := p) (b := q) hq
      have e1 : p / q * q ≤ p := Int.ediv_mul_le p (by omega)
      have e2 := Int.lt_ediv_add_one_mul_self p hq
      have lo : -140737488355328 ≤ p / q := by
        apply (Int.le_ediv_iff_mul_le hq).2
        have : (-140737488355328 : Int) * q ≤ -140737488355328 * 1 := by omega
        omega
      have hi : p / q ≤ 140737488355328 := by
        have := (Int.ediv_lt_iff_lt_mul (a := p) (b := 140737488355329) hq).2 (by omega)
        omega
      by_cases h : p.tmod q < 0
      · rw [if_pos h] at e ⊢
        rw [wrap64_id (x := p.tdiv q) (by omega) (by omega), e, wrap64_id (by omega) (by omega), zHold]
        rfl
      · rw [if_neg h] at e ⊢
        rw [e, wrap64_id (by omega) (by omega), zHold]
        rfl
    by_cases hy' : y < 0
    · rw [if_pos hy', if_pos hy', wrap64_id (x := -y) (by omega) (by omega), if_neg (by omega), wrap64_id (x := -x) (by omega) (by omega), wrap64_id (x := -x * 65536) (by omega) (by omega)]
      exact tmd (-x * 65536) (-y) (by omega) (by omega) (by omega)
    · rw [if_neg hy', if_neg hy', wrap64_id (x := x * 65536) (by omega) (by omega)]
      exact tmd (x * 65536) y (by omega) (by omega) (by omega)
theorem rHold (a : Int) : ricochetref01_Hold.f a = some (hold a) := by unfold ricochetref01_Hold.f hold; split; rfl; split <;> rfl
theorem rwhole (a : Int) : ricochetref01_whole.f a = some (hold a) := by unfold ricochetref01_whole.f; simp only [rHold, Option.bind_some]
theorem rAdd (a b : Int) : ricochetref01_Add.f a b = some (hold (hold a + hold b)) := by
  have h1 := hold_bd a
  have h2 := hold_bd b
  unfold ricochetref01_Add.f
  simp only [rwhole, rHold, Option.bind_some]
  rw [wrap64_id (by omega) (by omega)]
theorem rSub (a b : Int) : ricochetref01_Sub.f a b = some (hold (hold a - hold b)) := by
  have h1 := hold_bd a
  have h2 := hold_bd b
  unfold ricochetref01_Sub.f
  simp only [rwhole, rHold, Option.bind_some]
  rw [wrap64_id (by omega) (by omega)]
theorem rdown {p q : Int} (hq : 0 < q) (hp : -4611686018427387904 ≤ p) (hp' : p ≤ 4611686018427387904) : ricochetref01_down.f p q = some (p / q) := by
  have e := tdiv_down (a := p) (b := q) hq
  have e1 : p / q * q ≤ p := Int.ediv_mul_le p (by omega)
  have e2 := Int.lt_ediv_add_one_mul_self p hq
  have lo : -4611686018427387904 ≤ p / q := by
    apply (Int.le_ediv_iff_mul_le hq).2
    have : (-4611686018427387904 : Int) * q ≤ -4611686018427387904 * 1 := by omega
    omega
  have hi : p / q ≤ 4611686018427387904 := by
    have := (Int.ediv_lt_iff_lt_mul (a := p) (b := 4611686018427387905) hq).2 (by omega)
    omega
  unfold ricochetref01_down.f
  rw [if_neg (by omega)]
  have e3 : (p / q + 1) * q = p / q * q + q := by grind
  have e4 := Int.tmod_add_tdiv_mul p q
  have e5 : p.tmod q < q := Int.tmod_lt_of_pos p hq
  have e6 : -q < p.tmod q := by
    have := Int.tmod_lt_of_pos (-p) hq
    rw [Int.neg_tmod] at this
    omega
  by_cases h : p.tdiv q * q > p
  · rw [if_pos h] at e
    have e7 : (p / q + 1) = p.tdiv q := by omega
    have e8 : q ≤ 4611686018427387904 ∨ 4611686018427387904 < q := by omega
    have e9 : -9223372036854775808 ≤ p.tdiv q * q ∧ p.tdiv q * q ≤ 9223372036854775807 := by
      have hq0 : p.tdiv q ≤ 0 := by
        apply Int.not_lt.1
        intro hpos
        have hp0 : 0 ≤ p := by
          apply Int.not_lt.1
          intro hneg
          have e10 := Int.neg_tdiv (a := -p) (b := q)
          rw [Int.neg_neg] at e10
          have e11 : 0 ≤ (-p).tdiv q := Int.tdiv_nonneg (by omega) (by omega)
          omega
        have := Int.tmod_nonneg q hp0
        omega
      have : p.tdiv q * q ≤ 0 := Int.mul_nonpos_of_nonpos_of_nonneg hq0 (by omega)
      omega
    rw [wrap64_id (x := p.tdiv q) (by omega) (by omega), wrap64_id (x := p.tdiv q * q) e9.1 e9.2, if_pos h, wrap64_id (by omega) (by omega), e]
  · rw [if_neg h] at e
    have e9 : -9223372036854775808 ≤ p.tdiv q * q ∧ p.tdiv q * q ≤ 9223372036854775807 := by
      rcases Int.lt_or_le p 0 with hp0 | hp0
      · have e10 : p.tmod q ≤ 0 := by
          have := Int.tmod_nonneg q (a := -p) (by omega)
          rw [Int.neg_tmod] at this
          omega
        omega
      · have := Int.tmod_nonneg q hp0
        have : 0 ≤ p.tdiv q := Int.tdiv_nonneg hp0 (by omega)
        have : 0 ≤ p.tdiv q * q := Int.mul_nonneg this (by omega)
        omega
    rw [wrap64_id (x := p.tdiv q) (by omega) (by omega), wrap64_id (x := p.tdiv q * q) e9.1 e9.2, if_neg h, e]
theorem rMul (a b : Int) : ricochetref01_Mul.f a b = some (hold (hold a * hold b / 65536)) := by
  have h1 := hold_mul a b
  unfold ricochetref01_Mul.f
  simp only [rwhole, Option.bind_some]
  rw [wrap64_id (by omega) (by omega), rdown (by omega) (by omega) (by omega)]
  simp only [rHold, Option.bind_some]
theorem rDiv (a b : Int) : ricochetref01_Div.f a b = some (dvn (hold a) (hold b)) := by
  have h1 := hold_bd a
  have h2 := hold_bd b
  unfold ricochetref01_Div.f
  simp only [rwhole, Option.bind_some]
  generalize hold a = x at *
  generalize hold b = y at *
  unfold dvn
  by_cases hy : y = 0
  · rw [if_pos hy, if_pos hy]
    split
    · rfl
    · split <;> rfl
  · rw [if_neg hy, if_neg hy]
    by_cases hy' : y < 0
    · rw [if_pos hy', if_pos hy', wrap64_id (x := -y) (by omega) (by omega), wrap64_id (x := -x) (by omega) (by omega), wrap64_id (x := -x * 65536) (by omega) (by omega), rdown (by omega) (by omega) (by omega)]
      simp only [rHold, Option.bind_some]
    · rw [if_neg hy', if_neg hy', wrap64_id (x := x * 65536) (by omega) (by omega), rdown (by omega) (by omega) (by omega)]
      simp only [rHold, Option.bind_some]
end FixReckonsAid
open FixReckonsAid
theorem FixReckons : ricochetlaw01_FixReckons.Pure := by
  intro a b _ _
  refine ⟨2, ?_⟩
  unfold ricochetlaw01_FixReckons.f
  simp only [zawake, zAdd, rAdd, zSub, rSub, zMul, rMul, rDiv, Option.bind_some, if_true]
  rw [zDiv a b 0]
  simp only [Option.bind_some, beq_self_eq_true]
end Go.Proofs.Ytkpekdkejcofiaa.Pure
