/- The printed function of the law 'FixDivides' answers true for all two numbers, without conditions. -/
import Derived.Test.YtkpekdkejcofiaaPFixDividesx1
import Derived.Test.YtkpekdkejcofiaaPlain
set_option linter.unusedVariables false
set_option linter.unusedSimpArgs false
namespace Go.Proofs.Ytkpekdkejcofiaa.Pure
open Go.RowKit Go.Proofs.Ytkpekdkejcofiaa.PFixDivides Go.Proofs.YtkpekdkejcofiaaW.PrintWords Go.Proofs.YtkpekdkejcofiaaW.PrintLast Go.Proofs.Ytkpekdkejcofiaa.Plain
namespace FixDividesAid
theorem zHold (a : Int) : fix_Hold.f a = some (hold a) := by unfold fix_Hold.f; rw [mnmx]
theorem zOf (a : Int) : fix_Of.f a = some (ofn a) := by unfold fix_Of.f; simp only [zHold, Option.bind_some, ofn]
theorem zheld (a b : Int) : fix_held.f a b = some (hold a, hold b) := by unfold fix_held.f; simp only [zHold, Option.bind_some]
theorem zMul (a b : Int) : fix_Mul.f a b = some (hold (hold a * hold b / 65536)) := by
  have h1 := hold_mul a b
  unfold fix_Mul.f
  simp only [zheld, zHold, Option.bind_some]
  rw [wrap64_id (by omega) (by omega)]
theorem zawake : ricochetlaw01_awake.f = some true := by
  unfold ricochetlaw01_awake.f
  simp only [zMul, zOf, Option.bind_some]
  rfl
theorem zin {a : Int} (h1 : -2147483648 ≤ a) (h2 : a ≤ 2147483647) : ricochetlaw01_in.f a = some true := by
  unfold ricochetlaw01_in.f
  rw [if_pos (by omega)]
  simp [h2]
theorem zin_no {a : Int} (h : ¬ (-2147483648 ≤ a ∧ a ≤ 2147483647)) : ricochetlaw01_in.f a = some false := by
  unfold ricochetlaw01_in.f
  split
  · simp; omega
  · rfl
theorem zDiv (a b : Int) (k : Nat) : fix_Div.f (k + 2) a b = some (dvn (hold a) (hold b)) := by
  have h1 := hold_bd a
  have h2 := hold_bd b
  unfold fix_Div.f
  simp only [zheld, Option.bind_some]
  generalize hold a = x at *
  generalize hold b = y at *
  by_cases hy : y = 0
  · rw [if_pos hy]
    simp only [fix_Div.j0, fix_Div.j1, dvn]
    rw [if_pos hy]
    by_cases hx : x = 0
    · simp [hx, hy]
    · simp only [hx, beq_iff_eq, if_false, if_pos hy]
      by_cases hx' : x > 0
      · simp [hx']
      · simp [hx', hy]
  · rw [if_neg hy]
    simp only [fix_Div.j0, fix_Div.j1, dvn, Bool.false_eq_true, if_false]
    rw [if_neg hy, if_neg hy, if_neg hy]
    have tmd : ∀ p q : Int, 0 < q → -140737488355328 ≤ p → p ≤ 140737488355328 → (if p.tmod q < 0 then (fix_Hold.f (wrap64 (wrap64 (p.tdiv q) - 1))).bind (fun t => some t) else (fix_Hold.f (wrap64 (p.tdiv q))).bind (fun t => some t)) = some (hold (p / q)) := by
      intro p q hq hp hp'
      have e := tmod_down (a := p) (b := q) hq
      have e1 : p / q * q ≤ p := Int.ediv_mul_le p (by omega)
      have e2 := Int.lt_ediv_add_one_mul_self p hq
      have lo : -140737488355328 ≤ p / q := by
        apply (Int.le_ediv_iff_mul_le hq).2
        have : (-140737488355328 : Int) * q ≤ -140737488355328 * 1 := by omega
        omega
      have hi : p / q ≤ 140737488355328 := by
        have := (Int.ediv_lt_iff_lt_mul (a := p) (b := 140737488355329) hq).2 (by omega)
        omega
      by_cases h : p.tmod q < 0
      · rw [if_pos h] at e ⊢
        rw [wrap64_id (x := p.tdiv q) (by omega) (by omega), e, wrap64_id (by omega) (by omega), zHold]
        rfl
      · rw [if_neg h] at e ⊢
        rw [e, wrap64_id (by omega) (by omega), zHold]
        rfl
    by_cases hy' : y < 0
    · rw [if_pos hy', if_pos hy', wrap64_id (x := -y) (by omega) (by omega), if_neg (by omega), wrap64_id (x := -x) (by omega) (by omega), wrap64_id (x := -x * 65536) (by omega) (by omega)]
      exact tmd (-x * 65536) (-y) (by omega) (by omega) (by omega)
    · rw [if_neg hy', if_neg hy', wrap64_id (x := x * 65536) (by omega) (by omega)]
      exact tmd (x * 65536) y (by omega) (by omega) (by omega)
end FixDividesAid
open FixDividesAid
theorem FixDivides : ricochetlaw01_FixDivides.Pure := by
  intro a b _ _
  refine ⟨3, ?_⟩
  have no : ricochetlaw01_FixDivides.j0 3 a b true = some true := by simp only [ricochetlaw01_FixDivides.j0, zawake, Option.bind_some, if_true]
  unfold ricochetlaw01_FixDivides.f
  simp only [zawake, Option.bind_some, if_true]
  by_cases ha : -2147483648 ≤ a ∧ a ≤ 2147483647
  · rw [zin ha.1 ha.2]
    simp only [Option.bind_some, if_true]
    by_cases hb : -2147483648 ≤ b ∧ b ≤ 2147483647
    · rw [zin hb.1 hb.2]
      simp only [Option.bind_some, if_true]
      by_cases hb1 : b < 1
      · rw [decide_eq_true hb1]
        exact no
      · rw [decide_eq_false hb1]
        simp only [ricochetlaw01_FixDivides.j0, Bool.false_eq_true, if_false]
        rw [zDiv a b 0]
        simp only [Option.bind_some]
        rw [hold_id ha.1 ha.2, hold_id hb.1 hb.2]
        have ed : dvn a b = hold (a * 65536 / b) := by unfold dvn; rw [if_neg (by omega), if_neg (by omega)]
        rw [ed]
        have e1 : a * 65536 / b * b ≤ a * 65536 := Int.ediv_mul_le _ (by omega)
        have e2 := Int.lt_ediv_add_one_mul_self (a * 65536) (show 0 < b by omega)
        generalize a * 65536 / b = q at *
        by_cases h1 : hold q = 2147483647
        · rw [if_pos h1]
        · rw [if_neg h1]
          by_cases h2 : hold q = -2147483648
          · rw [if_pos h2]
          · rw [if_neg h2]
            have hq : hold q = q := by unfold hold at *; omega
            have hb := hold_bd q
            rw [hq] at hb ⊢
            have e3 : (q + 1) * b = q * b + b := by grind
            rw [wrap64_id (x := q * b) (by omega) (by omega), wrap64_id (x := a * 65536) (by omega) (by omega), wrap64_id (x := q + 1) (by omega) (by omega), wrap64_id (x := (q + 1) * b) (by omega) (by omega), if_pos e1]
            simp
            omega
    · rw [zin_no hb]
      simp only [Option.bind_some, Bool.false_eq_true, if_false]
      exact no
  · rw [zin_no ha]
    simp only [Option.bind_some, Bool.false_eq_true, if_false]
    exact no
end Go.Proofs.Ytkpekdkejcofiaa.Pure
