/- What printed functions compute. -/
import Derived.Test.YtcbmkhogmdkpdaaPRewindNonex0
import Derived.Test.YtcbmkhogmdkpdaaPRewindNonex1
import Derived.Test.YtcbmkhogmdkpdaaPRewindNonex2
import Derived.Test.YtcbmkhogmdkpdaaPRewindNonex3
import Derived.Test.YtcbmkhogmdkpdaaPRewindNonex4
import Derived.Test.YtcbmkhogmdkpdaaPRewindNonex5
import Derived.Test.YtcbmkhogmdkpdaaPlain
set_option linter.unusedVariables false
set_option linter.unusedSimpArgs false
namespace Go.Proofs.Ytcbmkhogmdkpdaa.Pure
open Go.RowKit Go.Proofs.Ytcbmkhogmdkpdaa.PRewindNone Go.Proofs.YtcbmkhogmdkpdaaW.PrintWords Go.Proofs.YtcbmkhogmdkpdaaW.PrintLast Go.Proofs.Ytcbmkhogmdkpdaa.Plain
theorem zHold (a : Int) : fix_Hold.f a = some (hold a) := by unfold fix_Hold.f; rw [mnmx]
theorem zheld (a b : Int) : fix_held.f a b = some (hold a, hold b) := by unfold fix_held.f; simp only [zHold, Option.bind_some]
theorem zAdd (a b : Int) : fix_Add.f a b = some (hold (hold a + hold b)) := by
  have h1 := hold_bd a
  have h2 := hold_bd b
  unfold fix_Add.f
  simp only [zheld, zHold, Option.bind_some]
  rw [wrap64_id (by omega) (by omega)]
theorem zSub (a b : Int) : fix_Sub.f a b = some (hold (hold a - hold b)) := by
  have h1 := hold_bd a
  have h2 := hold_bd b
  unfold fix_Sub.f
  simp only [zheld, zHold, Option.bind_some]
  rw [wrap64_id (by omega) (by omega)]
theorem zBetween (a b : Int) {p : Int} (hp : 0 ≤ p) (hp' : p ≤ 255) : fix_Between.f a b p = some (btw (hold a) (hold b) p) := by
  have h1 := hold_bd a
  have h2 := hold_bd b
  unfold fix_Between.f
  simp only [zheld, zHold, Option.bind_some]
  have hb : -(4294967295 * 255) ≤ (hold b - hold a) * p ∧ (hold b - hold a) * p ≤ 4294967295 * 255 := mul_bd (by omega) (by omega) (by omega) (by omega) (by omega) (by omega)
  rw [wrap64_id (x := hold b - hold a) (by omega) (by omega), wrap64_id (x := p) (by omega) (by omega), wrap64_id (x := (hold b - hold a) * p) (by omega) (by omega), wrap64_id (by omega) (by omega)]
  rfl
theorem zvAdd (a b c d : Int) : vec_Add.f a b c d = some (hold (hold a + hold c), hold (hold b + hold d)) := by unfold vec_Add.f; simp only [zAdd, Option.bind_some]
theorem zvSub (a b c d : Int) : vec_Sub.f a b c d = some (hold (hold a - hold c), hold (hold b - hold d)) := by unfold vec_Sub.f; simp only [zSub, Option.bind_some]
theorem zFormed (a b : Int) : vec_Formed.f a b = some (fmd a b) := by
  unfold vec_Formed.f fmd
  by_cases h1 : a ≥ -134217728
  · rw [if_pos h1]
    by_cases h2 : a ≤ 134217728
    · rw [if_pos h2]
      by_cases h3 : b ≥ -134217728
      · rw [if_pos h3]; exact dec_t (by omega)
      · rw [if_neg h3]; exact dec_f (by omega)
    · rw [if_neg h2]; exact dec_f (by omega)
  · rw [if_neg h1]; exact dec_f (by omega)
theorem zvBetween (a b c d : Int) {p : Int} (hp : 0 ≤ p) (hp' : p ≤ 255) : vec_Between.f a b c d p = some (btw (hold a) (hold c) p, btw (hold b) (hold d) p) := by
  unfold vec_Between.f
  rw [zBetween a c hp hp', zBetween b d hp hp']
  rfl
theorem zright (a b : Int) : box_right.f a b = some (rght (a, b)) := by
  unfold box_right.f rght
  by_cases h1 : b ≥ 1
  · rw [if_pos h1]
    by_cases h2 : b ≤ 1073741824
    · rw [if_pos h2]
      by_cases h3 : a ≥ 0
      · rw [if_pos h3]; exact dec_t (by omega)
      · rw [if_neg h3]; exact dec_f (by omega)
    · rw [if_neg h2]; exact dec_f (by omega)
  · rw [if_neg h1]; exact dec_f (by omega)
theorem zbF (a b c d : Int) : box_Formed.f a b c d = some (bfm a b c d) := by
  unfold box_Formed.f bfm
  simp only [zFormed, Option.bind_some]
  cases fmd a b <;> cases fmd c d <;> simp only [Bool.true_and, Bool.false_and, Bool.false_eq_true, if_true, if_false]
  by_cases h1 : a ≤ c
  · rw [if_pos h1]; exact dec_t (by omega)
  · rw [if_neg h1]; exact dec_f (by omega)
theorem zAhead (a b c d : Int) : box_Ahead.f a b c d = some (ahd (a, b) (c, d)) := by
  unfold box_Ahead.f
  simp only [zright, Option.bind_some]
  by_cases h1 : rght (a, b) = true
  · rw [if_pos h1]
    by_cases h2 : rght (c, d) = true
    · rw [if_pos h2, ahd_ok h1 h2]
      unfold rght at h1 h2
      simp only [decide_eq_true_eq] at h1 h2
      have e1 : -(1073741824 * 1073741824) ≤ a * d ∧ a * d ≤ 1073741824 * 1073741824 := mul_bd (by omega) (by omega) (by omega) (by omega) (by omega) (by omega)
      have e2 : -(1073741824 * 1073741824) ≤ c * b ∧ c * b ≤ 1073741824 * 1073741824 := mul_bd (by omega) (by omega) (by omega) (by omega) (by omega) (by omega)
      rw [wrap64_id (x := a * d) (by omega) (by omega), wrap64_id (x := c * b) (by omega) (by omega)]
    · rw [if_neg h2]
      unfold ahd
      simp [h2]
  · rw [if_neg h1]
    unfold ahd
    simp [h1]
theorem zspan {f t l m : Int} (f1 : -134217728 ≤ f) (f2 : f ≤ 134217728) (t1 : -134217728 ≤ t) (t2 : t ≤ 134217728) (l1 : -134217728 ≤ l) (l2 : l ≤ 134217728) (m1 : -134217728 ≤ m) (m2 : m ≤ 134217728) (k : Nat) :
    box_span.f (k + 2) f t l m = some ((spn f t l m).1.1, (spn f t l m).1.2, (spn f t l m).2.1.1, (spn f t l m).2.1.2, (spn f t l m).2.2) := by
  have core : ∀ f t l m : Int, -134217728 ≤ f → f ≤ 134217728 → -134217728 ≤ t → t ≤ 134217728 → -134217728 ≤ l → l ≤ 134217728 → -134217728 ≤ m → m ≤ 134217728 →
      box_span.j0 (k + 2) f t l m = some ((sp f t l m).1.1, (sp f t l m).1.2, (sp f t l m).2.1.1, (sp f t l m).2.1.2, (sp f t l m).2.2) := by
    intro f t l m f1 f2 t1 t2 l1 l2 m1 m2
    simp only [box_span.j0]
    unfold sp
    rw [wrap64_id (x := t - f) (by omega) (by omega)]
    by_cases h0 : t - f = 0
    · rw [if_pos h0, if_pos h0]
      by_cases h1 : f ≥ l
      · rw [if_pos h1]
        have e : decide (f ≤ m) = decide (l ≤ f ∧ f ≤ m) := by rw [decide_eq_decide]; omega
        rw [e]
      · rw [if_neg h1, decide_eq_false (show ¬ (l ≤ f ∧ f ≤ m) by omega)]
    · rw [if_neg h0, if_neg h0]
      by_cases h1 : t < l
      · rw [if_pos h1, if_pos (.inl h1)]
        simp only [box_span.j1, if_true]
      · rw [if_neg h1]
        by_cases h2 : f > m
        · rw [decide_eq_true h2, if_pos (.inr h2)]
          simp only [box_span.j1, if_true]
        · rw [decide_eq_false h2, if_neg (by omega)]
          simp only [box_span.j1, Bool.false_eq_true, if_false]
          rw [wrap64_id (x := l - f) (by omega) (by omega), wrap64_id (x := m - f) (by omega) (by omega)]
          by_cases h3 : f < l <;> by_cases h4 : t > m
          · rw [if_pos h3, if_pos h4, if_pos h3, if_pos h4]
          · rw [if_pos h3, if_neg h4, if_pos h3, if_neg h4]
          · rw [if_neg h3, if_pos h4, if_neg h3, if_pos h4]
          · rw [if_neg h3, if_neg h4, if_neg h3, if_neg h4]
  unfold box_span.f spn
  by_cases h : f > t
  · rw [if_pos h, if_pos h, wrap64_id (x := -f) (by omega) (by omega), wrap64_id (x := -t) (by omega) (by omega), wrap64_id (x := -m) (by omega) (by omega), wrap64_id (x := -l) (by omega) (by omega)]
    exact core _ _ _ _ (by omega) (by omega) (by omega) (by omega) (by omega) (by omega) (by omega) (by omega)
  · rw [if_neg h, if_neg h]
    exact core _ _ _ _ f1 f2 t1 t2 l1 l2 m1 m2
theorem zAround (x y h : Int) : box_Around.f x y h = some (hold (hold x - hold h), hold (hold y - hold h), hold (hold x + hold h), hold (hold y + hold h)) := by
  unfold box_Around.f; simp only [zvSub, zvAdd, Option.bind_some]
theorem fmd_of {a b : Int} (h : fmd a b = true) : -134217728 ≤ a ∧ a ≤ 134217728 ∧ -134217728 ≤ b ∧ b ≤ 134217728 := by unfold fmd at h; exact of_decide_eq_true h
theorem bfm_of {a b c d : Int} (h : bfm a b c d = true) : (-134217728 ≤ a ∧ a ≤ 134217728 ∧ -134217728 ≤ b ∧ b ≤ 134217728) ∧ (-134217728 ≤ c ∧ c ≤ 134217728 ∧ -134217728 ≤ d ∧ d ≤ 134217728) ∧ a ≤ c ∧ b ≤ d := by
  unfold bfm at h
  simp only [Bool.and_eq_true, decide_eq_true_eq] at h
  exact ⟨fmd_of h.1.1, fmd_of h.1.2, h.2.1, h.2.2⟩
theorem zMeet (fx fy tx ty lx ly ux uy : Int) (k : Nat) :
    box_Meet.f (k + 5) fx fy tx ty lx ly ux uy = some ((mtt fx fy tx ty lx ly ux uy).1.1, (mtt fx fy tx ty lx ly ux uy).1.2, (mtt fx fy tx ty lx ly ux uy).2) := by
  have no : ∀ a b c d e f g h : Int, box_Meet.j0 (k + 5) true a b c d e f g h = some (0, 0, false) := by
    intro a b c d e f g h
    simp only [box_Meet.j0, if_true]
  unfold box_Meet.f mtt
  simp only [zFormed, zbF, Option.bind_some]
  by_cases h1 : fmd fx fy = true
  · by_cases h2 : fmd tx ty = true
    · by_cases h3 : bfm lx ly ux uy = true
      · rw [if_pos h1, if_pos h2, h3, if_pos ⟨h1, h2, rfl⟩]
        obtain ⟨a1, a2, a3, a4⟩ := fmd_of h1
        obtain ⟨b1, b2, b3, b4⟩ := fmd_of h2
        obtain ⟨⟨c1, c2, c3, c4⟩, ⟨d1, d2, d3, d4⟩, _, _⟩ := bfm_of h3
        simp only [box_Meet.j0, Bool.not_true, Bool.false_eq_true, if_false]
        rw [zspan a1 a2 b1 b2 c1 c2 d1 d2 (k + 2), zspan a3 a4 b3 b4 c3 c4 d3 d4 (k + 2)]
        simp only [Option.bind_some]
        rw [met_def]
        by_cases o1 : (spn fx tx lx ux).2.2 = true
        · rw [if_pos o1]
          by_cases o2 : (spn fy ty ly uy).2.2 = true
          · rw [if_pos ⟨o1, o2⟩, o2]
            simp only [Bool.not_true, box_Meet.j1, box_Meet.j2, Bool.false_eq_true, if_false, zAhead, Option.bind_some]
            generalize (spn fx tx lx ux).1 = i
            generalize (spn fx tx lx ux).2.1 = o
            generalize (spn fy ty ly uy).1 = i'
            generalize (spn fy ty ly uy).2.1 = o'
            obtain ⟨i1, i2⟩ := i
            obtain ⟨o1, o2⟩ := o
            obtain ⟨j1, j2⟩ := i'
            obtain ⟨q1, q2⟩ := o'
            cases h : ahd (i1, i2) (j1, j2) <;> cases h' : ahd (q1, q2) (o1, o2) <;> simp only [Bool.false_eq_true, if_false, if_true] <;> split <;> rfl
          · rw [if_neg (fun h => o2 h.2)]
            simp only [o2, Bool.not_false, box_Meet.j1, if_true]
        · rw [if_neg o1, if_neg (fun h => o1 h.1)]
          simp only [box_Meet.j1, if_true]
      · rw [if_pos h1, if_pos h2, if_neg (fun h => h3 h.2.2)]
        simp only [Bool.not_eq_true] at h3
        rw [h3]
        exact no _ _ _ _ _ _ _ _
    · rw [if_pos h1, if_neg h2, if_neg (fun h => h2 h.2.1)]
      exact no _ _ _ _ _ _ _ _
  · rw [if_neg h1, if_neg (fun h => h1 h.1)]
    exact no _ _ _ _ _ _ _ _
end Go.Proofs.Ytcbmkhogmdkpdaa.Pure
