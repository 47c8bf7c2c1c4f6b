/- The law 'VecDots' returns true for all ways; without conditions. -/
import Derived.Test.YtbanpiomdhkakaaDotsY
import Derived.Test.YtbanpiomdhkakaaPlain
set_option linter.unusedVariables false
set_option linter.unusedSimpArgs false
namespace Go.Proofs.Ytbanpiomdhkakaa.Pure
open Go.RowKit Go.Proofs.Ytbanpiomdhkakaa.PVecDots Go.Proofs.YtbanpiomdhkakaaW.PrintWords Go.Proofs.YtbanpiomdhkakaaW.PrintLast Go.Proofs.Ytbanpiomdhkakaa.Plain
namespace VecDotsAid
theorem zHold (a : Int) : fix_Hold.f a = some (hold a) := by unfold fix_Hold.f; rw [mnmx]
theorem zvroot (j : Nat) : ∀ (k : Nat) (x r b : Int), b = 2 ^ j → j ≤ 31 → j + 1 < k → 0 ≤ r → r ≤ 4294967296 - 2 * b → 0 ≤ x → x ≤ 9223372036854775808 → r * r ≤ x → x < (r + 2 * b) * (r + 2 * b) →
    ∃ s, vec_root.l0 k x r b = some s ∧ Root s x ∧ s ≤ 4294967295 := by
  induction j with
  | zero =>
    intro k x r b hb _ hk hr hrb hx hx' h1 h2
    obtain ⟨k, rfl⟩ : ∃ m, k = m + 2 := ⟨k - 2, by omega⟩
    have hb1 : b = 1 := by rw [hb]; rfl
    subst hb1
    have hs := sq_le (a := r + 1) (b := 4294967295) (by omega) (by omega)
    have hp : 0 ≤ (r + 1) * (r + 1) := Int.mul_nonneg (by omega) (by omega)
    have st := root_step (r := r) (b := 1) (x := x) hr (by omega) h1 h2
    simp only [vec_root.l0]
    rw [if_pos (by omega), u64w (x := r + 1) (by omega) (by omega), u64w (by omega) (by omega), show (1 : Int) / 2 = 0 by decide]
    by_cases h : (r + 1) * (r + 1) ≤ x
    · rw [if_pos h, if_neg (by omega)]
      exact ⟨r + 1, rfl, ⟨by omega, (st.1 h).1, (st.1 h).2⟩, by omega⟩
    · rw [if_neg h, if_neg (by omega)]
      exact ⟨r, rfl, ⟨by omega, (st.2 h).1, (st.2 h).2⟩, by omega⟩
  | succ j ih =>
    intro k x r b hb hj hk hr hrb hx hx' h1 h2
    obtain ⟨k, rfl⟩ : ∃ m, k = m + 1 := ⟨k - 1, by omega⟩
    obtain ⟨c, hc⟩ : ∃ c : Int, c = 2 ^ j := ⟨_, rfl⟩
    have hc0 : 0 < c := by rw [hc]; exact Int.pow_pos (by omega)
    have hbc : b = 2 * c := by rw [hb, hc, Int.pow_succ]; omega
    have hs := sq_le (a := r + b) (b := 4294967295) (by omega) (by omega)
    have hp : 0 ≤ (r + b) * (r + b) := Int.mul_nonneg (by omega) (by omega)
    have st := root_step (r := r) (b := b) (x := x) hr (by omega) h1 h2
    simp only [vec_root.l0]
    rw [if_pos (by omega), u64w (x := r + b) (by omega) (by omega), u64w (by omega) (by omega), show b / 2 = c by omega]
    by_cases h : (r + b) * (r + b) ≤ x
    · rw [if_pos h]
      have g := (st.1 h).2
      rw [show r + b + b = r + b + 2 * c by omega] at g
      exact ih k x (r + b) c hc (by omega) (by omega) (by omega) (by omega) hx hx' h g
    · rw [if_neg h]
      have g := (st.2 h).2
      rw [show r + b = r + 2 * c by omega] at g
      exact ih k x r c hc (by omega) (by omega) hr (by omega) hx hx' h1 g
theorem zsquare (a : Int) : vec_square.f a = some (hold a * hold a) := by
  have h := hold_mul a a
  have h0 : 0 ≤ hold a * hold a := by
    rcases Int.le_total 0 (hold a) with h | h
    · exact Int.mul_nonneg h h
    · exact Int.mul_nonneg_of_nonpos_of_nonpos h h
  unfold vec_square.f
  simp only [zHold, Option.bind_some]
  rw [wrap64_id (by omega) (by omega), u64w (by omega) (by omega)]
theorem sq_bd (a : Int) : 0 ≤ hold a * hold a ∧ hold a * hold a ≤ 4611686018427387904 := by
  have h := hold_mul a a
  refine ⟨?_, h.2⟩
  rcases Int.le_total 0 (hold a) with h | h
  · exact Int.mul_nonneg h h
  · exact Int.mul_nonneg_of_nonpos_of_nonpos h h
theorem zLength (a b : Int) (k : Nat) : ∃ s, vec_Length.f (k + 34) a b = some (hold s) ∧ Root s (hold a * hold a + hold b * hold b) ∧ s ≤ 4294967295 := by
  have h1 := sq_bd a
  have h2 := sq_bd b
  obtain ⟨s, hs, R, hb⟩ := zvroot 31 (k + 34) (hold a * hold a + hold b * hold b) 0 2147483648 (by decide) (by omega) (by omega) (by omega) (by omega) (by omega) (by omega) (by omega) (by omega)
  refine ⟨s, ?_, R, hb⟩
  have := R.1
  unfold vec_Length.f vec_root.f
  simp only [zsquare, Option.bind_some]
  rw [u64w (by omega) (by omega), hs]
  simp only [zHold, Option.bind_some]
  rw [wrap64_id (by omega) (by omega)]
theorem zawake (k : Nat) : ricochetlaw02_awake.f (k + 34) = some true := by
  obtain ⟨s, hs, R, _⟩ := zLength 196608 262144 k
  have e : Root 327680 (hold 196608 * hold 196608 + hold 262144 * hold 262144) := by
    refine ⟨?_, ?_, ?_⟩ <;> decide
  have := R.eq e
  subst this
  unfold ricochetlaw02_awake.f
  rw [hs]
  rfl
theorem zFormed (a b : Int) : vec_Formed.f a b = some (fmd a b) := by
  unfold vec_Formed.f fmd
  by_cases h1 : a ≥ -134217728
  · rw [if_pos h1]
    by_cases h2 : a ≤ 134217728
    · rw [if_pos h2]
      by_cases h3 : b ≥ -134217728
      · rw [if_pos h3]; exact dec_t (by omega)
      · rw [if_neg h3]; exact dec_f (by omega)
    · rw [if_neg h2]; exact dec_f (by omega)
  · rw [if_neg h1]; exact dec_f (by omega)
theorem zheld (a b : Int) : fix_held.f a b = some (hold a, hold b) := by unfold fix_held.f; simp only [zHold, Option.bind_some]
theorem zAdd (a b : Int) : fix_Add.f a b = some (hold (hold a + hold b)) := by
  have h1 := hold_bd a
  have h2 := hold_bd b
  unfold fix_Add.f
  simp only [zheld, zHold, Option.bind_some]
  rw [wrap64_id (by omega) (by omega)]
theorem zMul (a b : Int) : fix_Mul.f a b = some (hold (hold a * hold b / 65536)) := by
  have h1 := hold_mul a b
  unfold fix_Mul.f
  simp only [zheld, zHold, Option.bind_some]
  rw [wrap64_id (by omega) (by omega)]
theorem zvDot (a b c d : Int) : vec_Dot.f a b c d = some (hold (hold (hold (hold a * hold c / 65536)) + hold (hold (hold b * hold d / 65536)))) := by unfold vec_Dot.f; simp only [zMul, zAdd, Option.bind_some]
end VecDotsAid
open VecDotsAid
theorem dots_true (a b c d : Int) : ricochetlaw02_VecDots.f 35 a b c d = some true := by
  have no : ricochetlaw02_VecDots.j0 35 true a b c d = some true := by
    simp only [ricochetlaw02_VecDots.j0, if_true]
    rw [zawake 0]
    rfl
  unfold ricochetlaw02_VecDots.f
  rw [zawake 1]
  simp only [zFormed, Option.bind_some, if_true]
  by_cases h1 : fmd a b = true
  · rw [if_pos h1]
    by_cases h2 : fmd c d = true
    · rw [h2]
      have g1 := of_decide_eq_true (show decide (-134217728 ≤ a ∧ a ≤ 134217728 ∧ -134217728 ≤ b ∧ b ≤ 134217728) = true from h1)
      simp only [ricochetlaw02_VecDots.j0, Bool.not_true, Bool.false_eq_true, if_false, zvDot, Option.bind_some]
      rw [Int.mul_comm (hold c) (hold a), Int.mul_comm (hold d) (hold b), if_pos rfl]
      have s1 : 0 ≤ hold a * hold a := by
        rcases Int.le_total 0 (hold a) with h | h
        · exact Int.mul_nonneg h h
        · exact Int.mul_nonneg_of_nonpos_of_nonpos h h
      have s2 : 0 ≤ hold b * hold b := by
        rcases Int.le_total 0 (hold b) with h | h
        · exact Int.mul_nonneg h h
        · exact Int.mul_nonneg_of_nonpos_of_nonpos h h
      have p1 : 0 ≤ hold (hold a * hold a / 65536) := by unfold hold at *; omega
      have p2 : 0 ≤ hold (hold b * hold b / 65536) := by unfold hold at *; omega
      have p3 : hold (hold (hold (hold a * hold a / 65536)) + hold (hold (hold b * hold b / 65536))) ≥ 0 := by
        generalize hold (hold a * hold a / 65536) = u at *
        generalize hold (hold b * hold b / 65536) = v at *
        unfold hold
        omega
      rw [if_pos p3, wrap64_id (x := -b) (by omega) (by omega)]
      by_cases g3 : a > 1048576
      · simp only [if_pos g3, ite_self]
      · rw [if_neg g3]
        by_cases g4 : b > 1048576
        · simp only [if_pos g4, ite_self]
        · rw [if_neg g4]
          by_cases g5 : a < -1048576
          · simp only [if_pos g5, ite_self]
          · rw [if_neg g5]
            by_cases g6 : b < -1048576
            · simp only [decide_eq_true g6, ite_self]
            · have bd : -(1048576 * 1048576) ≤ a * b ∧ a * b ≤ 1048576 * 1048576 := mul_bd (by omega) (by omega) (by omega) (by omega) (by omega) (by omega)
              rw [hold_id (x := a) (by omega) (by omega), hold_id (x := b) (by omega) (by omega), hold_id (x := -b) (by omega) (by omega)]
              have e1 : a * -b = -(a * b) := by grind
              have e2 : b * a = a * b := by grind
              rw [e1, e2]
              generalize a * b = z at *
              rw [hold_id (x := -z / 65536) (by omega) (by omega), hold_id (x := z / 65536) (by omega) (by omega), hold_id (x := -z / 65536) (by omega) (by omega), hold_id (x := z / 65536) (by omega) (by omega), hold_id (x := -z / 65536 + z / 65536) (by omega) (by omega)]
              by_cases t0 : -z / 65536 + z / 65536 = 0
              · rw [if_pos t0]
              · rw [if_neg t0, if_pos (by omega)]
    · simp only [Bool.not_eq_true] at h2
      rw [h2]
      exact no
  · rw [if_neg h1]
    exact no
end Go.Proofs.Ytbanpiomdhkakaa.Pure
namespace Go.Proofs.Ytbanpiomdhkakaa.PVecDots
open Go.RowKit Go.Proofs.YtbanpiomdhkakaaW.PrintWords
theorem ricochetlaw02_VecDots.calls (a b c d : Int) (w : World) (_ : (Lit.int .i64 a).wf = true) (_ : (Lit.int .i64 b).wf = true) (_ : (Lit.int .i64 c).wf = true) (_ : (Lit.int .i64 d).wf = true) :
    Calls Try.prog 6 #[.agg #[.int .i64 a, .int .i64 b], .agg #[.int .i64 c, .int .i64 d]] w fun e w' => e = .returned (.bool true) ∧ Below w.heap.size w w' :=
  dots_walk 35 a b c d true w (Pure.dots_true a b c d) ⟨rfl⟩
end Go.Proofs.Ytbanpiomdhkakaa.PVecDots
namespace Go.Proofs.Ytbanpiomdhkakaa.Pure
end Go.Proofs.Ytbanpiomdhkakaa.Pure
