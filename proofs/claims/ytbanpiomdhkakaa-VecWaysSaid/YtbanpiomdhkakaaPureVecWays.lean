/- The printed function of the law 'VecWays' answers true for all places and parts, without conditions. -/
import Derived.Test.YtbanpiomdhkakaaPVecWaysx3
import Derived.Test.YtbanpiomdhkakaaPlain
set_option linter.unusedVariables false
set_option linter.unusedSimpArgs false
namespace Go.Proofs.Ytbanpiomdhkakaa.Pure
open Go.RowKit Go.Proofs.Ytbanpiomdhkakaa.PVecWays Go.Proofs.YtbanpiomdhkakaaW.PrintWords Go.Proofs.YtbanpiomdhkakaaW.PrintLast Go.Proofs.Ytbanpiomdhkakaa.Plain
namespace VecWaysAid
theorem zHold (a : Int) : fix_Hold.f a = some (hold a) := by unfold fix_Hold.f; rw [mnmx]
theorem zvroot (j : Nat) : ∀ (k : Nat) (x r b : Int), b = 2 ^ j → j ≤ 31 → j + 1 < k → 0 ≤ r → r ≤ 4294967296 - 2 * b → 0 ≤ x → x ≤ 9223372036854775808 → r * r ≤ x → x < (r + 2 * b) * (r + 2 * b) →
    ∃ s, vec_root.l0 k x r b = some s ∧ Root s x ∧ s ≤ 4294967295 := by
  induction j with
  | zero =>
    intro k x r b hb _ hk hr hrb hx hx' h1 h2
    obtain ⟨k, rfl⟩ : ∃ m, k = m + 2 := ⟨k - 2, by omega⟩
    have hb1 : b = 1 := by rw [hb]; rfl
    subst hb1
    have hs := sq_le (a := r + 1) (b := 4294967295) (by omega) (by omega)
    have hp : 0 ≤ (r + 1) * (r + 1) := Int.mul_nonneg (by omega) (by omega)
    have st := root_step (r := r) (b := 1) (x := x) hr (by omega) h1 h2
    simp only [vec_root.l0]
    rw [if_pos (by omega), u64w (x := r + 1) (by omega) (by omega), u64w (by omega) (by omega), show (1 : Int) / 2 = 0 by decide]
    by_cases h : (r + 1) * (r + 1) ≤ x
    · rw [if_pos h, if_neg (by omega)]
      exact ⟨r + 1, rfl, ⟨by omega, (st.1 h).1, (st.1 h).2⟩, by omega⟩
    · rw [if_neg h, if_neg (by omega)]
      exact ⟨r, rfl, ⟨by omega, (st.2 h).1, (st.2 h).2⟩, by omega⟩
  | succ j ih =>
    intro k x r b hb hj hk hr hrb hx hx' h1 h2
    obtain ⟨k, rfl⟩ : ∃ m, k = m + 1 := ⟨k - 1, by omega⟩
    obtain ⟨c, hc⟩ : ∃ c : Int, c = 2 ^ j := ⟨_, rfl⟩
    have hc0 : 0 < c := by rw [hc]; exact Int.pow_pos (by omega)
    have hbc : b = 2 * c := by rw [hb, hc, Int.pow_succ]; omega
    have hs := sq_le (a := r + b) (b := 4294967295) (by omega) (by omega)
    have hp : 0 ≤ (r + b) * (r + b) := Int.mul_nonneg (by omega) (by omega)
    have st := root_step (r := r) (b := b) (x := x) hr (by omega) h1 h2
    simp only [vec_root.l0]
    rw [if_pos (by omega), u64w (x := r + b) (by omega) (by omega), u64w (by omega) (by omega), show b / 2 = c by omega]
    by_cases h : (r + b) * (r + b) ≤ x
    · rw [if_pos h]
      have g := (st.1 h).2
      rw [show r + b + b = r + b + 2 * c by omega] at g
      exact ih k x (r + b) c hc (by omega) (by omega) (by omega) (by omega) hx hx' h g
    · rw [if_neg h]
      have g := (st.2 h).2
      rw [show r + b = r + 2 * c by omega] at g
      exact ih k x r c hc (by omega) (by omega) hr (by omega) hx hx' h1 g
theorem zsquare (a : Int) : vec_square.f a = some (hold a * hold a) := by
  have h := hold_mul a a
  have h0 : 0 ≤ hold a * hold a := by
    rcases Int.le_total 0 (hold a) with h | h
    · exact Int.mul_nonneg h h
    · exact Int.mul_nonneg_of_nonpos_of_nonpos h h
  unfold vec_square.f
  simp only [zHold, Option.bind_some]
  rw [wrap64_id (by omega) (by omega), u64w (by omega) (by omega)]
theorem sq_bd (a : Int) : 0 ≤ hold a * hold a ∧ hold a * hold a ≤ 4611686018427387904 := by
  have h := hold_mul a a
  refine ⟨?_, h.2⟩
  rcases Int.le_total 0 (hold a) with h | h
  · exact Int.mul_nonneg h h
  · exact Int.mul_nonneg_of_nonpos_of_nonpos h h
theorem zLength (a b : Int) (k : Nat) : ∃ s, vec_Length.f (k + 34) a b = some (hold s) ∧ Root s (hold a * hold a + hold b * hold b) ∧ s ≤ 4294967295 := by
  have h1 := sq_bd a
  have h2 := sq_bd b
  obtain ⟨s, hs, R, hb⟩ := zvroot 31 (k + 34) (hold a * hold a + hold b * hold b) 0 2147483648 (by decide) (by omega) (by omega) (by omega) (by omega) (by omega) (by omega) (by omega) (by omega)
  refine ⟨s, ?_, R, hb⟩
  have := R.1
  unfold vec_Length.f vec_root.f
  simp only [zsquare, Option.bind_some]
  rw [u64w (by omega) (by omega), hs]
  simp only [zHold, Option.bind_some]
  rw [wrap64_id (by omega) (by omega)]
theorem zawake (k : Nat) : ricochetlaw02_awake.f (k + 34) = some true := by
  obtain ⟨s, hs, R, _⟩ := zLength 196608 262144 k
  have e : Root 327680 (hold 196608 * hold 196608 + hold 262144 * hold 262144) := by
    refine ⟨?_, ?_, ?_⟩ <;> decide
  have := R.eq e
  subst this
  unfold ricochetlaw02_awake.f
  rw [hs]
  rfl
theorem zFormed (a b : Int) : vec_Formed.f a b = some (fmd a b) := by
  unfold vec_Formed.f fmd
  by_cases h1 : a ≥ -134217728
  · rw [if_pos h1]
    by_cases h2 : a ≤ 134217728
    · rw [if_pos h2]
      by_cases h3 : b ≥ -134217728
      · rw [if_pos h3]; exact dec_t (by omega)
      · rw [if_neg h3]; exact dec_f (by omega)
    · rw [if_neg h2]; exact dec_f (by omega)
  · rw [if_neg h1]; exact dec_f (by omega)
theorem zheld (a b : Int) : fix_held.f a b = some (hold a, hold b) := by unfold fix_held.f; simp only [zHold, Option.bind_some]
theorem zBetween (a b : Int) {p : Int} (hp : 0 ≤ p) (hp' : p ≤ 255) : fix_Between.f a b p = some (btw (hold a) (hold b) p) := by
  have h1 := hold_bd a
  have h2 := hold_bd b
  unfold fix_Between.f
  simp only [zheld, zHold, Option.bind_some]
  have hb : -(4294967295 * 255) ≤ (hold b - hold a) * p ∧ (hold b - hold a) * p ≤ 4294967295 * 255 := mul_bd (by omega) (by omega) (by omega) (by omega) (by omega) (by omega)
  rw [wrap64_id (x := hold b - hold a) (by omega) (by omega), wrap64_id (x := p) (by omega) (by omega), wrap64_id (x := (hold b - hold a) * p) (by omega) (by omega), wrap64_id (by omega) (by omega)]
  rfl
theorem zvBetween (a b c d : Int) {p : Int} (hp : 0 ≤ p) (hp' : p ≤ 255) : vec_Between.f a b c d p = some (btw (hold a) (hold c) p, btw (hold b) (hold d) p) := by
  unfold vec_Between.f
  rw [zBetween a c hp hp', zBetween b d hp hp']
  rfl
end VecWaysAid
open VecWaysAid
theorem VecWays (a b c d p : Int) (_ : (Lit.int .i64 a).wf = true) (_ : (Lit.int .i64 b).wf = true) (_ : (Lit.int .i64 c).wf = true) (_ : (Lit.int .i64 d).wf = true) (hp : (Lit.int .u8 p).wf = true) :
    ∃ k, ricochetlaw02_VecWays.f k a b c d p = some true := by
  obtain ⟨p0, p1⟩ := wfu8 hp
  refine ⟨35, ?_⟩
  have no : ricochetlaw02_VecWays.j0 35 p true a b c d = some true := by
    simp only [ricochetlaw02_VecWays.j0, if_true]
    rw [zawake 0]
    rfl
  have mid : ∀ x y : Int, -134217728 ≤ x → x ≤ 134217728 → -134217728 ≤ y → y ≤ 134217728 → btw (hold x) (hold y) p ≥ mn x y ∧ btw (hold x) (hold y) p ≤ mx x y ∧ -134217728 ≤ btw (hold x) (hold y) p ∧ btw (hold x) (hold y) p ≤ 134217728 ∧ (p = 0 → btw (hold x) (hold y) p = x) := by
    intro x y h1 h2 h3 h4
    rw [hold_id (x := x) (by omega) (by omega), hold_id (x := y) (by omega) (by omega), btw_eq (by omega) (by omega) (by omega) (by omega) p0 p1]
    unfold mn mx
    have z : p = 0 → (y - x) * p / 256 = 0 := by intro h; rw [h, Int.mul_zero]; rfl
    by_cases h : x ≤ y
    · have := part_bd h p0 p1
      omega
    · have := part_bd' (show y ≤ x by omega) p0 p1
      omega
  unfold ricochetlaw02_VecWays.f
  rw [zawake 1]
  simp only [zFormed, Option.bind_some, if_true]
  by_cases h1 : fmd a b = true
  · rw [if_pos h1]
    by_cases h2 : fmd c d = true
    · rw [h2]
      have g1 := of_decide_eq_true (show decide (-134217728 ≤ a ∧ a ≤ 134217728 ∧ -134217728 ≤ b ∧ b ≤ 134217728) = true from h1)
      have g2 := of_decide_eq_true (show decide (-134217728 ≤ c ∧ c ≤ 134217728 ∧ -134217728 ≤ d ∧ d ≤ 134217728) = true from h2)
      have m1 := mid a c (by omega) (by omega) (by omega) (by omega)
      have m2 := mid b d (by omega) (by omega) (by omega) (by omega)
      simp only [ricochetlaw02_VecWays.j0, Bool.not_true, Bool.false_eq_true, if_false]
      rw [zvBetween a b c d p0 p1]
      simp only [Option.bind_some, zFormed]
      rw [if_pos (show fmd _ _ = true from decide_eq_true ⟨m1.2.2.1, m1.2.2.2.1, m2.2.2.1, m2.2.2.2.1⟩), if_pos m1.1, if_pos m1.2.1, if_pos m2.1, if_pos m2.2.1]
      by_cases h : p = 0
      · rw [if_pos h, m1.2.2.2.2 h, m2.2.2.2.2 h]
        simp
      · rw [if_neg h]
    · simp only [Bool.not_eq_true] at h2
      rw [h2]
      exact no
  · rw [if_neg h1]
    exact no
end Go.Proofs.Ytbanpiomdhkakaa.Pure
