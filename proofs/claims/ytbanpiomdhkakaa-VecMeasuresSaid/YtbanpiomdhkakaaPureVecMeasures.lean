/- The printed function of the law 'VecMeasures' answers true for all places and parts, without conditions. -/
import Derived.Test.YtbanpiomdhkakaaPVecMeasuresx4
import Derived.Test.YtbanpiomdhkakaaPlain
set_option linter.unusedVariables false
set_option linter.unusedSimpArgs false
namespace Go.Proofs.Ytbanpiomdhkakaa.Pure
open Go.RowKit Go.Proofs.Ytbanpiomdhkakaa.PVecMeasures Go.Proofs.YtbanpiomdhkakaaW.PrintWords Go.Proofs.YtbanpiomdhkakaaW.PrintLast Go.Proofs.Ytbanpiomdhkakaa.Plain
namespace VecMeasuresAid
theorem zHold (a : Int) : fix_Hold.f a = some (hold a) := by unfold fix_Hold.f; rw [mnmx]
theorem zvroot (j : Nat) : ∀ (k : Nat) (x r b : Int), b = 2 ^ j → j ≤ 31 → j + 1 < k → 0 ≤ r → r ≤ 4294967296 - 2 * b → 0 ≤ x → x ≤ 9223372036854775808 → r * r ≤ x → x < (r + 2 * b) * (r + 2 * b) →
    ∃ s, vec_root.l0 k x r b = some s ∧ Root s x ∧ s ≤ 4294967295 := by
  induction j with
  | zero =>
    intro k x r b hb _ hk hr hrb hx hx' h1 h2
    obtain ⟨k, rfl⟩ : ∃ m, k = m + 2 := ⟨k - 2, by omega⟩
    have hb1 : b = 1 := by rw [hb]; rfl
    subst hb1
    have hs := sq_le (a := r + 1) (b := 4294967295) (by omega) (by omega)
    have hp : 0 ≤ (r + 1) * (r + 1) := Int.mul_nonneg (by omega) (by omega)
    have st := root_step (r := r) (b := 1) (x := x) hr (by omega) h1 h2
    simp only [vec_root.l0]
    rw [if_pos (by omega), u64w (x := r + 1) (by omega) (by omega), u64w (by omega) (by omega), show (1 : Int) / 2 = 0 by decide]
    by_cases h : (r + 1) * (r + 1) ≤ x
    · rw [if_pos h, if_neg (by omega)]
      exact ⟨r + 1, rfl, ⟨by omega, (st.1 h).1, (st.1 h).2⟩, by omega⟩
    · rw [if_neg h, if_neg (by omega)]
      exact ⟨r, rfl, ⟨by omega, (st.2 h).1, (st.2 h).2⟩, by omega⟩
  | succ j ih =>
    intro k x r b hb hj hk hr hrb hx hx' h1 h2
    obtain ⟨k, rfl⟩ : ∃ m, k = m + 1 := ⟨k - 1, by omega⟩
    obtain ⟨c, hc⟩ : ∃ c : Int, c = 2 ^ j := ⟨_, rfl⟩
    have hc0 : 0 < c := by rw [hc]; exact Int.pow_pos (by omega)
    have hbc : b = 2 * c := by rw [hb, hc, Int.pow_succ]; omega
    have hs := sq_le (a := r + b) (b := 4294967295) (by omega) (by omega)
    have hp : 0 ≤ (r + b) * (r + b) := Int.mul_nonneg (by omega) (by omega)
    have st := root_step (r := r) (b := b) (x := x) hr (by omega) h1 h2
    simp only [vec_root.l0]
    rw [if_pos (by omega), u64w (x := r + b) (by omega) (by omega), u64w (by omega) (by omega), show b / 2 = c by omega]
    by_cases h : (r + b) * (r + b) ≤ x
    · rw [if_pos h]
      have g := (st.1 h).2
      rw [show r + b + b = r + b + 2 * c by omega] at g
      exact ih k x (r + b) c hc (by omega) (by omega) (by omega) (by omega) hx hx' h g
    · rw [if_neg h]
      have g := (st.2 h).2
      rw [show r + b = r + 2 * c by omega] at g
      exact ih k x r c hc (by omega) (by omega) hr (by omega) hx hx' h1 g
theorem zsquare (a : Int) : vec_square.f a = some (hold a * hold a) := by
  have h := hold_mul a a
  have h0 : 0 ≤ hold a * hold a := by
    rcases Int.le_total 0 (hold a) with h | h
    · exact Int.mul_nonneg h h
    · exact Int.mul_nonneg_of_nonpos_of_nonpos h h
  unfold vec_square.f
  simp only [zHold, Option.bind_some]
  rw [wrap64_id (by omega) (by omega), u64w (by omega) (by omega)]
theorem sq_bd (a : Int) : 0 ≤ hold a * hold a ∧ hold a * hold a ≤ 4611686018427387904 := by
  have h := hold_mul a a
  refine ⟨?_, h.2⟩
  rcases Int.le_total 0 (hold a) with h | h
  · exact Int.mul_nonneg h h
  · exact Int.mul_nonneg_of_nonpos_of_nonpos h h
theorem zLength (a b : Int) (k : Nat) : ∃ s, vec_Length.f (k + 34) a b = some (hold s) ∧ Root s (hold a * hold a + hold b * hold b) ∧ s ≤ 4294967295 := by
  have h1 := sq_bd a
  have h2 := sq_bd b
  obtain ⟨s, hs, R, hb⟩ := zvroot 31 (k + 34) (hold a * hold a + hold b * hold b) 0 2147483648 (by decide) (by omega) (by omega) (by omega) (by omega) (by omega) (by omega) (by omega) (by omega)
  refine ⟨s, ?_, R, hb⟩
  have := R.1
  unfold vec_Length.f vec_root.f
  simp only [zsquare, Option.bind_some]
  rw [u64w (by omega) (by omega), hs]
  simp only [zHold, Option.bind_some]
  rw [wrap64_id (by omega) (by omega)]
theorem zawake (k : Nat) : ricochetlaw02_awake.f (k + 34) = some true := by
  obtain ⟨s, hs, R, _⟩ := zLength 196608 262144 k
  have e : Root 327680 (hold 196608 * hold 196608 + hold 262144 * hold 262144) := by
    refine ⟨?_, ?_, ?_⟩ <;> decide
  have := R.eq e
  subst this
  unfold ricochetlaw02_awake.f
  rw [hs]
  rfl
theorem zFormed (a b : Int) : vec_Formed.f a b = some (fmd a b) := by
  unfold vec_Formed.f fmd
  by_cases h1 : a ≥ -134217728
  · rw [if_pos h1]
    by_cases h2 : a ≤ 134217728
    · rw [if_pos h2]
      by_cases h3 : b ≥ -134217728
      · rw [if_pos h3]; exact dec_t (by omega)
      · rw [if_neg h3]; exact dec_f (by omega)
    · rw [if_neg h2]; exact dec_f (by omega)
  · rw [if_neg h1]; exact dec_f (by omega)
theorem rHold (a : Int) : ricochetref01_Hold.f a = some (hold a) := by unfold ricochetref01_Hold.f hold; split; rfl; split <;> rfl
theorem rhalf (j : Nat) : ∀ (k : Nat) (x lo hi : Int), j < k → 0 ≤ lo → lo < hi → hi ≤ 4294967295 → hi - lo ≤ 2 ^ j → 0 ≤ x → lo * lo ≤ x → x < hi * hi →
    ∃ s, ricochetref02_Length.l0 k x lo hi = some (hold s) ∧ Root s x := by
  induction j with
  | zero =>
    intro k x lo hi hk h0 hlt hh hj hx h1 h2
    obtain ⟨k, rfl⟩ : ∃ m, k = m + 1 := ⟨k - 1, by omega⟩
    have e : hi = lo + 1 := by have : (2 : Int) ^ 0 = 1 := rfl; omega
    subst e
    simp only [ricochetref02_Length.l0]
    rw [u64w (x := lo + 1) (by omega) (by omega), if_neg (by omega), wrap64_id (by omega) (by omega)]
    simp only [rHold, Option.bind_some]
    exact ⟨lo, rfl, h0, h1, h2⟩
  | succ j ih =>
    intro k x lo hi hk h0 hlt hh hj hx h1 h2
    obtain ⟨k, rfl⟩ : ∃ m, k = m + 1 := ⟨k - 1, by omega⟩
    have hp : (2 : Int) ^ (j + 1) = 2 * 2 ^ j := by rw [Int.pow_succ]; omega
    simp only [ricochetref02_Length.l0]
    rw [u64w (x := lo + 1) (by omega) (by omega)]
    by_cases hd : lo + 1 < hi
    · rw [if_pos hd, u64w (x := lo + hi) (by omega) (by omega), Int.tdiv_eq_ediv_of_nonneg (by omega), u64w (x := (lo + hi) / 2) (by omega) (by omega)]
      have hs := sq_le (a := (lo + hi) / 2) (b := 4294967295) (by omega) (by omega)
      have hp0 : 0 ≤ (lo + hi) / 2 * ((lo + hi) / 2) := Int.mul_nonneg (by omega) (by omega)
      rw [u64w (by omega) (by omega)]
      by_cases h : (lo + hi) / 2 * ((lo + hi) / 2) ≤ x
      · rw [if_pos h]
        exact ih k x _ hi (by omega) (by omega) (by omega) hh (by omega) hx h h2
      · rw [if_neg h]
        exact ih k x lo _ (by omega) h0 (by omega) (by omega) (by omega) hx h1 (by omega)
    · rw [if_neg hd, wrap64_id (by omega) (by omega)]
      simp only [rHold, Option.bind_some]
      have e : hi = lo + 1 := by omega
      subst e
      exact ⟨lo, rfl, h0, h1, h2⟩
theorem rLength (a b : Int) (k : Nat) : ∃ s, ricochetref02_Length.f (k + 34) a b = some (hold s) ∧ Root s (hold a * hold a + hold b * hold b) := by
  have h1 := sq_bd a
  have h2 := sq_bd b
  unfold ricochetref02_Length.f
  simp only [rHold, Option.bind_some]
  rw [wrap64_id (x := hold a * hold a) (by omega) (by omega), wrap64_id (x := hold b * hold b) (by omega) (by omega), u64w (x := hold a * hold a) (by omega) (by omega), u64w (x := hold b * hold b) (by omega) (by omega), u64w (by omega) (by omega)]
  exact rhalf 33 _ _ 0 4294967295 (by omega) (by omega) (by omega) (by omega) (by decide) (by omega) (by omega) (by omega)
theorem zheld (a b : Int) : fix_held.f a b = some (hold a, hold b) := by unfold fix_held.f; simp only [zHold, Option.bind_some]
theorem zBetween (a b : Int) {p : Int} (hp : 0 ≤ p) (hp' : p ≤ 255) : fix_Between.f a b p = some (btw (hold a) (hold b) p) := by
  have h1 := hold_bd a
  have h2 := hold_bd b
  unfold fix_Between.f
  simp only [zheld, zHold, Option.bind_some]
  have hb : -(4294967295 * 255) ≤ (hold b - hold a) * p ∧ (hold b - hold a) * p ≤ 4294967295 * 255 := mul_bd (by omega) (by omega) (by omega) (by omega) (by omega) (by omega)
  rw [wrap64_id (x := hold b - hold a) (by omega) (by omega), wrap64_id (x := p) (by omega) (by omega), wrap64_id (x := (hold b - hold a) * p) (by omega) (by omega), wrap64_id (by omega) (by omega)]
  rfl
theorem zvBetween (a b c d : Int) {p : Int} (hp : 0 ≤ p) (hp' : p ≤ 255) : vec_Between.f a b c d p = some (btw (hold a) (hold c) p, btw (hold b) (hold d) p) := by
  unfold vec_Between.f
  rw [zBetween a c hp hp', zBetween b d hp hp']
  rfl
theorem rdown {p q : Int} (hq : 0 < q) (hp : -4611686018427387904 ≤ p) (hp' : p ≤ 4611686018427387904) : ricochetref01_down.f p q = some (p / q) := by
  have e := tdiv_down (a := p) (b := q) hq
  have e1 : p / q * q ≤ p := Int.ediv_mul_le p (by omega)
  have e2 := Int.lt_ediv_add_one_mul_self p hq
  have lo : -4611686018427387904 ≤ p / q := by
    apply (Int.le_ediv_iff_mul_le hq).2
    have : (-4611686018427387904 : Int) * q ≤ -4611686018427387904 * 1 := by omega
    omega
  have hi : p / q ≤ 4611686018427387904 := by
    have := (Int.ediv_lt_iff_lt_mul (a := p) (b := 4611686018427387905) hq).2 (by omega)
    omega
  unfold ricochetref01_down.f
  rw [if_neg (by omega)]
  have e3 : (p / q + 1) * q = p / q * q + q := by grind
  have e4 := Int.tmod_add_tdiv_mul p q
  have e5 : p.tmod q < q := Int.tmod_lt_of_pos p hq
  have e6 : -q < p.tmod q := by
    have := Int.tmod_lt_of_pos (-p) hq
    rw [Int.neg_tmod] at this
    omega
  by_cases h : p.tdiv q * q > p
  · rw [if_pos h] at e
    have e7 : (p / q + 1) = p.tdiv q := by omega
    have e8 : q ≤ 4611686018427387904 ∨ 4611686018427387904 < q := by omega
    have e9 : -9223372036854775808 ≤ p.tdiv q * q ∧ p.tdiv q * q ≤ 9223372036854775807 := by
      have hq0 : p.tdiv q ≤ 0 := by
        apply Int.not_lt.1
        intro hpos
        have hp0 : 0 ≤ p := by
          apply Int.not_lt.1
          intro hneg
          have e10 := Int.neg_tdiv (a := -p) (b := q)
          rw [Int.neg_neg] at e10
          have e11 : 0 ≤ (-p).tdiv q := Int.tdiv_nonneg (by omega) (by omega)
          omega
        have := Int.tmod_nonneg q hp0
        omega
      have : p.tdiv q * q ≤ 0 := Int.mul_nonpos_of_nonpos_of_nonneg hq0 (by omega)
      omega
    rw [wrap64_id (x := p.tdiv q) (by omega) (by omega), wrap64_id (x := p.tdiv q * q) e9.1 e9.2, if_pos h, wrap64_id (by omega) (by omega), e]
  · rw [if_neg h] at e
    have e9 : -9223372036854775808 ≤ p.tdiv q * q ∧ p.tdiv q * q ≤ 9223372036854775807 := by
      rcases Int.lt_or_le p 0 with hp0 | hp0
      · have e10 : p.tmod q ≤ 0 := by
          have := Int.tmod_nonneg q (a := -p) (by omega)
          rw [Int.neg_tmod] at this
          omega
        omega
      · have := Int.tmod_nonneg q hp0
        have : 0 ≤ p.tdiv q := Int.tdiv_nonneg hp0 (by omega)
        have : 0 ≤ p.tdiv q * q := Int.mul_nonneg this (by omega)
        omega
    rw [wrap64_id (x := p.tdiv q) (by omega) (by omega), wrap64_id (x := p.tdiv q * q) e9.1 e9.2, if_neg h, e]
theorem rwhole (a : Int) : ricochetref01_whole.f a = some (hold a) := by unfold ricochetref01_whole.f; simp only [rHold, Option.bind_some]
theorem rBetween (a b : Int) {p : Int} (hp : 0 ≤ p) (hp' : p ≤ 255) : ricochetref01_Between.f a b p = some (btw (hold a) (hold b) p) := by
  have h1 := hold_bd a
  have h2 := hold_bd b
  unfold ricochetref01_Between.f
  simp only [rwhole, Option.bind_some]
  have hb : -(4294967295 * 255) ≤ (hold b - hold a) * p ∧ (hold b - hold a) * p ≤ 4294967295 * 255 := mul_bd (by omega) (by omega) (by omega) (by omega) (by omega) (by omega)
  rw [wrap64_id (x := hold b - hold a) (by omega) (by omega), wrap64_id (x := p) (by omega) (by omega), wrap64_id (x := (hold b - hold a) * p) (by omega) (by omega), wrap64_id (x := hold a * 256) (by omega) (by omega), wrap64_id (x := hold a * 256 + _) (by omega) (by omega), rdown (by omega) (by omega) (by omega)]
  simp only [rHold, Option.bind_some]
  unfold btw
  rw [show (hold a * 256 + (hold b - hold a) * p) / 256 = hold a + (hold b - hold a) * p / 256 by omega]
theorem rvBetween (a b c d : Int) {p : Int} (hp : 0 ≤ p) (hp' : p ≤ 255) : ricochetref02_Between.f a b c d p = some (btw (hold a) (hold c) p, btw (hold b) (hold d) p) := by
  unfold ricochetref02_Between.f
  rw [rBetween a c hp hp', rBetween b d hp hp']
  rfl
theorem rFormed (a b : Int) : ricochetref02_Formed.f a b = some (fmd a b) := by
  unfold ricochetref02_Formed.f fmd
  by_cases h1 : a ≥ -134217728
  · rw [if_pos h1]
    by_cases h2 : a ≤ 134217728
    · rw [if_pos h2]
      by_cases h3 : b ≥ -134217728
      · rw [if_pos h3]; exact dec_t (by omega)
      · rw [if_neg h3]; exact dec_f (by omega)
    · rw [if_neg h2]; exact dec_f (by omega)
  · rw [if_neg h1]; exact dec_f (by omega)
end VecMeasuresAid
open VecMeasuresAid
theorem VecMeasures (a b c d p : Int) (_ : (Lit.int .i64 a).wf = true) (_ : (Lit.int .i64 b).wf = true) (_ : (Lit.int .i64 c).wf = true) (_ : (Lit.int .i64 d).wf = true) (hp : (Lit.int .u8 p).wf = true) :
    ∃ k, ricochetlaw02_VecMeasures.f k a b c d p = some true := by
  obtain ⟨p0, p1⟩ := wfu8 hp
  refine ⟨0 + 34, ?_⟩
  obtain ⟨s, hs, S, _⟩ := zLength a b 0
  obtain ⟨t, ht, T⟩ := rLength a b 0
  have e := S.eq T
  subst e
  unfold ricochetlaw02_VecMeasures.f
  rw [zawake 0, hs, ht, zvBetween a b c d p0 p1, rvBetween a b c d p0 p1]
  simp only [zFormed, rFormed, Option.bind_some, if_true, beq_self_eq_true, Bool.and_self]
end Go.Proofs.Ytbanpiomdhkakaa.Pure
