/- The printed function of the law 'VecLong' answers true for all ways, without conditions. -/
import Derived.Test.YtbanpiomdhkakaaPVecLongx3
import Derived.Test.YtbanpiomdhkakaaPlain
set_option linter.unusedVariables false
set_option linter.unusedSimpArgs false
namespace Go.Proofs.Ytbanpiomdhkakaa.Pure
open Go.RowKit Go.Proofs.Ytbanpiomdhkakaa.PVecLong Go.Proofs.YtbanpiomdhkakaaW.PrintWords Go.Proofs.YtbanpiomdhkakaaW.PrintLast Go.Proofs.Ytbanpiomdhkakaa.Plain
namespace VecLongAid
theorem zHold (a : Int) : fix_Hold.f a = some (hold a) := by unfold fix_Hold.f; rw [mnmx]
theorem zvroot (j : Nat) : ∀ (k : Nat) (x r b : Int), b = 2 ^ j → j ≤ 31 → j + 1 < k → 0 ≤ r → r ≤ 4294967296 - 2 * b → 0 ≤ x → x ≤ 9223372036854775808 → r * r ≤ x → x < (r + 2 * b) * (r + 2 * b) →
    ∃ s, vec_root.l0 k x r b = some s ∧ Root s x ∧ s ≤ 4294967295 := by
  induction j with
  | zero =>
    intro k x r b hb _ hk hr hrb hx hx' h1 h2
    obtain ⟨k, rfl⟩ : ∃ m, k = m + 2 := ⟨k - 2, by omega⟩
    have hb1 : b = 1 := by rw [hb]; rfl
    subst hb1
    have hs := sq_le (a := r + 1) (b := 4294967295) (by omega) (by omega)
    have hp : 0 ≤ (r + 1) * (r + 1) := Int.mul_nonneg (by omega) (by omega)
    have st := root_step (r := r) (b := 1) (x := x) hr (by omega) h1 h2
    simp only [vec_root.l0]
    rw [if_pos (by omega), u64w (x := r + 1) (by omega) (by omega), u64w (by omega) (by omega), show (1 : Int) / 2 = 0 by decide]
    by_cases h : (r + 1) * (r + 1) ≤ x
    · rw [if_pos h, if_neg (by omega)]
      exact ⟨r + 1, rfl, ⟨by omega, (st.1 h).1, (st.1 h).2⟩, by omega⟩
    · rw [if_neg h, if_neg (by omega)]
      exact ⟨r, rfl, ⟨by omega, (st.2 h).1, (st.2 h).2⟩, by omega⟩
  | succ j ih =>
    intro k x r b hb hj hk hr hrb hx hx' h1 h2
    obtain ⟨k, rfl⟩ : ∃ m, k = m + 1 := ⟨k - 1, by omega⟩
    obtain ⟨c, hc⟩ : ∃ c : Int, c = 2 ^ j := ⟨_, rfl⟩
    have hc0 : 0 < c := by rw [hc]; exact Int.pow_pos (by omega)
    have hbc : b = 2 * c := by rw [hb, hc, Int.pow_succ]; omega
    have hs := sq_le (a := r + b) (b := 4294967295) (by omega) (by omega)
    have hp : 0 ≤ (r + b) * (r + b) := Int.mul_nonneg (by omega) (by omega)
    have st := root_step (r := r) (b := b) (x := x) hr (by omega) h1 h2
    simp only [vec_root.l0]
    rw [if_pos (by omega), u64w (x := r + b) (by omega) (by omega), u64w (by omega) (by omega), show b / 2 = c by omega]
    by_cases h : (r + b) * (r + b) ≤ x
    · rw [if_pos h]
      have g := (st.1 h).2
      rw [show r + b + b = r + b + 2 * c by omega] at g
      exact ih k x (r + b) c hc (by omega) (by omega) (by omega) (by omega) hx hx' h g
    · rw [if_neg h]
      have g := (st.2 h).2
      rw [show r + b = r + 2 * c by omega] at g
      exact ih k x r c hc (by omega) (by omega) hr (by omega) hx hx' h1 g
theorem zsquare (a : Int) : vec_square.f a = some (hold a * hold a) := by
  have h := hold_mul a a
  have h0 : 0 ≤ hold a * hold a := by
    rcases Int.le_total 0 (hold a) with h | h
    · exact Int.mul_nonneg h h
    · exact Int.mul_nonneg_of_nonpos_of_nonpos h h
  unfold vec_square.f
  simp only [zHold, Option.bind_some]
  rw [wrap64_id (by omega) (by omega), u64w (by omega) (by omega)]
theorem sq_bd (a : Int) : 0 ≤ hold a * hold a ∧ hold a * hold a ≤ 4611686018427387904 := by
  have h := hold_mul a a
  refine ⟨?_, h.2⟩
  rcases Int.le_total 0 (hold a) with h | h
  · exact Int.mul_nonneg h h
  · exact Int.mul_nonneg_of_nonpos_of_nonpos h h
theorem zLength (a b : Int) (k : Nat) : ∃ s, vec_Length.f (k + 34) a b = some (hold s) ∧ Root s (hold a * hold a + hold b * hold b) ∧ s ≤ 4294967295 := by
  have h1 := sq_bd a
  have h2 := sq_bd b
  obtain ⟨s, hs, R, hb⟩ := zvroot 31 (k + 34) (hold a * hold a + hold b * hold b) 0 2147483648 (by decide) (by omega) (by omega) (by omega) (by omega) (by omega) (by omega) (by omega) (by omega)
  refine ⟨s, ?_, R, hb⟩
  have := R.1
  unfold vec_Length.f vec_root.f
  simp only [zsquare, Option.bind_some]
  rw [u64w (by omega) (by omega), hs]
  simp only [zHold, Option.bind_some]
  rw [wrap64_id (by omega) (by omega)]
theorem zawake (k : Nat) : ricochetlaw02_awake.f (k + 34) = some true := by
  obtain ⟨s, hs, R, _⟩ := zLength 196608 262144 k
  have e : Root 327680 (hold 196608 * hold 196608 + hold 262144 * hold 262144) := by
    refine ⟨?_, ?_, ?_⟩ <;> decide
  have := R.eq e
  subst this
  unfold ricochetlaw02_awake.f
  rw [hs]
  rfl
theorem zFormed (a b : Int) : vec_Formed.f a b = some (fmd a b) := by
  unfold vec_Formed.f fmd
  by_cases h1 : a ≥ -134217728
  · rw [if_pos h1]
    by_cases h2 : a ≤ 134217728
    · rw [if_pos h2]
      by_cases h3 : b ≥ -134217728
      · rw [if_pos h3]; exact dec_t (by omega)
      · rw [if_neg h3]; exact dec_f (by omega)
    · rw [if_neg h2]; exact dec_f (by omega)
  · rw [if_neg h1]; exact dec_f (by omega)
theorem zsize {a : Int} (h1 : -134217728 ≤ a) (h2 : a ≤ 134217728) : ricochetlaw02_size.f a = some (mx a (-a)) := by
  unfold ricochetlaw02_size.f
  rw [wrap64_id (by omega) (by omega)]
end VecLongAid
open VecLongAid
theorem VecLong (x y : Int) (_ : (Lit.int .i64 x).wf = true) (_ : (Lit.int .i64 y).wf = true) : ∃ k, ricochetlaw02_VecLong.f k x y = some true := by
  refine ⟨35, ?_⟩
  unfold ricochetlaw02_VecLong.f
  rw [zawake 1]
  simp only [zFormed, Option.bind_some, if_true]
  by_cases hf : fmd x y = true
  · rw [hf]
    have h := of_decide_eq_true (show decide (-134217728 ≤ x ∧ x ≤ 134217728 ∧ -134217728 ≤ y ∧ y ≤ 134217728) = true from hf)
    obtain ⟨s, hs, S, _⟩ := zLength x y 0
    obtain ⟨t, ht, T, _⟩ := zLength (-y) x 0
    rw [hold_id (x := x) (by omega) (by omega), hold_id (x := y) (by omega) (by omega)] at S
    rw [hold_id (x := x) (by omega) (by omega), hold_id (x := -y) (by omega) (by omega), show -y * -y + x * x = x * x + y * y by grind] at T
    have e := S.eq T
    subst e
    obtain ⟨s0, s1, s2⟩ := S
    have ax : mx x (-x) = x.natAbs := by unfold mx; omega
    have ay : mx y (-y) = y.natAbs := by unfold mx; omega
    have qx : x * x = (x.natAbs : Int) * x.natAbs := by rw [← Int.natCast_mul, Int.natAbs_mul_self]
    have qy : y * y = (y.natAbs : Int) * y.natAbs := by rw [← Int.natCast_mul, Int.natAbs_mul_self]
    have bx : (x.natAbs : Int) ≤ 134217728 := by omega
    have bY : (y.natAbs : Int) ≤ 134217728 := by omega
    rw [qx, qy] at s1 s2
    have zx : x.natAbs = (0 : Int) ↔ x = 0 := by omega
    have zy : y.natAbs = (0 : Int) ↔ y = 0 := by omega
    have px : (0 : Int) ≤ x.natAbs := by omega
    have py : (0 : Int) ≤ y.natAbs := by omega
    generalize (x.natAbs : Int) = u at *
    generalize (y.natAbs : Int) = v at *
    have uu : 0 ≤ u * u := Int.mul_nonneg px px
    have vv : 0 ≤ v * v := Int.mul_nonneg py py
    have uv : 0 ≤ u * v := Int.mul_nonneg px py
    have su : u ≤ s := by
      apply Int.not_lt.1
      intro h
      have := sq_le (a := s + 1) (b := u) (by omega) (by omega)
      omega
    have sv : v ≤ s := by
      apply Int.not_lt.1
      intro h
      have := sq_le (a := s + 1) (b := v) (by omega) (by omega)
      omega
    have suv : s ≤ u + v := by
      apply Int.not_lt.1
      intro h
      have := sq_lt (a := u + v) (b := s) (by omega) h
      have e : (u + v) * (u + v) = u * u + 2 * (u * v) + v * v := by grind
      omega
    have hh : hold s = s := hold_id (by omega) (by omega)
    simp only [ricochetlaw02_VecLong.j0, Bool.not_true, Bool.false_eq_true, if_false]
    rw [zsize (a := x) (by omega) (by omega), zsize (a := y) (by omega) (by omega), wrap64_id (x := -y) (by omega) (by omega), hs, ht]
    simp only [Option.bind_some]
    rw [hh, ax, ay, if_pos su, if_pos sv, wrap64_id (by omega) (by omega), if_pos suv, if_pos trivial]
    by_cases h0 : s = 0
    · have u0 : x = 0 := zx.1 (by omega)
      have v0 : y = 0 := zy.1 (by omega)
      simp [h0, u0, v0]
    · have : ¬ (x = 0 ∧ y = 0) := by
        rintro ⟨a, b⟩
        have := zx.2 a
        have := zy.2 b
        omega
      have e1 : (s == 0) = false := beq_eq_false_iff_ne.2 h0
      have e2 : (x == 0 && y == 0) = false := by
        rw [Bool.and_eq_false_iff, beq_eq_false_iff_ne, beq_eq_false_iff_ne]
        omega
      rw [e1, e2]
      rfl
  · simp only [Bool.not_eq_true] at hf
    rw [hf]
    simp only [ricochetlaw02_VecLong.j0, Bool.not_false, if_true]
    rw [zawake 0]
    rfl
end Go.Proofs.Ytbanpiomdhkakaa.Pure
