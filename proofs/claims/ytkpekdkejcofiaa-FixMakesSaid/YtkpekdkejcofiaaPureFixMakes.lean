/- The law 'FixMakes' returns true for all numbers and all three of them: its walk over the contracts of what it calls; without conditions. -/
import Derived.Test.YtkpekdkejcofiaaMakesX
import Derived.Test.YtkpekdkejcofiaaPlain
set_option linter.unusedVariables false
set_option linter.unusedSimpArgs false
namespace Go.Proofs.Ytkpekdkejcofiaa.Pure
open Go.RowKit Go.Proofs.Ytkpekdkejcofiaa.PFixMakes Go.Proofs.YtkpekdkejcofiaaW.PrintWords Go.Proofs.YtkpekdkejcofiaaW.PrintLast Go.Proofs.Ytkpekdkejcofiaa.Plain
namespace FixMakesAid
theorem zHold (a : Int) : fix_Hold.f a = some (hold a) := by unfold fix_Hold.f; rw [mnmx]
theorem zheld (a b : Int) : fix_held.f a b = some (hold a, hold b) := by unfold fix_held.f; simp only [zHold, Option.bind_some]
theorem zBetween (a b : Int) {p : Int} (hp : 0 ≤ p) (hp' : p ≤ 255) : fix_Between.f a b p = some (btw (hold a) (hold b) p) := by
  have h1 := hold_bd a
  have h2 := hold_bd b
  unfold fix_Between.f
  simp only [zheld, zHold, Option.bind_some]
  have hb : -(4294967295 * 255) ≤ (hold b - hold a) * p ∧ (hold b - hold a) * p ≤ 4294967295 * 255 := mul_bd (by omega) (by omega) (by omega) (by omega) (by omega) (by omega)
  rw [wrap64_id (x := hold b - hold a) (by omega) (by omega), wrap64_id (x := p) (by omega) (by omega), wrap64_id (x := (hold b - hold a) * p) (by omega) (by omega), wrap64_id (by omega) (by omega)]
  rfl
theorem zOf (a : Int) : fix_Of.f a = some (ofn a) := by unfold fix_Of.f; simp only [zHold, Option.bind_some, ofn]
theorem zMul (a b : Int) : fix_Mul.f a b = some (hold (hold a * hold b / 65536)) := by
  have h1 := hold_mul a b
  unfold fix_Mul.f
  simp only [zheld, zHold, Option.bind_some]
  rw [wrap64_id (by omega) (by omega)]
theorem zawake : ricochetlaw01_awake.f = some true := by
  unfold ricochetlaw01_awake.f
  simp only [zMul, zOf, Option.bind_some]
  rfl
theorem zFloor (a : Int) : fix_Floor.f a = some (hold a / 65536) := by unfold fix_Floor.f; simp only [zHold, Option.bind_some]
theorem zroot (j : Nat) : ∀ (k : Nat) (x r b : Int), b = 2 ^ j → j ≤ 24 → j + 1 < k → 0 ≤ r → r ≤ 33554432 - 2 * b → 0 ≤ x → x ≤ 140737488355328 → r * r ≤ x → x < (r + 2 * b) * (r + 2 * b) →
    ∃ s, fix_Sqrt.l0 k x r b = some s ∧ Root s x ∧ s ≤ 33554431 := by
  induction j with
  | zero =>
    intro k x r b hb _ hk hr hrb hx hx' h1 h2
    obtain ⟨k, rfl⟩ : ∃ m, k = m + 2 := ⟨k - 2, by omega⟩
    have hb1 : b = 1 := by rw [hb]; rfl
    subst hb1
    have hs := sq_le (a := r + 1) (b := 33554432) (by omega) (by omega)
    have hp : 0 ≤ (r + 1) * (r + 1) := Int.mul_nonneg (by omega) (by omega)
    have st := root_step (r := r) (b := 1) (x := x) hr (by omega) h1 h2
    simp only [fix_Sqrt.l0]
    rw [if_pos (by omega), u64w (x := r + 1) (by omega) (by omega), u64w (by omega) (by omega), show (1 : Int) / 2 = 0 by decide]
    by_cases h : (r + 1) * (r + 1) ≤ x
    · rw [if_pos h, if_neg (by omega), wrap64_id (by omega) (by omega)]
      exact ⟨r + 1, rfl, ⟨by omega, (st.1 h).1, (st.1 h).2⟩, by omega⟩
    · rw [if_neg h, if_neg (by omega), wrap64_id (by omega) (by omega)]
      exact ⟨r, rfl, ⟨by omega, (st.2 h).1, (st.2 h).2⟩, by omega⟩
  | succ j ih =>
    intro k x r b hb hj hk hr hrb hx hx' h1 h2
    obtain ⟨k, rfl⟩ : ∃ m, k = m + 1 := ⟨k - 1, by omega⟩
    obtain ⟨c, hc⟩ : ∃ c : Int, c = 2 ^ j := ⟨_, rfl⟩
    have hc0 : 0 < c := by rw [hc]; exact Int.pow_pos (by omega)
    have hbc : b = 2 * c := by rw [hb, hc, Int.pow_succ]; omega
    have hs := sq_le (a := r + b) (b := 33554432) (by omega) (by omega)
    have hp : 0 ≤ (r + b) * (r + b) := Int.mul_nonneg (by omega) (by omega)
    have st := root_step (r := r) (b := b) (x := x) hr (by omega) h1 h2
    simp only [fix_Sqrt.l0]
    rw [if_pos (by omega), u64w (x := r + b) (by omega) (by omega), u64w (by omega) (by omega), show b / 2 = c by omega]
    by_cases h : (r + b) * (r + b) ≤ x
    · rw [if_pos h]
      have g := (st.1 h).2
      rw [show r + b + b = r + b + 2 * c by omega] at g
      exact ih k x (r + b) c hc (by omega) (by omega) (by omega) (by omega) hx hx' h g
    · rw [if_neg h]
      have g := (st.2 h).2
      rw [show r + b = r + 2 * c by omega] at g
      exact ih k x r c hc (by omega) (by omega) hr (by omega) hx hx' h1 g
/-- What the root is of. -/
def rx (a : Int) : Int := mx (hold a) 0 * 65536
theorem rx_bd (a : Int) : 0 ≤ rx a ∧ rx a ≤ 140737488289792 := by have := hold_bd a; unfold rx mx; omega
theorem zSqrt (a : Int) (k : Nat) : ∃ s, fix_Sqrt.f (k + 27) a = some s ∧ Root s (rx a) ∧ s ≤ 33554431 := by
  have h1 := hold_bd a
  have hm : 0 ≤ mx (hold a) 0 ∧ mx (hold a) 0 ≤ 2147483647 := by unfold mx; omega
  unfold fix_Sqrt.f
  simp only [zHold, Option.bind_some]
  rw [u64w (x := mx (hold a) 0) (by omega) (by omega), u64w (by omega) (by omega)]
  exact zroot 24 _ _ 0 16777216 (by decide) (by omega) (by omega) (by omega) (by omega) (by omega) (by omega) (by omega) (by omega)
theorem rHold (a : Int) : ricochetref01_Hold.f a = some (hold a) := by unfold ricochetref01_Hold.f hold; split; rfl; split <;> rfl
theorem rOf {n : Int} (h1 : -9223372036854775808 ≤ n) (h2 : n ≤ 9223372036854775807) : ricochetref01_Of.f n = some (ofn n) := by
  unfold ricochetref01_Of.f ofn
  simp only [rHold, Option.bind_some]
  by_cases a : n > 40000
  · rw [if_pos a, if_neg (by omega)]
    unfold hold mn mx
    simp only [Option.some.injEq]
    omega
  · rw [if_neg a]
    by_cases b : n < -40000
    · rw [if_pos b]
      unfold hold mn mx
      simp only [Option.some.injEq]
      omega
    · rw [if_neg b, wrap64_id (by omega) (by omega)]
      unfold hold mn mx
      simp only [Option.some.injEq]
      omega
theorem rwhole (a : Int) : ricochetref01_whole.f a = some (hold a) := by unfold ricochetref01_whole.f; simp only [rHold, Option.bind_some]
theorem rhalf (j : Nat) : ∀ (k : Nat) (x lo hi : Int), 2 * j + 1 < k → 0 ≤ lo → lo < hi → hi ≤ 16777216 → hi - lo ≤ 2 ^ j → 0 < x → lo * lo ≤ x → x < hi * hi →
    ∃ s, ricochetref01_Sqrt.l0 k x lo hi = some s ∧ Root s x := by
  induction j with
  | zero =>
    intro k x lo hi hk h0 hlt hh hj hx h1 h2
    obtain ⟨k, rfl⟩ : ∃ m, k = m + 2 := ⟨k - 2, by omega⟩
    have e : hi = lo + 1 := by have : (2 : Int) ^ 0 = 1 := rfl; omega
    subst e
    simp only [ricochetref01_Sqrt.l0]
    rw [wrap64_id (x := lo + 1) (by omega) (by omega), if_neg (by omega)]
    simp only [ricochetref01_Sqrt.j1, Bool.false_eq_true, if_false]
    exact ⟨lo, rfl, h0, h1, h2⟩
  | succ j ih =>
    intro k x lo hi hk h0 hlt hh hj hx h1 h2
    obtain ⟨k, rfl⟩ : ∃ m, k = m + 2 := ⟨k - 2, by omega⟩
    have hp : (2 : Int) ^ (j + 1) = 2 * 2 ^ j := by rw [Int.pow_succ]; omega
    simp only [ricochetref01_Sqrt.l0]
    rw [wrap64_id (x := lo + 1) (by omega) (by omega)]
    by_cases hd : lo + 1 < hi
    · rw [if_pos hd, decide_eq_true (show x > 0 from hx)]
      simp only [ricochetref01_Sqrt.j1, if_true]
      rw [wrap64_id (x := lo + hi) (by omega) (by omega), Int.tdiv_eq_ediv_of_nonneg (by omega), wrap64_id (x := (lo + hi) / 2) (by omega) (by omega)]
      have hs := sq_le (a := (lo + hi) / 2) (b := 16777216) (by omega) (by omega)
      have hp0 : 0 ≤ (lo + hi) / 2 * ((lo + hi) / 2) := Int.mul_nonneg (by omega) (by omega)
      rw [wrap64_id (by omega) (by omega)]
      by_cases h : (lo + hi) / 2 * ((lo + hi) / 2) ≤ x
      · rw [if_pos h]
        exact ih k x _ hi (by omega) (by omega) (by omega) hh (by omega) hx h h2
      · rw [if_neg h]
        exact ih k x lo _ (by omega) h0 (by omega) (by omega) (by omega) hx h1 (by omega)
    · rw [if_neg hd]
      simp only [ricochetref01_Sqrt.j1, Bool.false_eq_true, if_false]
      have e : hi = lo + 1 := by omega
      subst e
      exact ⟨lo, rfl, h0, h1, h2⟩
theorem rSqrt (a : Int) (k : Nat) : ∃ s, ricochetref01_Sqrt.f (k + 60) a = some s ∧ Root s (rx a) := by
  have h1 := hold_bd a
  unfold ricochetref01_Sqrt.f
  simp only [rwhole, Option.bind_some]
  rw [wrap64_id (by omega) (by omega)]
  by_cases h : 0 < hold a
  · have e : rx a = hold a * 65536 := by unfold rx mx; omega
    rw [e]
    exact rhalf 24 _ _ 0 16777216 (by omega) (by omega) (by omega) (by omega) (by decide) (by omega) (by omega) (by omega)
  · have e : rx a = 0 := by unfold rx mx; omega
    rw [e]
    simp only [ricochetref01_Sqrt.l0]
    rw [wrap64_id (x := 0 + 1) (by omega) (by omega), if_pos (by omega), decide_eq_false (by omega)]
    simp only [ricochetref01_Sqrt.j1, Bool.false_eq_true, if_false]
    exact ⟨0, rfl, by omega, by omega, by omega⟩
theorem rdown {p q : Int} (hq : 0 < q) (hp : -4611686018427387904 ≤ p) (hp' : p ≤ 4611686018427387904) : ricochetref01_down.f p q = some (p / q) := by
  have e := tdiv_down (a := p) (b := q) hq
  have e1 : p / q * q ≤ p := Int.ediv_mul_le p (by omega)
  have e2 := Int.lt_ediv_add_one_mul_self p hq
  have lo : -4611686018427387904 ≤ p / q := by
    apply (Int.le_ediv_iff_mul_le hq).2
    have : (-4611686018427387904 : Int) * q ≤ -4611686018427387904 * 1 := by omega
    omega
  have hi : p / q ≤ 4611686018427387904 := by
    have := (Int.ediv_lt_iff_lt_mul (a := p) (b := 4611686018427387905) hq).2 (by omega)
    omega
  unfold ricochetref01_down.f
  rw [if_neg (by omega)]
  have e3 : (p / q + 1) * q = p / q * q + q := by grind
  have e4 := Int.tmod_add_tdiv_mul p q
  have e5 : p.tmod q < q := Int.tmod_lt_of_pos p hq
  have e6 : -q < p.tmod q := by
    have := Int.tmod_lt_of_pos (-p) hq
    rw [Int.neg_tmod] at this
    omega
  by_cases h : p.tdiv q * q > p
  · rw [if_pos h] at e
    have e7 : (p / q + 1) = p.tdiv q := by omega
    have e8 : q ≤ 4611686018427387904 ∨ 4611686018427387904 < q := by omega
    have e9 : -9223372036854775808 ≤ p.tdiv q * q ∧ p.tdiv q * q ≤ 9223372036854775807 := by
      have hq0 : p.tdiv q ≤ 0 := by
        apply Int.not_lt.1
        intro hpos
        have hp0 : 0 ≤ p := by
          apply Int.not_lt.1
          intro hneg
          have e10 := Int.neg_tdiv (a := -p) (b := q)
          rw [Int.neg_neg] at e10
          have e11 : 0 ≤ (-p).tdiv q := Int.tdiv_nonneg (by omega) (by omega)
          omega
        have := Int.tmod_nonneg q hp0
        omega
      have : p.tdiv q * q ≤ 0 := Int.mul_nonpos_of_nonpos_of_nonneg hq0 (by omega)
      omega
    rw [wrap64_id (x := p.tdiv q) (by omega) (by omega), wrap64_id (x := p.tdiv q * q) e9.1 e9.2, if_pos h, wrap64_id (by omega) (by omega), e]
  · rw [if_neg h] at e
    have e9 : -9223372036854775808 ≤ p.tdiv q * q ∧ p.tdiv q * q ≤ 9223372036854775807 := by
      rcases Int.lt_or_le p 0 with hp0 | hp0
      · have e10 : p.tmod q ≤ 0 := by
          have := Int.tmod_nonneg q (a := -p) (by omega)
          rw [Int.neg_tmod] at this
          omega
        omega
      · have := Int.tmod_nonneg q hp0
        have : 0 ≤ p.tdiv q := Int.tdiv_nonneg hp0 (by omega)
        have : 0 ≤ p.tdiv q * q := Int.mul_nonneg this (by omega)
        omega
    rw [wrap64_id (x := p.tdiv q) (by omega) (by omega), wrap64_id (x := p.tdiv q * q) e9.1 e9.2, if_neg h, e]
theorem rFloor (a : Int) : ricochetref01_Floor.f a = some (hold a / 65536) := by
  have h1 := hold_bd a
  unfold ricochetref01_Floor.f
  simp only [rwhole, Option.bind_some]
  rw [rdown (by omega) (by omega) (by omega)]
  rfl
theorem rBetween (a b : Int) {p : Int} (hp : 0 ≤ p) (hp' : p ≤ 255) : ricochetref01_Between.f a b p = some (btw (hold a) (hold b) p) := by
  have h1 := hold_bd a
  have h2 := hold_bd b
  unfold ricochetref01_Between.f
  simp only [rwhole, Option.bind_some]
  have hb : -(4294967295 * 255) ≤ (hold b - hold a) * p ∧ (hold b - hold a) * p ≤ 4294967295 * 255 := mul_bd (by omega) (by omega) (by omega) (by omega) (by omega) (by omega)
  rw [wrap64_id (x := hold b - hold a) (by omega) (by omega), wrap64_id (x := p) (by omega) (by omega), wrap64_id (x := (hold b - hold a) * p) (by omega) (by omega), wrap64_id (x := hold a * 256) (by omega) (by omega), wrap64_id (x := hold a * 256 + _) (by omega) (by omega), rdown (by omega) (by omega) (by omega)]
  simp only [rHold, Option.bind_some]
  unfold btw
  rw [show (hold a * 256 + (hold b - hold a) * p) / 256 = hold a + (hold b - hold a) * p / 256 by omega]
end FixMakesAid
open FixMakesAid
end Go.Proofs.Ytkpekdkejcofiaa.Pure
namespace Go.Proofs.Ytkpekdkejcofiaa.PFixMakes
open Go.RowKit Go.Proofs.YtkpekdkejcofiaaW.PrintWords Go.Proofs.YtkpekdkejcofiaaW.PrintLast Go.Proofs.YtkpekdkejcofiaaW.PrintMore Go.Proofs.Ytkpekdkejcofiaa.Plain Go.Proofs.Ytkpekdkejcofiaa.Pure.FixMakesAid
set_option maxHeartbeats 8000000 in
set_option maxRecDepth 100000 in
theorem ricochetlaw01_FixMakes.calls (x n a b c : Int) (w : World) (wx : (Lit.int .i64 x).wf = true) (wn : (Lit.int .i64 n).wf = true) (wa : (Lit.int .i64 a).wf = true) (wb : (Lit.int .i64 b).wf = true) (wc : (Lit.int .i64 c).wf = true) :
    Calls Try.prog 6 #[.int .i64 x, .int .i64 n, .agg #[.int .i64 a, .int .i64 b, .int .i64 c]] w fun e w' => e = .returned (.bool true) ∧ Below w.heap.size w w' := by
  have HB := Aside0.mk (Below.refl w.heap.size w)
  obtain ⟨n1, n2⟩ := wfi64 wn
  have p0 : 0 ≤ c % 256 := by omega
  have p1 : c % 256 ≤ 255 := by omega
  obtain ⟨r1, A1, A2⟩ : ∃ r, fix_Hold.f x = some r ∧ ricochetref01_Hold.f x = some r := ⟨_, zHold x, rHold x⟩
  obtain ⟨r2, A3, A4⟩ : ∃ r, fix_Of.f n = some r ∧ ricochetref01_Of.f n = some r := ⟨_, zOf n, rOf n1 n2⟩
  obtain ⟨r3, A5, A6⟩ : ∃ r, fix_Sqrt.f 27 a = some r ∧ ricochetref01_Sqrt.f 60 a = some r := by
    obtain ⟨s, hs, S, _⟩ := zSqrt a 0
    obtain ⟨t, ht, T⟩ := rSqrt a 0
    exact ⟨s, hs, by rw [S.eq T]; exact ht⟩
  obtain ⟨r4, A7, A8⟩ : ∃ r, fix_Floor.f a = some r ∧ ricochetref01_Floor.f a = some r := ⟨_, zFloor a, rFloor a⟩
  obtain ⟨r5, A9, A10⟩ : ∃ r, fix_Between.f a b (c % 256) = some r ∧ ricochetref01_Between.f a b (c % 256) = some r := ⟨_, zBetween a b p0 p1, rBetween a b p0 p1⟩
  have B1 := Aside0.mk A1
  have B2 := Aside0.mk A2
  have B3 := Aside0.mk A3
  have B4 := Aside0.mk A4
  have B5 := Aside0.mk A5
  have B6 := Aside0.mk A6
  have B7 := Aside0.mk A7
  have B8 := Aside0.mk A8
  have B9 := Aside0.mk A9
  have B10 := Aside0.mk A10
  clear p0 p1 A1 A2 A3 A4 A5 A6 A7 A8 A9 A10
  have c1 : (r1 == r1) = true := beq_self_eq_true r1
  have c2 : (r2 == r2) = true := beq_self_eq_true r2
  have c3 : (r3 == r3) = true := beq_self_eq_true r3
  have c4 : (r4 == r4) = true := beq_self_eq_true r4
  have c5 : (r5 == r5) = true := beq_self_eq_true r5
  go_enter Try.func6, Try.ntmps6
  go_wp2_with fail
  go_quiet (fail)
  go_wp2_with (first
    | ((with_reducible refine gate_callee (f := 13) rfl ?_); refine goesL_ (some 17) rfl rfl Try.func13 (by kernel_rfl) rfl #[] rfl (by (try simp only [List.map_toArray, List.map_cons, List.map_nil]); first | done | rfl) ?_; (with_reducible refine (ricochetlaw01_awake.calls true _ zawake).mono ?_); rintro e w9 ⟨rfl, hb⟩; refine ⟨_, rfl, ?_⟩; have n0_ := Aside0.mk (below_step (by repeat (first | (with_reducible first | exact HB.out | apply below_alloc | apply pw_below_drewN | apply below_drew1) | exact HB.out)) hb); clear HB; have HB := n0_; clear n0_; (try clear hb))
    | (go_at_call 11; (with_reducible refine (fix_Hold.calls x r1 _ B1.out).mono ?_); rintro e w9 ⟨rfl, hb⟩; have n0_ := Aside0.mk (below_step (by repeat (first | (with_reducible first | exact HB.out | apply below_alloc | apply pw_below_drewN | apply below_drew1) | exact HB.out)) hb); clear HB; have HB := n0_; clear n0_; (try clear hb))
    | (go_at_call 20; (with_reducible refine (ricochetref01_Hold.calls x r1 _ B2.out).mono ?_); rintro e w' ⟨rfl, ⟨nd, rfl⟩⟩)
    | (go_at_call 14; (with_reducible refine (fix_Of.calls n r2 _ B3.out).mono ?_); rintro e w9 ⟨rfl, hb⟩; have n0_ := Aside0.mk (below_step (by repeat (first | (with_reducible first | exact HB.out | apply below_alloc | apply pw_below_drewN | apply below_drew1) | exact HB.out)) hb); clear HB; have HB := n0_; clear n0_; (try clear hb))
    | (go_at_call 21; (with_reducible refine (ricochetref01_Of.calls n r2 _ B4.out).mono ?_); rintro e w' ⟨rfl, ⟨nd, rfl⟩⟩)
    | (go_at_call 19; (with_reducible refine (fix_Sqrt.calls 27 a r3 _ B5.out).mono ?_); rintro e w9 ⟨rfl, hb⟩; have n0_ := Aside0.mk (below_step (by repeat (first | (with_reducible first | exact HB.out | apply below_alloc | apply pw_below_drewN | apply below_drew1) | exact HB.out)) hb); clear HB; have HB := n0_; clear n0_; (try clear hb))
    | (go_at_call 22; (with_reducible refine (ricochetref01_Sqrt.calls 60 a r3 _ B6.out).mono ?_); rintro e w' ⟨rfl, ⟨nd, rfl⟩⟩)
    | (go_at_call 17; (with_reducible refine (fix_Floor.calls a r4 _ B7.out).mono ?_); rintro e w9 ⟨rfl, hb⟩; have n0_ := Aside0.mk (below_step (by repeat (first | (with_reducible first | exact HB.out | apply below_alloc | apply pw_below_drewN | apply below_drew1) | exact HB.out)) hb); clear HB; have HB := n0_; clear n0_; (try clear hb))
    | (go_at_call 23; (with_reducible refine (ricochetref01_Floor.calls a r4 _ B8.out).mono ?_); rintro e w' ⟨rfl, ⟨nd, rfl⟩⟩)
    | (go_at_call 12; (with_reducible refine (fix_Between.calls a b (c % 256) r5 _ B9.out).mono ?_); rintro e w9 ⟨rfl, hb⟩; have n0_ := Aside0.mk (below_step (by repeat (first | (with_reducible first | exact HB.out | apply below_alloc | apply pw_below_drewN | apply below_drew1) | exact HB.out)) hb); clear HB; have HB := n0_; clear n0_; (try clear hb))
    | (go_at_call 24; (with_reducible refine (ricochetref01_Between.calls a b (c % 256) r5 _ B10.out).mono ?_); rintro e w' ⟨rfl, ⟨nd, rfl⟩⟩))
  go_ret
  exact ⟨by first | rfl | simp, by repeat (first | (with_reducible first | exact HB.out | apply below_alloc | apply pw_below_drewN | apply below_drew1) | exact HB.out)⟩
end Go.Proofs.Ytkpekdkejcofiaa.PFixMakes
namespace Go.Proofs.Ytkpekdkejcofiaa.Pure
end Go.Proofs.Ytkpekdkejcofiaa.Pure
