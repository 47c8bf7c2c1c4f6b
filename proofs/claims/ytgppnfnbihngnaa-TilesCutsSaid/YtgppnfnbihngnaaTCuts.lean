import Derived.Test.YtgppnfnbihngnaaTAwake
import Derived.Test.YtgppnfnbihngnaaTCutP
set_option linter.unusedVariables false
set_option linter.unusedSimpArgs false
namespace Go.Proofs.Ytgppnfnbihngnaa.Tiles
open Go.RowKit Go.Proofs.YtgppnfnbihngnaaW.PrintWords Go.Proofs.YtgppnfnbihngnaaW.PrintLast Go.Proofs.YtgppnfnbihngnaaW.PrintMore Go.Proofs.Ytgppnfnbihngnaa.PTilesFree

theorem get_at (s : ByteArray) (i : Nat) (h : i < s.size) : s[i]'h = s.get! i := by
  rw [← get_list s i (by rw [← sz_list]; exact h)]; rfl
set_option maxHeartbeats 4000000 in
set_option maxRecDepth 100000 in
theorem cuts_walk (s : ByteArray) (cut : Int) (hcut : (Lit.int .u16 cut).wf = true) (w : World) : Calls Try.prog 4 #[.string s, .int .u16 cut] w fun e w' => e = .returned (.bool true) ∧ Below w.heap.size w w' := by
  have HB := Aside0.mk (Below.refl w.heap.size w)
  have hc0 : 0 ≤ cut ∧ cut ≤ 65535 := by
    have h1 : IntKind.u16.min = 0 := by rfl
    have h2 : IntKind.u16.max = 65535 := by rfl
    simp [Lit.wf, h1, h2] at hcut
    omega
  have hu26 := Try.underlying26
  have hu39 := Try.underlying39
  go_enter Try.func4, Try.ntmps4
  by_cases hs : (5000 : Int) < (s.size : Int)
  · go_wp2_with (go_at_call 10; (with_reducible refine (awake_any _).mono ?_); rintro e w1 ⟨he, hb1⟩; subst he; have HB1 := Aside0.mk (below_step HB.out hb1); clear HB; have HB := HB1; clear HB1 hb1)
    go_ret
    exact ⟨rfl, HB.out⟩
  · have HS : Aside0 (s.size ≤ 1000000) := ⟨by omega⟩
    go_upto_region 3 with (go_at_call 10; (with_reducible refine (awake_any _).mono ?_); rintro e w1 ⟨he, hb1⟩; subst he; have HB1 := Aside0.mk (below_step HB.out hb1); clear HB; have HB := HB1; clear HB1 hb1)
    go_upto_region 4 with (go_at_call 11; (with_reducible refine (read_any s HS.out _).mono ?_); rintro e w2 ⟨vA, vS, he, hb2, hA, hS⟩; subst he; obtain ⟨A1, c1, rfl⟩ := Kd.R_slice hA; obtain ⟨A2, c2, rfl⟩ := Kd.R_slice hS; have HB2 := Aside0.mk (below_alloc (below_step HB.out hb2) (.cells #[.int .i64 (tread s).1.W, .int .i64 (tread s).1.H, .slice A1 (tread s).1.ws.length c1, .slice A2 (tread s).1.sp.length c2] 26 (0, 0))); clear hA hS hb2 HB)
    by_cases he : (tread s).2.2 = 0
    · have hpos : 0 < s.size := tread_pos s he
      obtain ⟨k, hk⟩ : ∃ k : Nat, cut.tmod (s.size : Int) = (k : Int) := ⟨(cut.tmod (s.size : Int)).toNat, by rw [Int.toNat_of_nonneg (Int.tmod_nonneg _ hc0.1)]⟩
      have hk1 : k < s.size := by
        have := Int.tmod_lt_of_pos cut (show (0 : Int) < s.size by omega)
        omega
      have hsz0 : ¬ (s.size : Int) = 0 := by omega
      have HT : Aside0 ((s.extract 0 k).size ≤ 1000000) := ⟨by rw [upto_size s k (by omega)]; omega⟩
      have HC := Aside0.mk (tread_cut s k (by omega) he)
      have hk2 : (0 : Int) ≤ (k : Int) := by omega
      have hk3 : (k : Int) ≤ (s.size : Int) := by omega
      go_upto_region 7 with fail
      clear hk
      go_upto_region 8 with (go_at_call 11; (with_reducible refine (read_any (s.extract 0 k) HT.out _).mono ?_); rintro e w4 ⟨vA, vS, he, hb2, hA, hS⟩; subst he; obtain ⟨A3, c3, rfl⟩ := Kd.R_slice hA; obtain ⟨A4, c4, rfl⟩ := Kd.R_slice hS; have HB4 := Aside0.mk (below_alloc (below_step HB2.out hb2) (.cells #[.int .i64 (tread (s.extract 0 k)).1.W, .int .i64 (tread (s.extract 0 k)).1.H, .slice A3 (tread (s.extract 0 k)).1.ws.length c3, .slice A4 (tread (s.extract 0 k)).1.sp.length c4] 26 (0, 0))); clear hA hS hb2 HB2)
      rcases HC.out with ⟨z, hk0, h10⟩ | ⟨z, h⟩
      · rw [z]
        clear HC
        have hk0' : (0 : Int) < (k : Int) := by omega
        have hw : IntKind.i64.wrap ((k : Int) - 1) = ((k - 1 : Nat) : Int) := by rw [i64_w]; unfold wrap64; omega
        have hb1 : (0 : Int) ≤ ((k - 1 : Nat) : Int) := by omega
        have hb2 : ((k - 1 : Nat) : Int) < (s.size : Int) := by omega
        have hlt : k - 1 < s.size := by omega
        have hq : (((s[k - 1]'hlt).toNat : Int) == 10) = true := by
          have e : s[k - 1]'hlt = s.get! (k - 1) := get_at s (k - 1) hlt
          rw [e, h10]; rfl
        go_wp2_with fail
        go_ret
        exact ⟨rfl, HB4.out⟩
      · rw [z]
        clear HC
        rcases h with h | ⟨h, h4⟩
        · rw [h]
          go_wp2_with fail
          go_ret
          exact ⟨rfl, HB4.out⟩
        · generalize (tread (s.extract 0 k)).2.1 = n at *
          go_wp2_with fail
          go_ret
          exact ⟨rfl, HB4.out⟩
    · go_wp2_with fail
      go_ret
      exact ⟨rfl, HB2.out⟩
end Go.Proofs.Ytgppnfnbihngnaa.Tiles
