import Derived.Test.YtgppnfnbihngnaaTAwake
import Derived.Test.YtgppnfnbihngnaaTRef
import Derived.Test.YtgppnfnbihngnaaPTilesFreex3
set_option linter.unusedVariables false
set_option linter.unusedSimpArgs false
namespace Go.Proofs.Ytgppnfnbihngnaa.Tiles
open Go.RowKit Go.Proofs.YtgppnfnbihngnaaW.PrintWords Go.Proofs.YtgppnfnbihngnaaW.PrintLast Go.Proofs.YtgppnfnbihngnaaW.PrintMore Go.Proofs.Ytgppnfnbihngnaa.PTilesFree

theorem same_l1 (a b : Int) (l : List Bool) (p : List S39) (hp : p.length ≤ 1000000) : ∀ (n i F : Nat), p.length ≤ i + n → n + 1 ≤ F → ricochetref11_Same.l1 F (i : Int) a b l p a b l p = some true := by
  intro n
  induction n with
  | zero =>
    intro i F h1 h2
    obtain ⟨F, rfl⟩ : ∃ G, F = G + 1 := ⟨F - 1, by omega⟩
    unfold ricochetref11_Same.l1
    rw [if_neg (by omega)]
  | succ n ih =>
    intro i F h1 h2
    obtain ⟨F, rfl⟩ : ∃ G, F = G + 1 := ⟨F - 1, by omega⟩
    unfold ricochetref11_Same.l1
    by_cases h : (i : Int) < (p.length : Int)
    · rw [if_pos h, if_pos (by omega), if_pos h, if_neg (by simp), show wrap64 ((i : Int) + 1) = ((i + 1 : Nat) : Int) by unfold wrap64; omega]
      exact ih (i + 1) F (by omega) (by omega)
    · rw [if_neg h]
theorem same_l0 (a b : Int) (l : List Bool) (p : List S39) (hl : l.length ≤ 1000000) (hp : p.length ≤ 1000000) : ∀ (n i F : Nat), l.length ≤ i + n → n + p.length + 2 ≤ F → ricochetref11_Same.l0 F (i : Int) a b l p a b l p = some true := by
  intro n
  induction n with
  | zero =>
    intro i F h1 h2
    obtain ⟨F, rfl⟩ : ∃ G, F = G + 1 := ⟨F - 1, by omega⟩
    unfold ricochetref11_Same.l0
    rw [if_neg (by omega)]
    exact same_l1 a b l p hp p.length 0 F (by omega) (by omega)
  | succ n ih =>
    intro i F h1 h2
    obtain ⟨F, rfl⟩ : ∃ G, F = G + 1 := ⟨F - 1, by omega⟩
    unfold ricochetref11_Same.l0
    by_cases h : (i : Int) < (l.length : Int)
    · rw [if_pos h, if_pos (by omega), if_pos h, if_neg (by simp), show wrap64 ((i : Int) + 1) = ((i + 1 : Nat) : Int) by unfold wrap64; omega]
      exact ih (i + 1) F (by omega) (by omega)
    · rw [if_neg h]
      exact same_l1 a b l p hp p.length 0 F (by omega) (by omega)
theorem same_refl (a b : Int) (l : List Bool) (p : List S39) (hl : l.length ≤ 1000000) (hp : p.length ≤ 1000000) : ricochetref11_Same.f (l.length + p.length + 3) a b l p a b l p = some true := by
  unfold ricochetref11_Same.f
  rw [if_pos rfl, if_pos rfl, if_pos rfl, show l.length + p.length + 3 = (l.length + p.length + 2) + 1 by omega]
  simp only [ricochetref11_Same.j0]
  rw [if_neg (by simp)]
  exact same_l0 a b l p hl hp l.length 0 _ (by omega) (by omega)
set_option maxHeartbeats 4000000 in
set_option maxRecDepth 100000 in
theorem reads_walk (s : ByteArray) (w : World) : Calls Try.prog 3 #[.string s] w fun e w' => e = .returned (.bool true) ∧ Below w.heap.size w w' := by
  have HB := Aside0.mk (Below.refl w.heap.size w)
  have hu26 := Try.underlying26
  have hu30 := Try.underlying30
  have hu39 := Try.underlying39
  go_enter Try.func3, Try.ntmps3
  by_cases hs : (5000 : Int) < (s.size : Int)
  · go_wp2_with (go_at_call 10; (with_reducible refine (awake_any _).mono ?_); rintro e w1 ⟨he, hb1⟩; subst he; have HB1 := Aside0.mk (below_step HB.out hb1); clear HB; have HB := HB1; clear HB1 hb1)
    go_ret
    exact ⟨rfl, HB.out⟩
  · have HS : Aside0 (s.size ≤ 1000000) := ⟨by omega⟩
    go_upto_region 3 with (go_at_call 10; (with_reducible refine (awake_any _).mono ?_); rintro e w1 ⟨he, hb1⟩; subst he; have HB1 := Aside0.mk (below_step HB.out hb1); clear HB; have HB := HB1; clear HB1 hb1)
    have HL := Aside0.mk (tread_len s)
    go_upto_region 5 with (first | (go_at_call 11; (with_reducible refine (read_any s HS.out _).mono ?_); rintro e w2 ⟨vA, vS, he, hb2, hA, hS⟩; subst he; obtain ⟨A1, c1, rfl, hl1, hC1⟩ := Kd.R_reads hA; obtain ⟨A2, c2, rfl, hl2, hC2⟩ := Kd.R_reads hS; have HC := Aside0.mk (And.intro hC1 (And.intro hC2 (And.intro hl1 hl2))); clear hC1 hC2 hl1 hl2; have HB2 := Aside0.mk (below_step HB.out hb2); clear hA hS hb2) | (go_at_call 12; (with_reducible refine (refread_any s HS.out _).mono ?_); rintro e w3 ⟨vA', vS', he, hb3, hA', hS'⟩; subst he; obtain ⟨A3, c3, rfl, hl3, hC3⟩ := Kd.R_reads hA'; obtain ⟨A4, c4, rfl, hl4, hC4⟩ := Kd.R_reads hS'; have HC' := Aside0.mk (And.intro hC3 (And.intro hC4 (And.intro hl3 hl4))); clear hC3 hC4 hl3 hl4; have HB3 := Aside0.mk hb3; clear hA' hS' hb3))
    have N2 := Aside0.mk (blk_new w2 (.cells #[.int .i64 (tread s).1.W, .int .i64 (tread s).1.H, .slice A1 (tread s).1.ws.length c1, .slice A2 (tread s).1.sp.length c2] 26 (0, 0)))
    have N3 := Aside0.mk (blk_alloc (blk_below N2.out HB3.out) (.cells #[.int .i64 (tread s).1.W, .int .i64 (tread s).1.H, .slice A3 (tread s).1.ws.length c3, .slice A4 (tread s).1.sp.length c4] 30 (0, 0)))
    have HBe := Aside0.mk (below_alloc (below_step (below_alloc HB2.out _) HB3.out) (.cells #[.int .i64 (tread s).1.W, .int .i64 (tread s).1.H, .slice A3 (tread s).1.ws.length c3, .slice A4 (tread s).1.sp.length c4] 30 (0, 0)))
    have N4 := Aside0.mk (blk_new w3 (.cells #[.int .i64 (tread s).1.W, .int .i64 (tread s).1.H, .slice A3 (tread s).1.ws.length c3, .slice A4 (tread s).1.sp.length c4] 30 (0, 0)))
    have HC5 := Aside0.mk (And.intro (Kd.C_below (Kd.C_below HC.out.1 (below_alloc (Below.refl _ _) _)) HB3.out) (And.intro (Kd.C_below (Kd.C_below HC.out.2.1 (below_alloc (Below.refl _ _) _)) HB3.out) HC.out.2.2))
    have HC6 := Aside0.mk (And.intro (Kd.C_below HC5.out.1 (below_alloc (Below.refl _ _) (.cells #[.int .i64 (tread s).1.W, .int .i64 (tread s).1.H, .slice A3 (tread s).1.ws.length c3, .slice A4 (tread s).1.sp.length c4] 30 (0, 0)))) (Kd.C_below HC5.out.2.1 (below_alloc (Below.refl _ _) (.cells #[.int .i64 (tread s).1.W, .int .i64 (tread s).1.H, .slice A3 (tread s).1.ws.length c3, .slice A4 (tread s).1.sp.length c4] 30 (0, 0)))))
    have HC7 := Aside0.mk (And.intro (Kd.C_below HC'.out.1 (below_alloc (Below.refl _ _) (.cells #[.int .i64 (tread s).1.W, .int .i64 (tread s).1.H, .slice A3 (tread s).1.ws.length c3, .slice A4 (tread s).1.sp.length c4] 30 (0, 0)))) (Kd.C_below HC'.out.2.1 (below_alloc (Below.refl _ _) (.cells #[.int .i64 (tread s).1.W, .int .i64 (tread s).1.H, .slice A3 (tread s).1.ws.length c3, .slice A4 (tread s).1.sp.length c4] 30 (0, 0)))))
    clear HB HB2 HB3
    generalize w3.alloc (.cells #[.int .i64 (tread s).1.W, .int .i64 (tread s).1.H, .slice A3 (tread s).1.ws.length c3, .slice A4 (tread s).1.sp.length c4] 30 (0, 0)) = W5 at *
    have q0 : W5.cell? ⟨w2.heap.size, 0, none⟩ = some (.int .i64 (tread s).1.W) := (blk_cell N3.out 0).trans rfl
    have q1 : W5.cell? ⟨w2.heap.size, 1, none⟩ = some (.int .i64 (tread s).1.H) := (blk_cell N3.out 1).trans rfl
    have q2 : W5.cell? ⟨w2.heap.size, 2, none⟩ = some (.slice A1 (tread s).1.ws.length c1) := (blk_cell N3.out 2).trans rfl
    have q3 : W5.cell? ⟨w2.heap.size, 3, none⟩ = some (.slice A2 (tread s).1.sp.length c2) := (blk_cell N3.out 3).trans rfl
    have r0 : W5.cell? ⟨w3.heap.size, 0, none⟩ = some (.int .i64 (tread s).1.W) := (blk_cell N4.out 0).trans rfl
    have r1 : W5.cell? ⟨w3.heap.size, 1, none⟩ = some (.int .i64 (tread s).1.H) := (blk_cell N4.out 1).trans rfl
    have r2 : W5.cell? ⟨w3.heap.size, 2, none⟩ = some (.slice A3 (tread s).1.ws.length c3) := (blk_cell N4.out 2).trans rfl
    have r3 : W5.cell? ⟨w3.heap.size, 3, none⟩ = some (.slice A4 (tread s).1.sp.length c4) := (blk_cell N4.out 3).trans rfl
    have HSm := Aside0.mk (same_refl (tread s).1.W (tread s).1.H (tread s).1.ws (tread s).1.sp (Nat.le_trans HL.out.1 HS.out) (Nat.le_trans HL.out.2 HS.out))
    go_wp2_with (go_at_call 13; (with_reducible refine (ricochetref11_Same.calls _ _ _ _ _ _ _ _ _ _ _ _ _ _ _ _ _ true _ HC6.out.1 HC5.out.2.2.1 HC6.out.2 HC5.out.2.2.2 HC7.out.1 HC'.out.2.2.1 HC7.out.2 HC'.out.2.2.2 HSm.out).mono ?_); rintro e w6 ⟨he, hb6⟩; subst he)
    go_ret
    exact ⟨rfl, below_step HBe.out hb6⟩
end Go.Proofs.Ytgppnfnbihngnaa.Tiles
