import Derived.Test.YtcbmkhogmdkpdaaRFind
set_option linter.unusedVariables false
set_option linter.unusedSimpArgs false
namespace Go.Proofs.Ytcbmkhogmdkpdaa.Ring
open Go.RowKit Go.ChangeMaps Go.Proofs.YtcbmkhogmdkpdaaW.PrintWords Go.Proofs.YtcbmkhogmdkpdaaW.PrintLast Go.Proofs.YtcbmkhogmdkpdaaW.PrintMore Go.Proofs.Ytcbmkhogmdkpdaa.PRewindNone Go.Proofs.Ytcbmkhogmdkpdaa.MapI
theorem put2 {w : World} {S t : Nat} {z0 z1 : Value} (h : w.heap[S]? = some (.cells #[z0, z1] t (0, 0))) (a0 a1 : Value) : ((w.setCell ⟨S, 0, none⟩ a0).setCell ⟨S, 1, none⟩ a1).heap[S]? = some (.cells #[a0, a1] t (0, 0)) := by
  have h0 : (w.setCell ⟨S, 0, none⟩ a0).heap[S]? = some (.cells #[a0, z1] t (0, 0)) := (blk_set h 0 a0).trans rfl
  have h1 : ((w.setCell ⟨S, 0, none⟩ a0).setCell ⟨S, 1, none⟩ a1).heap[S]? = some (.cells #[a0, a1] t (0, 0)) := (blk_set h0 1 a1).trans rfl
  exact h1
theorem low2 {w w0 : World} {S b : Nat} (h : Below b w0 w) (hb : b ≤ S) (a0 a1 : Value) : Below b w0 ((w.setCell ⟨S, 0, none⟩ a0).setCell ⟨S, 1, none⟩ a1) := ((h.setCell (p := ⟨S, 0, none⟩) hb _).setCell (p := ⟨S, 1, none⟩) hb _)
theorem put4 {w : World} {S t : Nat} {z0 z1 z2 z3 : Value} (h : w.heap[S]? = some (.cells #[z0, z1, z2, z3] t (0, 0))) (a0 a1 a2 a3 : Value) : ((((w.setCell ⟨S, 0, none⟩ a0).setCell ⟨S, 1, none⟩ a1).setCell ⟨S, 2, none⟩ a2).setCell ⟨S, 3, none⟩ a3).heap[S]? = some (.cells #[a0, a1, a2, a3] t (0, 0)) := by
  have h0 : (w.setCell ⟨S, 0, none⟩ a0).heap[S]? = some (.cells #[a0, z1, z2, z3] t (0, 0)) := (blk_set h 0 a0).trans rfl
  have h1 : ((w.setCell ⟨S, 0, none⟩ a0).setCell ⟨S, 1, none⟩ a1).heap[S]? = some (.cells #[a0, a1, z2, z3] t (0, 0)) := (blk_set h0 1 a1).trans rfl
  have h2 : (((w.setCell ⟨S, 0, none⟩ a0).setCell ⟨S, 1, none⟩ a1).setCell ⟨S, 2, none⟩ a2).heap[S]? = some (.cells #[a0, a1, a2, z3] t (0, 0)) := (blk_set h1 2 a2).trans rfl
  have h3 : ((((w.setCell ⟨S, 0, none⟩ a0).setCell ⟨S, 1, none⟩ a1).setCell ⟨S, 2, none⟩ a2).setCell ⟨S, 3, none⟩ a3).heap[S]? = some (.cells #[a0, a1, a2, a3] t (0, 0)) := (blk_set h2 3 a3).trans rfl
  exact h3
theorem low4 {w w0 : World} {S b : Nat} (h : Below b w0 w) (hb : b ≤ S) (a0 a1 a2 a3 : Value) : Below b w0 ((((w.setCell ⟨S, 0, none⟩ a0).setCell ⟨S, 1, none⟩ a1).setCell ⟨S, 2, none⟩ a2).setCell ⟨S, 3, none⟩ a3) := ((((h.setCell (p := ⟨S, 0, none⟩) hb _).setCell (p := ⟨S, 1, none⟩) hb _).setCell (p := ⟨S, 2, none⟩) hb _).setCell (p := ⟨S, 3, none⟩) hb _)
theorem kep4 {w w0 : World} {S : Nat} {K : Nat → Prop} (h : Kept w0 w K) (hs : K S ∨ w0.heap.size ≤ S) (a0 a1 a2 a3 : Value) : Kept w0 ((((w.setCell ⟨S, 0, none⟩ a0).setCell ⟨S, 1, none⟩ a1).setCell ⟨S, 2, none⟩ a2).setCell ⟨S, 3, none⟩ a3) K := ((((h.setCell (p := ⟨S, 0, none⟩) hs _).setCell (p := ⟨S, 1, none⟩) hs _).setCell (p := ⟨S, 2, none⟩) hs _).setCell (p := ⟨S, 3, none⟩) hs _)
theorem put8 {w : World} {S t : Nat} {z0 z1 z2 z3 z4 z5 z6 z7 : Value} (h : w.heap[S]? = some (.cells #[z0, z1, z2, z3, z4, z5, z6, z7] t (0, 0))) (a0 a1 a2 a3 a4 a5 a6 a7 : Value) : ((((((((w.setCell ⟨S, 0, none⟩ a0).setCell ⟨S, 1, none⟩ a1).setCell ⟨S, 2, none⟩ a2).setCell ⟨S, 3, none⟩ a3).setCell ⟨S, 4, none⟩ a4).setCell ⟨S, 5, none⟩ a5).setCell ⟨S, 6, none⟩ a6).setCell ⟨S, 7, none⟩ a7).heap[S]? = some (.cells #[a0, a1, a2, a3, a4, a5, a6, a7] t (0, 0)) := by
  have h0 : (w.setCell ⟨S, 0, none⟩ a0).heap[S]? = some (.cells #[a0, z1, z2, z3, z4, z5, z6, z7] t (0, 0)) := (blk_set h 0 a0).trans rfl
  have h1 : ((w.setCell ⟨S, 0, none⟩ a0).setCell ⟨S, 1, none⟩ a1).heap[S]? = some (.cells #[a0, a1, z2, z3, z4, z5, z6, z7] t (0, 0)) := (blk_set h0 1 a1).trans rfl
  have h2 : (((w.setCell ⟨S, 0, none⟩ a0).setCell ⟨S, 1, none⟩ a1).setCell ⟨S, 2, none⟩ a2).heap[S]? = some (.cells #[a0, a1, a2, z3, z4, z5, z6, z7] t (0, 0)) := (blk_set h1 2 a2).trans rfl
  have h3 : ((((w.setCell ⟨S, 0, none⟩ a0).setCell ⟨S, 1, none⟩ a1).setCell ⟨S, 2, none⟩ a2).setCell ⟨S, 3, none⟩ a3).heap[S]? = some (.cells #[a0, a1, a2, a3, z4, z5, z6, z7] t (0, 0)) := (blk_set h2 3 a3).trans rfl
  have h4 : (((((w.setCell ⟨S, 0, none⟩ a0).setCell ⟨S, 1, none⟩ a1).setCell ⟨S, 2, none⟩ a2).setCell ⟨S, 3, none⟩ a3).setCell ⟨S, 4, none⟩ a4).heap[S]? = some (.cells #[a0, a1, a2, a3, a4, z5, z6, z7] t (0, 0)) := (blk_set h3 4 a4).trans rfl
  have h5 : ((((((w.setCell ⟨S, 0, none⟩ a0).setCell ⟨S, 1, none⟩ a1).setCell ⟨S, 2, none⟩ a2).setCell ⟨S, 3, none⟩ a3).setCell ⟨S, 4, none⟩ a4).setCell ⟨S, 5, none⟩ a5).heap[S]? = some (.cells #[a0, a1, a2, a3, a4, a5, z6, z7] t (0, 0)) := (blk_set h4 5 a5).trans rfl
  have h6 : (((((((w.setCell ⟨S, 0, none⟩ a0).setCell ⟨S, 1, none⟩ a1).setCell ⟨S, 2, none⟩ a2).setCell ⟨S, 3, none⟩ a3).setCell ⟨S, 4, none⟩ a4).setCell ⟨S, 5, none⟩ a5).setCell ⟨S, 6, none⟩ a6).heap[S]? = some (.cells #[a0, a1, a2, a3, a4, a5, a6, z7] t (0, 0)) := (blk_set h5 6 a6).trans rfl
  have h7 : ((((((((w.setCell ⟨S, 0, none⟩ a0).setCell ⟨S, 1, none⟩ a1).setCell ⟨S, 2, none⟩ a2).setCell ⟨S, 3, none⟩ a3).setCell ⟨S, 4, none⟩ a4).setCell ⟨S, 5, none⟩ a5).setCell ⟨S, 6, none⟩ a6).setCell ⟨S, 7, none⟩ a7).heap[S]? = some (.cells #[a0, a1, a2, a3, a4, a5, a6, a7] t (0, 0)) := (blk_set h6 7 a7).trans rfl
  exact h7
theorem low8 {w w0 : World} {S b : Nat} (h : Below b w0 w) (hb : b ≤ S) (a0 a1 a2 a3 a4 a5 a6 a7 : Value) : Below b w0 ((((((((w.setCell ⟨S, 0, none⟩ a0).setCell ⟨S, 1, none⟩ a1).setCell ⟨S, 2, none⟩ a2).setCell ⟨S, 3, none⟩ a3).setCell ⟨S, 4, none⟩ a4).setCell ⟨S, 5, none⟩ a5).setCell ⟨S, 6, none⟩ a6).setCell ⟨S, 7, none⟩ a7) := ((((((((h.setCell (p := ⟨S, 0, none⟩) hb _).setCell (p := ⟨S, 1, none⟩) hb _).setCell (p := ⟨S, 2, none⟩) hb _).setCell (p := ⟨S, 3, none⟩) hb _).setCell (p := ⟨S, 4, none⟩) hb _).setCell (p := ⟨S, 5, none⟩) hb _).setCell (p := ⟨S, 6, none⟩) hb _).setCell (p := ⟨S, 7, none⟩) hb _)
/-- The first entity with this ID, where it lives. -/
def liv (id : Int) (l : List S67) : Option S67 := if findFrom id l 0 = -1 then none else if (rd_T67 l (findFrom id l 0)).f4 ≤ 0 then none else some (rd_T67 l (findFrom id l 0))
set_option maxHeartbeats 1000000 in
theorem living_any (A : Option Addr) (n c : Nat) (xs : List S67) (id : Int) (w : World) (hC : Kd.C k67 w A n xs) (hl : xs.length ≤ 1000) :
    Calls Try.prog 44 #[.slice A n c, .int .i64 id] w fun e w' => e = .returned (.tuple #[.agg #[.int .i64 ((liv id xs).getD z67).f0, .int .i64 ((liv id xs).getD z67).f1, .int .i64 ((liv id xs).getD z67).f2.f0, .int .i64 ((liv id xs).getD z67).f2.f1, .int .i64 ((liv id xs).getD z67).f3.f0, .int .i64 ((liv id xs).getD z67).f3.f1, .int .i64 ((liv id xs).getD z67).f4, .int .i64 ((liv id xs).getD z67).f5], .bool (liv id xs).isSome]) ∧ Below w.heap.size w w' := by
  have HC := Aside0.mk (Kd.C_alloc hC (.cells #[.int .i64 0, .int .i64 0, .int .i64 0, .int .i64 0, .int .i64 0, .int .i64 0, .int .i64 0, .int .i64 0] 67 (0, 0)))
  have HB := Aside0.mk (below_alloc (Below.refl w.heap.size w) (.cells #[.int .i64 0, .int .i64 0, .int .i64 0, .int .i64 0, .int .i64 0, .int .i64 0, .int .i64 0, .int .i64 0] 67 (0, 0)))
  have HN := Aside0.mk (blk_new w (.cells #[.int .i64 0, .int .i64 0, .int .i64 0, .int .i64 0, .int .i64 0, .int .i64 0, .int .i64 0, .int .i64 0] 67 (0, 0)))
  obtain rfl : xs.length = n := Kd.C_len hC
  clear hC
  go_enter Try.func44, Try.ntmps44
  go_upto_region 2 with (go_at_call 60; (with_reducible refine (find_any A xs.length c xs id _ HC.out hl).mono ?_); rintro e w1 ⟨he, hb1⟩; subst he; have HB1 := Aside0.mk hb1; clear hb1)
  have hN := blk_below HN.out HB1.out
  have HC1 := Kd.C_below HC.out HB1.out
  have HBL := Aside0.mk (HB.out.trans (HB1.out.mono HB.out.size))
  generalize hS : w.heap.size = S at *
  have HSS := Aside0.mk hS
  have HNN := Aside0.mk hN
  clear HB HN HB1 HC hS
  rcases find_ways id xs 0 with hf | ⟨j, hj, hf, hid⟩
  · have hlv : liv id xs = none := by unfold liv; rw [if_pos hf]
    rw [hf]
    have n0 : w1.cell? ⟨S, 0, none⟩ = some (.int .i64 0) := (blk_cell hN 0).trans rfl
    have n1 : w1.cell? ⟨S, 1, none⟩ = some (.int .i64 0) := (blk_cell hN 1).trans rfl
    have n2 : w1.cell? ⟨S, 2, none⟩ = some (.int .i64 0) := (blk_cell hN 2).trans rfl
    have n3 : w1.cell? ⟨S, 3, none⟩ = some (.int .i64 0) := (blk_cell hN 3).trans rfl
    have n4 : w1.cell? ⟨S, 4, none⟩ = some (.int .i64 0) := (blk_cell hN 4).trans rfl
    have n5 : w1.cell? ⟨S, 5, none⟩ = some (.int .i64 0) := (blk_cell hN 5).trans rfl
    have n6 : w1.cell? ⟨S, 6, none⟩ = some (.int .i64 0) := (blk_cell hN 6).trans rfl
    have n7 : w1.cell? ⟨S, 7, none⟩ = some (.int .i64 0) := (blk_cell hN 7).trans rfl
    have g0 : w1.frozen? ⟨S, 0, none⟩ = false := blk_frozen hN 0
    have g1 : w1.frozen? ⟨S, 1, none⟩ = false := blk_frozen hN 1
    have g2 : w1.frozen? ⟨S, 2, none⟩ = false := blk_frozen hN 2
    have g3 : w1.frozen? ⟨S, 3, none⟩ = false := blk_frozen hN 3
    have g4 : w1.frozen? ⟨S, 4, none⟩ = false := blk_frozen hN 4
    have g5 : w1.frozen? ⟨S, 5, none⟩ = false := blk_frozen hN 5
    have g6 : w1.frozen? ⟨S, 6, none⟩ = false := blk_frozen hN 6
    have g7 : w1.frozen? ⟨S, 7, none⟩ = false := blk_frozen hN 7
    clear hN HC1
    have HLV := Aside0.mk hlv
    clear hlv hf
    go_wp2_with fail
    refine bodyPost_ret (results_ct rfl _ _ S 67 #[.int .i64 0, .int .i64 0, .int .i64 0, .int .i64 0, .int .i64 0, .int .i64 0, .int .i64 0, .int .i64 0] (0, 0) _ rfl (put8 HNN.out _ _ _ _ _ _ _ _) Try.underlying67 rfl (by kernel_rfl)) rfl ?_
    refine ⟨by rw [HLV.out]; rfl, ?_⟩
    rw [HSS.out]
    exact low8 HBL.out (Nat.le_refl _) _ _ _ _ _ _ _ _
  · rw [Nat.zero_add] at hf
    have hf1 : ¬ findFrom id xs 0 = -1 := by omega
    obtain ⟨ad, e, x0, x1, x2, x3, x4, x5, x6, x7⟩ := at_T67 HC1 (j : Int) (by omega) (by omega)
    cases e
    simp only [Int.toNat_natCast] at x0 x1 x2 x3 x4 x5 x6 x7
    have hj0 : (0 : Int) ≤ j := by omega
    have hj1 : ¬ ((j : Int) = -1) := by omega
    have hj2 : (j : Int) < (xs.length : Int) := by omega
    have n0 : w1.cell? ⟨S, 0, none⟩ = some (.int .i64 0) := (blk_cell hN 0).trans rfl
    have n1 : w1.cell? ⟨S, 1, none⟩ = some (.int .i64 0) := (blk_cell hN 1).trans rfl
    have n2 : w1.cell? ⟨S, 2, none⟩ = some (.int .i64 0) := (blk_cell hN 2).trans rfl
    have n3 : w1.cell? ⟨S, 3, none⟩ = some (.int .i64 0) := (blk_cell hN 3).trans rfl
    have n4 : w1.cell? ⟨S, 4, none⟩ = some (.int .i64 0) := (blk_cell hN 4).trans rfl
    have n5 : w1.cell? ⟨S, 5, none⟩ = some (.int .i64 0) := (blk_cell hN 5).trans rfl
    have n6 : w1.cell? ⟨S, 6, none⟩ = some (.int .i64 0) := (blk_cell hN 6).trans rfl
    have n7 : w1.cell? ⟨S, 7, none⟩ = some (.int .i64 0) := (blk_cell hN 7).trans rfl
    have g0 : w1.frozen? ⟨S, 0, none⟩ = false := blk_frozen hN 0
    have g1 : w1.frozen? ⟨S, 1, none⟩ = false := blk_frozen hN 1
    have g2 : w1.frozen? ⟨S, 2, none⟩ = false := blk_frozen hN 2
    have g3 : w1.frozen? ⟨S, 3, none⟩ = false := blk_frozen hN 3
    have g4 : w1.frozen? ⟨S, 4, none⟩ = false := blk_frozen hN 4
    have g5 : w1.frozen? ⟨S, 5, none⟩ = false := blk_frozen hN 5
    have g6 : w1.frozen? ⟨S, 6, none⟩ = false := blk_frozen hN 6
    have g7 : w1.frozen? ⟨S, 7, none⟩ = false := blk_frozen hN 7
    obtain ⟨y, hy⟩ : ∃ y, y = rd_T67 xs (j : Int) := ⟨_, rfl⟩
    rw [← hy] at x0 x1 x2 x3 x4 x5 x6 x7
    rw [hf]
    by_cases h4 : y.f4 ≤ 0
    · have HLV : Aside0 (liv id xs = none) := ⟨by unfold liv; rw [if_neg hf1, hf, ← hy, if_pos h4]⟩
      clear hf hy hf1 hid hN HC1
      go_wp2_with fail
      refine bodyPost_ret (results_ct rfl _ _ S 67 #[.int .i64 0, .int .i64 0, .int .i64 0, .int .i64 0, .int .i64 0, .int .i64 0, .int .i64 0, .int .i64 0] (0, 0) _ rfl (put8 HNN.out _ _ _ _ _ _ _ _) Try.underlying67 rfl (by kernel_rfl)) rfl ?_
      refine ⟨by rw [HLV.out]; rfl, ?_⟩
      rw [HSS.out]
      exact low8 HBL.out (Nat.le_refl _) _ _ _ _ _ _ _ _
    · have HLV : Aside0 (liv id xs = some y) := ⟨by unfold liv; rw [if_neg hf1, hf, ← hy, if_neg h4]⟩
      clear hf hy hf1 hid hN HC1
      go_wp2_with fail
      refine bodyPost_ret (results_ct rfl _ _ S 67 #[.int .i64 y.f0, .int .i64 y.f1, .int .i64 y.f2.f0, .int .i64 y.f2.f1, .int .i64 y.f3.f0, .int .i64 y.f3.f1, .int .i64 y.f4, .int .i64 y.f5] (0, 0) _ rfl (put8 HNN.out _ _ _ _ _ _ _ _) Try.underlying67 rfl (by kernel_rfl)) rfl ?_
      refine ⟨by rw [HLV.out]; rfl, ?_⟩
      rw [HSS.out]
      exact low8 HBL.out (Nat.le_refl _) _ _ _ _ _ _ _ _
end Go.Proofs.Ytcbmkhogmdkpdaa.Ring
