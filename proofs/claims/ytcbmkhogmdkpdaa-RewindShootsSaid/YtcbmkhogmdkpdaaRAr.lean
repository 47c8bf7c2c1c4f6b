import Derived.Test.YtcbmkhogmdkpdaaRShoot
set_option linter.unusedVariables false
set_option linter.unusedSimpArgs false
namespace Go.Proofs.Ytcbmkhogmdkpdaa.Ring
open Go.RowKit Go.ChangeMaps Go.Proofs.YtcbmkhogmdkpdaaW.PrintWords Go.Proofs.YtcbmkhogmdkpdaaW.PrintLast Go.Proofs.YtcbmkhogmdkpdaaW.PrintMore Go.Proofs.Ytcbmkhogmdkpdaa.PRewindNone Go.Proofs.Ytcbmkhogmdkpdaa.MapI Go.Proofs.Ytcbmkhogmdkpdaa.Plain Go.Proofs.Ytcbmkhogmdkpdaa.Pure
theorem rsub_any (x y : Int) (w : World) : Calls Try.prog 53 #[.int .i64 x, .int .i64 y] w fun e w' => e = .returned (.int .i64 (hold (hold x - hold y))) ∧ Below w.heap.size w w' := by
  have h1 := hold_bd x
  have h2 := hold_bd y
  have HR := Aside0.mk (Below.refl w.heap.size w)
  obtain ⟨p, hp⟩ : ∃ p, p = hold x := ⟨_, rfl⟩
  obtain ⟨q, hq⟩ : ∃ q, q = hold y := ⟨_, rfl⟩
  rw [← hp] at h1
  rw [← hq] at h2
  rw [← hp, ← hq]
  have HP := Aside0.mk hp
  have HQ := Aside0.mk hq
  clear hp hq
  go_enter Try.func53, Try.ntmps53
  go_wp2_with (first | (go_at_call 55; (with_reducible refine (rwhole_any x _).mono ?_); rintro e w1 ⟨he, hb⟩; (rw [← HP.out] at he); subst he; have HR1 := Aside0.mk (HR.out.trans (hb.mono HR.out.size)); clear hb) | (go_at_call 55; (with_reducible refine (rwhole_any y _).mono ?_); rintro e w2 ⟨he, hb⟩; (rw [← HQ.out] at he); subst he; have HR2 := Aside0.mk (HR1.out.trans (hb.mono HR1.out.size)); clear hb) | (go_at_call 54; (with_reducible refine (rhold_any (p - q) _).mono ?_); rintro e w3 ⟨he, hb⟩; subst he; have HR3 := Aside0.mk (HR2.out.trans (hb.mono HR2.out.size)); clear hb))
  go_ret
  exact ⟨rfl, HR3.out⟩
theorem rdown_any (x : Int) (w : World) (h1 : -4611686018427387904 ≤ x) (h2 : x ≤ 4611686018427387904) : Calls Try.prog 67 #[.int .i64 x, .int .i64 256] w fun e w' => e = .returned (.int .i64 (x / 256)) ∧ Below w.heap.size w w' := by
  have e := tdiv_down (a := x) (b := 256) (by decide)
  obtain ⟨q, hq⟩ : ∃ q, q = x.tdiv 256 := ⟨_, rfl⟩
  have HQ := Aside0.mk hq
  rw [← hq] at e
  clear hq
  have hb1 : -36028797018963968 ≤ q ∧ q ≤ 36028797018963968 := by
    split at e <;> omega
  have hw : wrap64 (q * 256) = q * 256 := wrap64_id (by omega) (by omega)
  by_cases h : x < q * 256
  · rw [if_pos h] at e
    have E := Aside0.mk e
    clear e
    go_enter Try.func67, Try.ntmps67
    go_upto_region 2 with fail
    rw [← HQ.out]
    go_wp2_with fail
    go_ret
    refine ⟨?_, Below.refl _ _⟩
    rw [← E.out]
    rfl
  · rw [if_neg h] at e
    have E := Aside0.mk e
    clear e
    go_enter Try.func67, Try.ntmps67
    go_upto_region 2 with fail
    rw [← HQ.out]
    go_wp2_with fail
    go_ret
    refine ⟨?_, Below.refl _ _⟩
    rw [← E.out]
    rfl
theorem rbtw_any (x y p : Int) (w : World) (hp : 0 ≤ p ∧ p ≤ 255) : Calls Try.prog 63 #[.int .i64 x, .int .i64 y, .int .u8 p] w fun e w' => e = .returned (.int .i64 (btw (hold x) (hold y) p)) ∧ Below w.heap.size w w' := by
  have h1 := hold_bd x
  have h2 := hold_bd y
  have HR := Aside0.mk (Below.refl w.heap.size w)
  obtain ⟨a, ha⟩ : ∃ a, a = hold x := ⟨_, rfl⟩
  obtain ⟨b, hb⟩ : ∃ b, b = hold y := ⟨_, rfl⟩
  rw [← ha] at h1
  rw [← hb] at h2
  rw [← ha, ← hb]
  have HA := Aside0.mk ha
  have HB := Aside0.mk hb
  clear ha hb
  have hm : -(4294967295 * 255) ≤ (b - a) * p ∧ (b - a) * p ≤ 4294967295 * 255 := mul_bd (by omega) (by omega) (by omega) (by omega) (by omega) (by omega)
  obtain ⟨m, hM⟩ : ∃ m, m = (b - a) * p := ⟨_, rfl⟩
  have HM := Aside0.mk hM
  rw [← hM] at hm
  have HBt : Aside0 (hold ((a * 256 + m) / 256) = btw a b p) := ⟨by unfold btw; rw [← hM, show (a * 256 + m) / 256 = a + m / 256 by omega]⟩
  have hmw : wrap64 ((b - a) * p) = m := by rw [hM]; exact wrap64_id (by omega) (by omega)
  have hmv : IntKind.i64.wrap ((b - a) * p) = m := (i64_w _).trans hmw
  clear hM
  go_enter Try.func63, Try.ntmps63
  go_wp2_with (first | (go_at_call 55; (with_reducible refine (rwhole_any x _).mono ?_); rintro e w1 ⟨he, hb⟩; (rw [← HA.out] at he); subst he; replace HR := Aside0.mk (HR.out.trans (hb.mono HR.out.size)); clear hb) | (go_at_call 55; (with_reducible refine (rwhole_any y _).mono ?_); rintro e w2 ⟨he, hb⟩; (rw [← HB.out] at he); subst he; replace HR := Aside0.mk (HR.out.trans (hb.mono HR.out.size)); clear hb) | (go_at_call 67; (with_reducible refine (rdown_any (a * 256 + m) _ (by omega) (by omega)).mono ?_); rintro e w3 ⟨he, hb⟩; subst he; replace HR := Aside0.mk (HR.out.trans (hb.mono HR.out.size)); clear hb) | (go_at_call 54; (with_reducible refine (rhold_any _ _).mono ?_); rintro e w3 ⟨he, hb⟩; (rw [HBt.out] at he); subst he; replace HR := Aside0.mk (HR.out.trans (hb.mono HR.out.size)); clear hb))
  go_ret
  exact ⟨rfl, HR.out⟩
set_option maxHeartbeats 4000000 in
set_option maxRecDepth 100000 in
theorem rvbtw_any (a b c d part : Int) (hp : 0 ≤ part ∧ part ≤ 255) (w : World) : Calls Try.prog 47 #[.agg #[.int .i64 a, .int .i64 b], .agg #[.int .i64 c, .int .i64 d], .int .u8 part] w fun e w' => e = .returned (.agg #[.int .i64 (btw (hold a) (hold c) part), .int .i64 (btw (hold b) (hold d) part)]) ∧ Below w.heap.size w w' := by
  have hA := blk_alloc (blk_alloc (blk_new w (.cells #[.int .i64 a, .int .i64 b] 28 (0, 0))) (.cells #[.int .i64 c, .int .i64 d] 28 (0, 0))) (.cells #[.int .i64 0, .int .i64 0] 28 (0, 0))
  have hB := blk_alloc (blk_new (w.alloc (.cells #[.int .i64 a, .int .i64 b] 28 (0, 0))) (.cells #[.int .i64 c, .int .i64 d] 28 (0, 0))) (.cells #[.int .i64 0, .int .i64 0] 28 (0, 0))
  have hZ := blk_new ((w.alloc (.cells #[.int .i64 a, .int .i64 b] 28 (0, 0))).alloc (.cells #[.int .i64 c, .int .i64 d] 28 (0, 0))) (.cells #[.int .i64 0, .int .i64 0] 28 (0, 0))
  rw [show (w.alloc (.cells #[.int .i64 a, .int .i64 b] 28 (0, 0))).heap.size = w.heap.size + 1 by simp] at hB
  rw [show ((w.alloc (.cells #[.int .i64 a, .int .i64 b] 28 (0, 0))).alloc (.cells #[.int .i64 c, .int .i64 d] 28 (0, 0))).heap.size = w.heap.size + 2 by simp] at hZ
  have HRa := Aside0.mk (below_alloc (below_alloc (below_alloc (Below.refl w.heap.size w) (.cells #[.int .i64 a, .int .i64 b] 28 (0, 0))) (.cells #[.int .i64 c, .int .i64 d] 28 (0, 0))) (.cells #[.int .i64 0, .int .i64 0] 28 (0, 0)))
  have HAa := Aside0.mk hA
  have HBa := Aside0.mk hB
  have HZa := Aside0.mk hZ
  clear hA hB hZ
  go_enter Try.func47, Try.ntmps47
  go_upto_region 1 with fail
  generalize ((w.alloc (.cells #[.int .i64 a, .int .i64 b] 28 (0, 0))).alloc (.cells #[.int .i64 c, .int .i64 d] 28 (0, 0))).alloc (.cells #[.int .i64 0, .int .i64 0] 28 (0, 0)) = W1 at *
  rw [show w.heap.size + 1 + 1 = w.heap.size + 2 from rfl]
  obtain ⟨S, hS⟩ : ∃ S, w.heap.size = S := ⟨_, rfl⟩
  have HSS := Aside0.mk hS
  rw [hS] at HAa HBa HZa
  rw [hS]
  clear hS
  have x0W1 : W1.cell? ⟨S, 0, none⟩ = some (.int .i64 a) := (blk_cell HAa.out 0).trans rfl
  have x1W1 : W1.cell? ⟨S, 1, none⟩ = some (.int .i64 b) := (blk_cell HAa.out 1).trans rfl
  have y0W1 : W1.cell? ⟨S + 1, 0, none⟩ = some (.int .i64 c) := (blk_cell HBa.out 0).trans rfl
  have y1W1 : W1.cell? ⟨S + 1, 1, none⟩ = some (.int .i64 d) := (blk_cell HBa.out 1).trans rfl
  have z0W1 : W1.cell? ⟨S + 2, 0, none⟩ = some (.int .i64 0) := (blk_cell HZa.out 0).trans rfl
  have z1W1 : W1.cell? ⟨S + 2, 1, none⟩ = some (.int .i64 0) := (blk_cell HZa.out 1).trans rfl
  have f0W1 : W1.frozen? ⟨S + 2, 0, none⟩ = false := blk_frozen HZa.out 0
  have f1W1 : W1.frozen? ⟨S + 2, 1, none⟩ = false := blk_frozen HZa.out 1
  go_region_held3 (fun w' => w'.cell? ⟨S, 0, none⟩ = some (.int .i64 a) ∧ w'.cell? ⟨S, 1, none⟩ = some (.int .i64 b) ∧ w'.cell? ⟨S + 1, 0, none⟩ = some (.int .i64 c) ∧ w'.cell? ⟨S + 1, 1, none⟩ = some (.int .i64 d)) (first | (refine ⟨?_, ?_, ?_, ?_⟩ <;> assumption) | (refine ⟨far2 x0w5 (by omega) _ _, far2 x1w5 (by omega) _ _, far2 y0w5 (by omega) _ _, far2 y1w5 (by omega) _ _⟩) | go_keep) (first | (go_at_call 63; (with_reducible refine (rbtw_any a c part _ hp).mono ?_); rintro e w4 ⟨he, hb⟩; subst he; have HRb := Aside0.mk (below_thru (w0 := w) hb (by (with_reducible repeat (first | exact HRa.out | apply below_drew)))); have HAb := Aside0.mk (blk_below (g := S) (o := .cells #[.int .i64 a, .int .i64 b] 28 (0, 0)) (by with_reducible first | exact HAa.out | exact blk_drew HAa.out) hb); have HBb := Aside0.mk (blk_below (g := S + 1) (o := .cells #[.int .i64 c, .int .i64 d] 28 (0, 0)) (by with_reducible first | exact HBa.out | exact blk_drew HBa.out) hb); have HZb := Aside0.mk (blk_below (g := S + 2) (o := .cells #[.int .i64 0, .int .i64 0] 28 (0, 0)) (by with_reducible first | exact HZa.out | exact blk_drew HZa.out) hb); have x0w4 : w4.cell? ⟨S, 0, none⟩ = some (.int .i64 a) := (blk_cell HAb.out 0).trans rfl; have x1w4 : w4.cell? ⟨S, 1, none⟩ = some (.int .i64 b) := (blk_cell HAb.out 1).trans rfl; have y0w4 : w4.cell? ⟨S + 1, 0, none⟩ = some (.int .i64 c) := (blk_cell HBb.out 0).trans rfl; have y1w4 : w4.cell? ⟨S + 1, 1, none⟩ = some (.int .i64 d) := (blk_cell HBb.out 1).trans rfl; have z0w4 : w4.cell? ⟨S + 2, 0, none⟩ = some (.int .i64 0) := (blk_cell HZb.out 0).trans rfl; have z1w4 : w4.cell? ⟨S + 2, 1, none⟩ = some (.int .i64 0) := (blk_cell HZb.out 1).trans rfl; have f0w4 : w4.frozen? ⟨S + 2, 0, none⟩ = false := blk_frozen HZb.out 0; have f1w4 : w4.frozen? ⟨S + 2, 1, none⟩ = false := blk_frozen HZb.out 1; clear hb) | (go_at_call 63; (with_reducible refine (rbtw_any b d part _ hp).mono ?_); rintro e w5 ⟨he, hb⟩; subst he; have HRc := Aside0.mk (below_thru (w0 := w) hb (by (with_reducible repeat (first | exact HRb.out | apply below_drew)))); have HAc := Aside0.mk (blk_below (g := S) (o := .cells #[.int .i64 a, .int .i64 b] 28 (0, 0)) (by with_reducible first | exact HAb.out | exact blk_drew HAb.out) hb); have HBc := Aside0.mk (blk_below (g := S + 1) (o := .cells #[.int .i64 c, .int .i64 d] 28 (0, 0)) (by with_reducible first | exact HBb.out | exact blk_drew HBb.out) hb); have HZc := Aside0.mk (blk_below (g := S + 2) (o := .cells #[.int .i64 0, .int .i64 0] 28 (0, 0)) (by with_reducible first | exact HZb.out | exact blk_drew HZb.out) hb); have x0w5 : w5.cell? ⟨S, 0, none⟩ = some (.int .i64 a) := (blk_cell HAc.out 0).trans rfl; have x1w5 : w5.cell? ⟨S, 1, none⟩ = some (.int .i64 b) := (blk_cell HAc.out 1).trans rfl; have y0w5 : w5.cell? ⟨S + 1, 0, none⟩ = some (.int .i64 c) := (blk_cell HBc.out 0).trans rfl; have y1w5 : w5.cell? ⟨S + 1, 1, none⟩ = some (.int .i64 d) := (blk_cell HBc.out 1).trans rfl; have z0w5 : w5.cell? ⟨S + 2, 0, none⟩ = some (.int .i64 0) := (blk_cell HZc.out 0).trans rfl; have z1w5 : w5.cell? ⟨S + 2, 1, none⟩ = some (.int .i64 0) := (blk_cell HZc.out 1).trans rfl; have f0w5 : w5.frozen? ⟨S + 2, 0, none⟩ = false := blk_frozen HZc.out 0; have f1w5 : w5.frozen? ⟨S + 2, 1, none⟩ = false := blk_frozen HZc.out 1; clear hb))
  all_goals
    go_wp2_with fail
    refine bodyPost_ret (results_cell_row rfl _ _ (S + 2) 28 #[.int .i64 (btw (hold a) (hold c) part), .int .i64 (btw (hold b) (hold d) part)] (0, 0) _ rfl (put2 HZc.out _ _) Try.underlying28 rfl (by kernel_rfl)) rfl ?_
    exact ⟨rfl, low2 HRc.out (by have := HSS.out; omega) _ _⟩
end Go.Proofs.Ytcbmkhogmdkpdaa.Ring
