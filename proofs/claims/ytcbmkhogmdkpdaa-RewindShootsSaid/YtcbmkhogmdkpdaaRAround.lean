import Derived.Test.YtcbmkhogmdkpdaaRAr
set_option linter.unusedVariables false
set_option linter.unusedSimpArgs false
namespace Go.Proofs.Ytcbmkhogmdkpdaa.Ring
open Go.RowKit Go.ChangeMaps Go.Proofs.YtcbmkhogmdkpdaaW.PrintWords Go.Proofs.YtcbmkhogmdkpdaaW.PrintLast Go.Proofs.YtcbmkhogmdkpdaaW.PrintMore Go.Proofs.Ytcbmkhogmdkpdaa.PRewindNone Go.Proofs.Ytcbmkhogmdkpdaa.MapI Go.Proofs.Ytcbmkhogmdkpdaa.Plain Go.Proofs.Ytcbmkhogmdkpdaa.Pure
theorem put4a {w : World} {S t : Nat} {z0 z1 z2 z3 : Value} (h : w.heap[S]? = some (.cells #[z0, z1, z2, z3] t (0, 0))) (a b : Value) : ((w.setCell ⟨S, 0, none⟩ a).setCell ⟨S, 1, none⟩ b).heap[S]? = some (.cells #[a, b, z2, z3] t (0, 0)) := by
  have h0 : (w.setCell ⟨S, 0, none⟩ a).heap[S]? = some (.cells #[a, z1, z2, z3] t (0, 0)) := (blk_set h 0 a).trans rfl
  have h1 : ((w.setCell ⟨S, 0, none⟩ a).setCell ⟨S, 1, none⟩ b).heap[S]? = some (.cells #[a, b, z2, z3] t (0, 0)) := (blk_set h0 1 b).trans rfl
  exact h1
theorem put4b {w : World} {S t : Nat} {z0 z1 z2 z3 : Value} (h : w.heap[S]? = some (.cells #[z0, z1, z2, z3] t (0, 0))) (a b : Value) : ((w.setCell ⟨S, 2, none⟩ a).setCell ⟨S, 3, none⟩ b).heap[S]? = some (.cells #[z0, z1, a, b] t (0, 0)) := by
  have h0 : (w.setCell ⟨S, 2, none⟩ a).heap[S]? = some (.cells #[z0, z1, a, z3] t (0, 0)) := (blk_set h 2 a).trans rfl
  have h1 : ((w.setCell ⟨S, 2, none⟩ a).setCell ⟨S, 3, none⟩ b).heap[S]? = some (.cells #[z0, z1, a, b] t (0, 0)) := (blk_set h0 3 b).trans rfl
  exact h1
theorem blk_two2 {w : World} {g h o p : Nat} (hne : g ≠ h) (a b : Value) : ((w.setCell ⟨h, o, none⟩ a).setCell ⟨h, p, none⟩ b).heap[g]? = w.heap[g]? := by
  rw [Below.heap_setCell _ _ _ _ hne, Below.heap_setCell _ _ _ _ hne]
set_option maxHeartbeats 4000000 in
set_option maxRecDepth 100000 in
theorem around_any (x y h : Int) (w : World) : Calls Try.prog 35 #[.agg #[.int .i64 x, .int .i64 y], .int .i64 h] w fun e w' => e = .returned (.agg #[.int .i64 (hold (hold x - hold h)), .int .i64 (hold (hold y - hold h)), .int .i64 (hold (hold x + hold h)), .int .i64 (hold (hold y + hold h))]) ∧ Below w.heap.size w w' := by
  have hA := blk_alloc (blk_alloc (blk_new w (.cells #[.int .i64 x, .int .i64 y] 28 (0, 0))) (.cells #[.int .i64 0, .int .i64 0, .int .i64 0, .int .i64 0] 90 (0, 0))) (.cells #[.int .i64 0, .int .i64 0, .int .i64 0, .int .i64 0] 90 (0, 0))
  have hB := blk_alloc (blk_new (w.alloc (.cells #[.int .i64 x, .int .i64 y] 28 (0, 0))) (.cells #[.int .i64 0, .int .i64 0, .int .i64 0, .int .i64 0] 90 (0, 0))) (.cells #[.int .i64 0, .int .i64 0, .int .i64 0, .int .i64 0] 90 (0, 0))
  have hZ := blk_new ((w.alloc (.cells #[.int .i64 x, .int .i64 y] 28 (0, 0))).alloc (.cells #[.int .i64 0, .int .i64 0, .int .i64 0, .int .i64 0] 90 (0, 0))) (.cells #[.int .i64 0, .int .i64 0, .int .i64 0, .int .i64 0] 90 (0, 0))
  rw [show (w.alloc (.cells #[.int .i64 x, .int .i64 y] 28 (0, 0))).heap.size = w.heap.size + 1 by simp] at hB
  rw [show ((w.alloc (.cells #[.int .i64 x, .int .i64 y] 28 (0, 0))).alloc (.cells #[.int .i64 0, .int .i64 0, .int .i64 0, .int .i64 0] 90 (0, 0))).heap.size = w.heap.size + 2 by simp] at hZ
  have HRa := Aside0.mk (below_alloc (below_alloc (below_alloc (Below.refl w.heap.size w) (.cells #[.int .i64 x, .int .i64 y] 28 (0, 0))) (.cells #[.int .i64 0, .int .i64 0, .int .i64 0, .int .i64 0] 90 (0, 0))) (.cells #[.int .i64 0, .int .i64 0, .int .i64 0, .int .i64 0] 90 (0, 0)))
  have HAa := Aside0.mk hA
  have HBa := Aside0.mk hB
  have HZa := Aside0.mk hZ
  clear hA hB hZ
  go_enter Try.func35, Try.ntmps35
  go_upto_region 2 with fail
  generalize ((w.alloc (.cells #[.int .i64 x, .int .i64 y] 28 (0, 0))).alloc (.cells #[.int .i64 0, .int .i64 0, .int .i64 0, .int .i64 0] 90 (0, 0))).alloc (.cells #[.int .i64 0, .int .i64 0, .int .i64 0, .int .i64 0] 90 (0, 0)) = W1 at *
  rw [show w.heap.size + 1 + 1 = w.heap.size + 2 from rfl]
  obtain ⟨S, hS⟩ : ∃ S, w.heap.size = S := ⟨_, rfl⟩
  have HSS := Aside0.mk hS
  rw [hS] at HAa HBa HZa
  rw [hS]
  clear hS
  have x0_a : W1.cell? ⟨S, 0, none⟩ = some (.int .i64 x) := (blk_cell HAa.out 0).trans rfl
  have x1_a : W1.cell? ⟨S, 1, none⟩ = some (.int .i64 y) := (blk_cell HAa.out 1).trans rfl
  have z0_a : W1.cell? ⟨S + 2, 0, none⟩ = some (.int .i64 0) := (blk_cell HZa.out 0).trans rfl
  have z1_a : W1.cell? ⟨S + 2, 1, none⟩ = some (.int .i64 0) := (blk_cell HZa.out 1).trans rfl
  have f0_a : W1.frozen? ⟨S + 2, 0, none⟩ = false := blk_frozen HZa.out 0
  have f1_a : W1.frozen? ⟨S + 2, 1, none⟩ = false := blk_frozen HZa.out 1
  go_cut [15] (fun v wx => v = .pointer (some ⟨S + 2, 0, none⟩) ∧ Aside0 (Below w.heap.size w wx) ∧ Aside0 (wx.heap[S]? = some (.cells #[.int .i64 x, .int .i64 y] 28 (0, 0))) ∧ Aside0 (wx.heap[S + 1]? = some (.cells #[.int .i64 0, .int .i64 0, .int .i64 0, .int .i64 0] 90 (0, 0))) ∧ Aside0 (wx.heap[S + 2]? = some (.cells #[.int .i64 (hold (hold x - hold h)), .int .i64 (hold (hold y - hold h)), .int .i64 0, .int .i64 0] 90 (0, 0))))
  case first =>
    go_region_held3 (fun w' => w'.cell? ⟨S, 0, none⟩ = some (.int .i64 x) ∧ w'.cell? ⟨S, 1, none⟩ = some (.int .i64 y)) (first | (refine ⟨?_, ?_⟩ <;> assumption) | go_keep) (first | (go_at_call 53; (with_reducible refine (rsub_any x h _).mono ?_); rintro e w4 ⟨he, hb⟩; subst he; have HRb := Aside0.mk (below_thru (w0 := w) hb (by (with_reducible repeat (first | exact HRa.out | apply below_drew)))); have HAb := Aside0.mk (blk_below (g := S) (o := .cells #[.int .i64 x, .int .i64 y] 28 (0, 0)) (by with_reducible first | exact HAa.out | exact blk_drew HAa.out) hb); have HBb := Aside0.mk (blk_below (g := S + 1) (o := .cells #[.int .i64 0, .int .i64 0, .int .i64 0, .int .i64 0] 90 (0, 0)) (by with_reducible first | exact HBa.out | exact blk_drew HBa.out) hb); have HZb := Aside0.mk (blk_below (g := S + 2) (o := .cells #[.int .i64 0, .int .i64 0, .int .i64 0, .int .i64 0] 90 (0, 0)) (by with_reducible first | exact HZa.out | exact blk_drew HZa.out) hb); have x0w4 : w4.cell? ⟨S, 0, none⟩ = some (.int .i64 x) := (blk_cell HAb.out 0).trans rfl; have x1w4 : w4.cell? ⟨S, 1, none⟩ = some (.int .i64 y) := (blk_cell HAb.out 1).trans rfl; have z0w4 : w4.cell? ⟨S + 2, 0, none⟩ = some (.int .i64 0) := (blk_cell HZb.out 0).trans rfl; have z1w4 : w4.cell? ⟨S + 2, 1, none⟩ = some (.int .i64 0) := (blk_cell HZb.out 1).trans rfl; have f0w4 : w4.frozen? ⟨S + 2, 0, none⟩ = false := blk_frozen HZb.out 0; have f1w4 : w4.frozen? ⟨S + 2, 1, none⟩ = false := blk_frozen HZb.out 1; clear hb) | (go_at_call 53; (with_reducible refine (rsub_any y h _).mono ?_); rintro e w5 ⟨he, hb⟩; subst he; have HRc := Aside0.mk (below_thru (w0 := w) hb (by (with_reducible repeat (first | exact HRb.out | apply below_drew)))); have HAc := Aside0.mk (blk_below (g := S) (o := .cells #[.int .i64 x, .int .i64 y] 28 (0, 0)) (by with_reducible first | exact HAb.out | exact blk_drew HAb.out) hb); have HBc := Aside0.mk (blk_below (g := S + 1) (o := .cells #[.int .i64 0, .int .i64 0, .int .i64 0, .int .i64 0] 90 (0, 0)) (by with_reducible first | exact HBb.out | exact blk_drew HBb.out) hb); have HZc := Aside0.mk (blk_below (g := S + 2) (o := .cells #[.int .i64 0, .int .i64 0, .int .i64 0, .int .i64 0] 90 (0, 0)) (by with_reducible first | exact HZb.out | exact blk_drew HZb.out) hb); have x0w5 : w5.cell? ⟨S, 0, none⟩ = some (.int .i64 x) := (blk_cell HAc.out 0).trans rfl; have x1w5 : w5.cell? ⟨S, 1, none⟩ = some (.int .i64 y) := (blk_cell HAc.out 1).trans rfl; have z0w5 : w5.cell? ⟨S + 2, 0, none⟩ = some (.int .i64 0) := (blk_cell HZc.out 0).trans rfl; have z1w5 : w5.cell? ⟨S + 2, 1, none⟩ = some (.int .i64 0) := (blk_cell HZc.out 1).trans rfl; have f0w5 : w5.frozen? ⟨S + 2, 0, none⟩ = false := blk_frozen HZc.out 0; have f1w5 : w5.frozen? ⟨S + 2, 1, none⟩ = false := blk_frozen HZc.out 1; clear hb))
    all_goals
      go_wp2_with fail
      go_meet
      exact ⟨rfl, ⟨(HRc.out.setCell (p := ⟨S + 2, 0, none⟩) (by show w.heap.size ≤ S + 2; have := HSS.out; omega) _).setCell (p := ⟨S + 2, 1, none⟩) (by show w.heap.size ≤ S + 2; have := HSS.out; omega) _⟩, ⟨(blk_two2 (by omega) _ _).trans HAc.out⟩, ⟨(blk_two2 (by omega) _ _).trans HBc.out⟩, ⟨put4a HZc.out _ _⟩⟩
  case rest =>
  obtain ⟨rfl, HRd, HAd, HBd, HZd⟩ := hcut
  generalize wc = W2 at *
  apply_assumption
  refine wp_seq_k (fun K hK => ?_)
  have x0_d : W2.cell? ⟨S, 0, none⟩ = some (.int .i64 x) := (blk_cell HAd.out 0).trans rfl
  have x1_d : W2.cell? ⟨S, 1, none⟩ = some (.int .i64 y) := (blk_cell HAd.out 1).trans rfl
  have z2_d : W2.cell? ⟨S + 2, 2, none⟩ = some (.int .i64 0) := (blk_cell HZd.out 2).trans rfl
  have z3_d : W2.cell? ⟨S + 2, 3, none⟩ = some (.int .i64 0) := (blk_cell HZd.out 3).trans rfl
  have f2_d : W2.frozen? ⟨S + 2, 2, none⟩ = false := blk_frozen HZd.out 2
  have f3_d : W2.frozen? ⟨S + 2, 3, none⟩ = false := blk_frozen HZd.out 3
  go_cut [25] (fun v wx => v = .pointer (some ⟨S + 2, 2, none⟩) ∧ Aside0 (Below w.heap.size w wx) ∧ Aside0 (wx.heap[S]? = some (.cells #[.int .i64 x, .int .i64 y] 28 (0, 0))) ∧ Aside0 (wx.heap[S + 1]? = some (.cells #[.int .i64 0, .int .i64 0, .int .i64 0, .int .i64 0] 90 (0, 0))) ∧ Aside0 (wx.heap[S + 2]? = some (.cells #[.int .i64 (hold (hold x - hold h)), .int .i64 (hold (hold y - hold h)), .int .i64 (hold (hold x + hold h)), .int .i64 (hold (hold y + hold h))] 90 (0, 0))))
  case first =>
    go_region_held3 (fun w' => w'.cell? ⟨S, 0, none⟩ = some (.int .i64 x) ∧ w'.cell? ⟨S, 1, none⟩ = some (.int .i64 y)) (first | (refine ⟨?_, ?_⟩ <;> assumption) | go_keep) (first | (go_at_call 37; (with_reducible refine (radd_any x h _).mono ?_); rintro e w6 ⟨he, hb⟩; subst he; have HRe := Aside0.mk (below_thru (w0 := w) hb (by (with_reducible repeat (first | exact HRd.out | apply below_drew)))); have HAe := Aside0.mk (blk_below (g := S) (o := .cells #[.int .i64 x, .int .i64 y] 28 (0, 0)) (by with_reducible first | exact HAd.out | exact blk_drew HAd.out) hb); have HBe := Aside0.mk (blk_below (g := S + 1) (o := .cells #[.int .i64 0, .int .i64 0, .int .i64 0, .int .i64 0] 90 (0, 0)) (by with_reducible first | exact HBd.out | exact blk_drew HBd.out) hb); have HZe := Aside0.mk (blk_below (g := S + 2) (o := .cells #[.int .i64 (hold (hold x - hold h)), .int .i64 (hold (hold y - hold h)), .int .i64 0, .int .i64 0] 90 (0, 0)) (by with_reducible first | exact HZd.out | exact blk_drew HZd.out) hb); have x0w6 : w6.cell? ⟨S, 0, none⟩ = some (.int .i64 x) := (blk_cell HAe.out 0).trans rfl; have x1w6 : w6.cell? ⟨S, 1, none⟩ = some (.int .i64 y) := (blk_cell HAe.out 1).trans rfl; have z2w6 : w6.cell? ⟨S + 2, 2, none⟩ = some (.int .i64 0) := (blk_cell HZe.out 2).trans rfl; have z3w6 : w6.cell? ⟨S + 2, 3, none⟩ = some (.int .i64 0) := (blk_cell HZe.out 3).trans rfl; have f2w6 : w6.frozen? ⟨S + 2, 2, none⟩ = false := blk_frozen HZe.out 2; have f3w6 : w6.frozen? ⟨S + 2, 3, none⟩ = false := blk_frozen HZe.out 3; clear hb) | (go_at_call 37; (with_reducible refine (radd_any y h _).mono ?_); rintro e w7 ⟨he, hb⟩; subst he; have HRf := Aside0.mk (below_thru (w0 := w) hb (by (with_reducible repeat (first | exact HRe.out | apply below_drew)))); have HAf := Aside0.mk (blk_below (g := S) (o := .cells #[.int .i64 x, .int .i64 y] 28 (0, 0)) (by with_reducible first | exact HAe.out | exact blk_drew HAe.out) hb); have HBf := Aside0.mk (blk_below (g := S + 1) (o := .cells #[.int .i64 0, .int .i64 0, .int .i64 0, .int .i64 0] 90 (0, 0)) (by with_reducible first | exact HBe.out | exact blk_drew HBe.out) hb); have HZf := Aside0.mk (blk_below (g := S + 2) (o := .cells #[.int .i64 (hold (hold x - hold h)), .int .i64 (hold (hold y - hold h)), .int .i64 0, .int .i64 0] 90 (0, 0)) (by with_reducible first | exact HZe.out | exact blk_drew HZe.out) hb); have x0w7 : w7.cell? ⟨S, 0, none⟩ = some (.int .i64 x) := (blk_cell HAf.out 0).trans rfl; have x1w7 : w7.cell? ⟨S, 1, none⟩ = some (.int .i64 y) := (blk_cell HAf.out 1).trans rfl; have z2w7 : w7.cell? ⟨S + 2, 2, none⟩ = some (.int .i64 0) := (blk_cell HZf.out 2).trans rfl; have z3w7 : w7.cell? ⟨S + 2, 3, none⟩ = some (.int .i64 0) := (blk_cell HZf.out 3).trans rfl; have f2w7 : w7.frozen? ⟨S + 2, 2, none⟩ = false := blk_frozen HZf.out 2; have f3w7 : w7.frozen? ⟨S + 2, 3, none⟩ = false := blk_frozen HZf.out 3; clear hb))
    all_goals
      go_wp2_with fail
      go_meet
      exact ⟨rfl, ⟨(HRf.out.setCell (p := ⟨S + 2, 2, none⟩) (by show w.heap.size ≤ S + 2; have := HSS.out; omega) _).setCell (p := ⟨S + 2, 3, none⟩) (by show w.heap.size ≤ S + 2; have := HSS.out; omega) _⟩, ⟨(blk_two2 (by omega) _ _).trans HAf.out⟩, ⟨(blk_two2 (by omega) _ _).trans HBf.out⟩, ⟨put4b HZf.out _ _⟩⟩
  case rest =>
  obtain ⟨rfl, HRg, HAg, HBg, HZg⟩ := hcut
  generalize wc = W3 at *
  have z0 : W3.cell? ⟨S + 2, 0, none⟩ = some (.int .i64 (hold (hold x - hold h))) := (blk_cell HZg.out 0).trans rfl
  have z1 : W3.cell? ⟨S + 2, 1, none⟩ = some (.int .i64 (hold (hold y - hold h))) := (blk_cell HZg.out 1).trans rfl
  have z2 : W3.cell? ⟨S + 2, 2, none⟩ = some (.int .i64 (hold (hold x + hold h))) := (blk_cell HZg.out 2).trans rfl
  have z3 : W3.cell? ⟨S + 2, 3, none⟩ = some (.int .i64 (hold (hold y + hold h))) := (blk_cell HZg.out 3).trans rfl
  have b0 : W3.cell? ⟨S + 1, 0, none⟩ = some (.int .i64 0) := (blk_cell HBg.out 0).trans rfl
  have b1 : W3.cell? ⟨S + 1, 1, none⟩ = some (.int .i64 0) := (blk_cell HBg.out 1).trans rfl
  have b2 : W3.cell? ⟨S + 1, 2, none⟩ = some (.int .i64 0) := (blk_cell HBg.out 2).trans rfl
  have b3 : W3.cell? ⟨S + 1, 3, none⟩ = some (.int .i64 0) := (blk_cell HBg.out 3).trans rfl
  have g0 : W3.frozen? ⟨S + 1, 0, none⟩ = false := blk_frozen HBg.out 0
  have g1 : W3.frozen? ⟨S + 1, 1, none⟩ = false := blk_frozen HBg.out 1
  have g2 : W3.frozen? ⟨S + 1, 2, none⟩ = false := blk_frozen HBg.out 2
  have g3 : W3.frozen? ⟨S + 1, 3, none⟩ = false := blk_frozen HBg.out 3
  go_wp2_with fail
  refine bodyPost_ret (results_cell_row rfl _ _ (S + 1) 90 #[.int .i64 (hold (hold x - hold h)), .int .i64 (hold (hold y - hold h)), .int .i64 (hold (hold x + hold h)), .int .i64 (hold (hold y + hold h))] (0, 0) _ rfl (put4 HBg.out _ _ _ _) Try.underlying90 rfl (by kernel_rfl)) rfl ?_
  exact ⟨rfl, low4 HRg.out (by have := HSS.out; omega) _ _ _ _⟩
end Go.Proofs.Ytcbmkhogmdkpdaa.Ring
