import Derived.Test.YtcbmkhogmdkpdaaRForm
import Derived.Test.YtcbmkhogmdkpdaaRShot
set_option linter.unusedVariables false
set_option linter.unusedSimpArgs false
namespace Go.Proofs.Ytcbmkhogmdkpdaa.Ring
open Go.RowKit Go.ChangeMaps Go.Proofs.YtcbmkhogmdkpdaaW.PrintWords Go.Proofs.YtcbmkhogmdkpdaaW.PrintLast Go.Proofs.YtcbmkhogmdkpdaaW.PrintMore Go.Proofs.Ytcbmkhogmdkpdaa.PRewindNone Go.Proofs.Ytcbmkhogmdkpdaa.MapI Go.Proofs.Ytcbmkhogmdkpdaa.Plain Go.Proofs.Ytcbmkhogmdkpdaa.Pure
set_option maxHeartbeats 1000000 in
theorem rbformed_any (a b c d : Int) (w : World) : Calls Try.prog 49 #[.agg #[.int .i64 a, .int .i64 b, .int .i64 c, .int .i64 d]] w fun e w' => e = .returned (.bool (bfm a b c d)) ∧ Below w.heap.size w w' := by
  have hK0 := blk_new w (.cells #[.int .i64 a, .int .i64 b, .int .i64 c, .int .i64 d] 90 (0, 0))
  have HK0 := Aside0.mk hK0
  have HB := Aside0.mk (below_alloc (Below.refl w.heap.size w) (.cells #[.int .i64 a, .int .i64 b, .int .i64 c, .int .i64 d] 90 (0, 0)))
  clear hK0
  go_enter Try.func49, Try.ntmps49
  go_upto_region 1 with fail
  generalize (w.alloc (.cells #[.int .i64 a, .int .i64 b, .int .i64 c, .int .i64 d] 90 (0, 0))) = W1 at *
  obtain ⟨S, hS⟩ : ∃ S, w.heap.size = S := ⟨_, rfl⟩
  have HSS := Aside0.mk hS
  rw [hS] at HK0
  try rw [hS]
  clear hS
  have b0c0 : W1.cell? ⟨S, 0, none⟩ = some (.int .i64 a) := (blk_cell HK0.out 0).trans rfl
  have b0c1 : W1.cell? ⟨S, 1, none⟩ = some (.int .i64 b) := (blk_cell HK0.out 1).trans rfl
  have b0c2 : W1.cell? ⟨S, 2, none⟩ = some (.int .i64 c) := (blk_cell HK0.out 2).trans rfl
  have b0c3 : W1.cell? ⟨S, 3, none⟩ = some (.int .i64 d) := (blk_cell HK0.out 3).trans rfl
  cases p1 : fmd a b with
  | false =>
    have P1 := Aside0.mk p1
    have HD : Aside0 (bfm a b c d = false) := ⟨by unfold bfm; rw [p1]; rfl⟩
    clear p1
    go_wp2_with (go_at_call 48; (with_reducible refine (formed2_any a b _).mono ?_); rintro e w1 ⟨he, hb⟩; (rw [P1.out] at he); subst he; replace HB := Aside0.mk (HB.out.trans (hb.mono HB.out.size)); clear b0c0 b0c1 b0c2 b0c3; replace HK0 := Aside0.mk (blk_below HK0.out hb); have b0c0 : w1.cell? ⟨S, 0, none⟩ = some (.int .i64 a) := (blk_cell HK0.out 0).trans rfl; have b0c1 : w1.cell? ⟨S, 1, none⟩ = some (.int .i64 b) := (blk_cell HK0.out 1).trans rfl; have b0c2 : w1.cell? ⟨S, 2, none⟩ = some (.int .i64 c) := (blk_cell HK0.out 2).trans rfl; have b0c3 : w1.cell? ⟨S, 3, none⟩ = some (.int .i64 d) := (blk_cell HK0.out 3).trans rfl; clear hb)
    go_ret
    refine ⟨?_, HB.out⟩
    rw [HD.out]
    rfl
  | true =>
    have P1 := Aside0.mk p1
    clear p1
    cases p2 : fmd c d with
    | false =>
      have P2 := Aside0.mk p2
      have HD : Aside0 (bfm a b c d = false) := ⟨by unfold bfm; rw [P1.out, p2]; rfl⟩
      clear p2
      go_wp2_with (first | (go_at_call 48; (with_reducible refine (formed2_any a b _).mono ?_); rintro e w1 ⟨he, hb⟩; (rw [P1.out] at he); subst he; replace HB := Aside0.mk (HB.out.trans (hb.mono HB.out.size)); clear b0c0 b0c1 b0c2 b0c3; replace HK0 := Aside0.mk (blk_below HK0.out hb); have b0c0 : w1.cell? ⟨S, 0, none⟩ = some (.int .i64 a) := (blk_cell HK0.out 0).trans rfl; have b0c1 : w1.cell? ⟨S, 1, none⟩ = some (.int .i64 b) := (blk_cell HK0.out 1).trans rfl; have b0c2 : w1.cell? ⟨S, 2, none⟩ = some (.int .i64 c) := (blk_cell HK0.out 2).trans rfl; have b0c3 : w1.cell? ⟨S, 3, none⟩ = some (.int .i64 d) := (blk_cell HK0.out 3).trans rfl; clear hb) | (go_at_call 48; (with_reducible refine (formed2_any c d _).mono ?_); rintro e w2 ⟨he, hb⟩; (rw [P2.out] at he); subst he; replace HB := Aside0.mk (HB.out.trans (hb.mono HB.out.size)); clear b0c0 b0c1 b0c2 b0c3; replace HK0 := Aside0.mk (blk_below HK0.out hb); have b0c0 : w2.cell? ⟨S, 0, none⟩ = some (.int .i64 a) := (blk_cell HK0.out 0).trans rfl; have b0c1 : w2.cell? ⟨S, 1, none⟩ = some (.int .i64 b) := (blk_cell HK0.out 1).trans rfl; have b0c2 : w2.cell? ⟨S, 2, none⟩ = some (.int .i64 c) := (blk_cell HK0.out 2).trans rfl; have b0c3 : w2.cell? ⟨S, 3, none⟩ = some (.int .i64 d) := (blk_cell HK0.out 3).trans rfl; clear hb))
      go_ret
      refine ⟨?_, HB.out⟩
      rw [HD.out]
      rfl
    | true =>
      have P2 := Aside0.mk p2
      clear p2
      by_cases h1 : a ≤ c
      · by_cases h2 : b ≤ d
        · have HD : Aside0 (bfm a b c d = true) := ⟨by unfold bfm; rw [P1.out, P2.out]; simp [h1, h2]⟩
          go_wp2_with (first | (go_at_call 48; (with_reducible refine (formed2_any a b _).mono ?_); rintro e w1 ⟨he, hb⟩; (rw [P1.out] at he); subst he; replace HB := Aside0.mk (HB.out.trans (hb.mono HB.out.size)); clear b0c0 b0c1 b0c2 b0c3; replace HK0 := Aside0.mk (blk_below HK0.out hb); have b0c0 : w1.cell? ⟨S, 0, none⟩ = some (.int .i64 a) := (blk_cell HK0.out 0).trans rfl; have b0c1 : w1.cell? ⟨S, 1, none⟩ = some (.int .i64 b) := (blk_cell HK0.out 1).trans rfl; have b0c2 : w1.cell? ⟨S, 2, none⟩ = some (.int .i64 c) := (blk_cell HK0.out 2).trans rfl; have b0c3 : w1.cell? ⟨S, 3, none⟩ = some (.int .i64 d) := (blk_cell HK0.out 3).trans rfl; clear hb) | (go_at_call 48; (with_reducible refine (formed2_any c d _).mono ?_); rintro e w2 ⟨he, hb⟩; (rw [P2.out] at he); subst he; replace HB := Aside0.mk (HB.out.trans (hb.mono HB.out.size)); clear b0c0 b0c1 b0c2 b0c3; replace HK0 := Aside0.mk (blk_below HK0.out hb); have b0c0 : w2.cell? ⟨S, 0, none⟩ = some (.int .i64 a) := (blk_cell HK0.out 0).trans rfl; have b0c1 : w2.cell? ⟨S, 1, none⟩ = some (.int .i64 b) := (blk_cell HK0.out 1).trans rfl; have b0c2 : w2.cell? ⟨S, 2, none⟩ = some (.int .i64 c) := (blk_cell HK0.out 2).trans rfl; have b0c3 : w2.cell? ⟨S, 3, none⟩ = some (.int .i64 d) := (blk_cell HK0.out 3).trans rfl; clear hb))
          go_ret
          refine ⟨?_, HB.out⟩
          rw [HD.out]
          rfl
        · have HD : Aside0 (bfm a b c d = decide (b ≤ d)) := ⟨by unfold bfm; rw [P1.out, P2.out]; simp [h1, h2]⟩
          go_wp2_with (first | (go_at_call 48; (with_reducible refine (formed2_any a b _).mono ?_); rintro e w1 ⟨he, hb⟩; (rw [P1.out] at he); subst he; replace HB := Aside0.mk (HB.out.trans (hb.mono HB.out.size)); clear b0c0 b0c1 b0c2 b0c3; replace HK0 := Aside0.mk (blk_below HK0.out hb); have b0c0 : w1.cell? ⟨S, 0, none⟩ = some (.int .i64 a) := (blk_cell HK0.out 0).trans rfl; have b0c1 : w1.cell? ⟨S, 1, none⟩ = some (.int .i64 b) := (blk_cell HK0.out 1).trans rfl; have b0c2 : w1.cell? ⟨S, 2, none⟩ = some (.int .i64 c) := (blk_cell HK0.out 2).trans rfl; have b0c3 : w1.cell? ⟨S, 3, none⟩ = some (.int .i64 d) := (blk_cell HK0.out 3).trans rfl; clear hb) | (go_at_call 48; (with_reducible refine (formed2_any c d _).mono ?_); rintro e w2 ⟨he, hb⟩; (rw [P2.out] at he); subst he; replace HB := Aside0.mk (HB.out.trans (hb.mono HB.out.size)); clear b0c0 b0c1 b0c2 b0c3; replace HK0 := Aside0.mk (blk_below HK0.out hb); have b0c0 : w2.cell? ⟨S, 0, none⟩ = some (.int .i64 a) := (blk_cell HK0.out 0).trans rfl; have b0c1 : w2.cell? ⟨S, 1, none⟩ = some (.int .i64 b) := (blk_cell HK0.out 1).trans rfl; have b0c2 : w2.cell? ⟨S, 2, none⟩ = some (.int .i64 c) := (blk_cell HK0.out 2).trans rfl; have b0c3 : w2.cell? ⟨S, 3, none⟩ = some (.int .i64 d) := (blk_cell HK0.out 3).trans rfl; clear hb))
          go_ret
          refine ⟨?_, HB.out⟩
          rw [HD.out]
          rfl
      · have HD : Aside0 (bfm a b c d = false) := ⟨by unfold bfm; rw [P1.out, P2.out]; simp [h1]⟩
        go_wp2_with (first | (go_at_call 48; (with_reducible refine (formed2_any a b _).mono ?_); rintro e w1 ⟨he, hb⟩; (rw [P1.out] at he); subst he; replace HB := Aside0.mk (HB.out.trans (hb.mono HB.out.size)); clear b0c0 b0c1 b0c2 b0c3; replace HK0 := Aside0.mk (blk_below HK0.out hb); have b0c0 : w1.cell? ⟨S, 0, none⟩ = some (.int .i64 a) := (blk_cell HK0.out 0).trans rfl; have b0c1 : w1.cell? ⟨S, 1, none⟩ = some (.int .i64 b) := (blk_cell HK0.out 1).trans rfl; have b0c2 : w1.cell? ⟨S, 2, none⟩ = some (.int .i64 c) := (blk_cell HK0.out 2).trans rfl; have b0c3 : w1.cell? ⟨S, 3, none⟩ = some (.int .i64 d) := (blk_cell HK0.out 3).trans rfl; clear hb) | (go_at_call 48; (with_reducible refine (formed2_any c d _).mono ?_); rintro e w2 ⟨he, hb⟩; (rw [P2.out] at he); subst he; replace HB := Aside0.mk (HB.out.trans (hb.mono HB.out.size)); clear b0c0 b0c1 b0c2 b0c3; replace HK0 := Aside0.mk (blk_below HK0.out hb); have b0c0 : w2.cell? ⟨S, 0, none⟩ = some (.int .i64 a) := (blk_cell HK0.out 0).trans rfl; have b0c1 : w2.cell? ⟨S, 1, none⟩ = some (.int .i64 b) := (blk_cell HK0.out 1).trans rfl; have b0c2 : w2.cell? ⟨S, 2, none⟩ = some (.int .i64 c) := (blk_cell HK0.out 2).trans rfl; have b0c3 : w2.cell? ⟨S, 3, none⟩ = some (.int .i64 d) := (blk_cell HK0.out 3).trans rfl; clear hb))
        go_ret
        refine ⟨?_, HB.out⟩
        rw [HD.out]
        rfl
set_option maxHeartbeats 1000000 in
theorem rin_any (x y a b c d : Int) (w : World) : Calls Try.prog 50 #[.agg #[.int .i64 x, .int .i64 y], .agg #[.int .i64 a, .int .i64 b, .int .i64 c, .int .i64 d]] w fun e w' => e = .returned (.bool (binn x y a b c d)) ∧ Below w.heap.size w w' := by
  have hK0 := blk_alloc (blk_new w (.cells #[.int .i64 x, .int .i64 y] 28 (0, 0))) (.cells #[.int .i64 a, .int .i64 b, .int .i64 c, .int .i64 d] 90 (0, 0))
  have HK0 := Aside0.mk hK0
  have hK1 := blk_new (w.alloc (.cells #[.int .i64 x, .int .i64 y] 28 (0, 0))) (.cells #[.int .i64 a, .int .i64 b, .int .i64 c, .int .i64 d] 90 (0, 0))
  rw [show (w.alloc (.cells #[.int .i64 x, .int .i64 y] 28 (0, 0))).heap.size = w.heap.size + 1 by simp] at hK1
  have HK1 := Aside0.mk hK1
  have HB := Aside0.mk (below_alloc (below_alloc (Below.refl w.heap.size w) (.cells #[.int .i64 x, .int .i64 y] 28 (0, 0))) (.cells #[.int .i64 a, .int .i64 b, .int .i64 c, .int .i64 d] 90 (0, 0)))
  clear hK0 hK1
  go_enter Try.func50, Try.ntmps50
  go_upto_region 1 with fail
  generalize ((w.alloc (.cells #[.int .i64 x, .int .i64 y] 28 (0, 0))).alloc (.cells #[.int .i64 a, .int .i64 b, .int .i64 c, .int .i64 d] 90 (0, 0))) = W1 at *
  obtain ⟨S, hS⟩ : ∃ S, w.heap.size = S := ⟨_, rfl⟩
  have HSS := Aside0.mk hS
  rw [hS] at HK0 HK1
  try rw [hS]
  clear hS
  have b0c0 : W1.cell? ⟨S, 0, none⟩ = some (.int .i64 x) := (blk_cell HK0.out 0).trans rfl
  have b0c1 : W1.cell? ⟨S, 1, none⟩ = some (.int .i64 y) := (blk_cell HK0.out 1).trans rfl
  have b1c0 : W1.cell? ⟨S + 1, 0, none⟩ = some (.int .i64 a) := (blk_cell HK1.out 0).trans rfl
  have b1c1 : W1.cell? ⟨S + 1, 1, none⟩ = some (.int .i64 b) := (blk_cell HK1.out 1).trans rfl
  have b1c2 : W1.cell? ⟨S + 1, 2, none⟩ = some (.int .i64 c) := (blk_cell HK1.out 2).trans rfl
  have b1c3 : W1.cell? ⟨S + 1, 3, none⟩ = some (.int .i64 d) := (blk_cell HK1.out 3).trans rfl
  cases p1 : fmd x y with
  | false =>
    have P1 := Aside0.mk p1
    have HD : Aside0 (binn x y a b c d = false) := ⟨by unfold binn; rw [p1]; rfl⟩
    clear p1
    go_wp2_with (go_at_call 48; (with_reducible refine (formed2_any x y _).mono ?_); rintro e w1 ⟨he, hb⟩; (rw [P1.out] at he); subst he; replace HB := Aside0.mk (HB.out.trans (hb.mono HB.out.size)); clear b0c0 b0c1 b1c0 b1c1 b1c2 b1c3; replace HK0 := Aside0.mk (blk_below HK0.out hb); replace HK1 := Aside0.mk (blk_below HK1.out hb); have b0c0 : w1.cell? ⟨S, 0, none⟩ = some (.int .i64 x) := (blk_cell HK0.out 0).trans rfl; have b0c1 : w1.cell? ⟨S, 1, none⟩ = some (.int .i64 y) := (blk_cell HK0.out 1).trans rfl; have b1c0 : w1.cell? ⟨S + 1, 0, none⟩ = some (.int .i64 a) := (blk_cell HK1.out 0).trans rfl; have b1c1 : w1.cell? ⟨S + 1, 1, none⟩ = some (.int .i64 b) := (blk_cell HK1.out 1).trans rfl; have b1c2 : w1.cell? ⟨S + 1, 2, none⟩ = some (.int .i64 c) := (blk_cell HK1.out 2).trans rfl; have b1c3 : w1.cell? ⟨S + 1, 3, none⟩ = some (.int .i64 d) := (blk_cell HK1.out 3).trans rfl; clear hb)
    go_ret
    refine ⟨?_, HB.out⟩
    rw [HD.out]
    rfl
  | true =>
    have P1 := Aside0.mk p1
    clear p1
    cases p2 : bfm a b c d with
    | false =>
      have P2 := Aside0.mk p2
      have HD : Aside0 (binn x y a b c d = false) := ⟨by unfold binn; rw [P1.out, p2]; rfl⟩
      clear p2
      go_wp2_with (first | (go_at_call 48; (with_reducible refine (formed2_any x y _).mono ?_); rintro e w1 ⟨he, hb⟩; (rw [P1.out] at he); subst he; replace HB := Aside0.mk (HB.out.trans (hb.mono HB.out.size)); clear b0c0 b0c1 b1c0 b1c1 b1c2 b1c3; replace HK0 := Aside0.mk (blk_below HK0.out hb); replace HK1 := Aside0.mk (blk_below HK1.out hb); have b0c0 : w1.cell? ⟨S, 0, none⟩ = some (.int .i64 x) := (blk_cell HK0.out 0).trans rfl; have b0c1 : w1.cell? ⟨S, 1, none⟩ = some (.int .i64 y) := (blk_cell HK0.out 1).trans rfl; have b1c0 : w1.cell? ⟨S + 1, 0, none⟩ = some (.int .i64 a) := (blk_cell HK1.out 0).trans rfl; have b1c1 : w1.cell? ⟨S + 1, 1, none⟩ = some (.int .i64 b) := (blk_cell HK1.out 1).trans rfl; have b1c2 : w1.cell? ⟨S + 1, 2, none⟩ = some (.int .i64 c) := (blk_cell HK1.out 2).trans rfl; have b1c3 : w1.cell? ⟨S + 1, 3, none⟩ = some (.int .i64 d) := (blk_cell HK1.out 3).trans rfl; clear hb) | (go_at_call 49; (with_reducible refine (rbformed_any a b c d _).mono ?_); rintro e w2 ⟨he, hb⟩; (rw [P2.out] at he); subst he; replace HB := Aside0.mk (HB.out.trans (hb.mono HB.out.size)); clear b0c0 b0c1 b1c0 b1c1 b1c2 b1c3; replace HK0 := Aside0.mk (blk_below HK0.out hb); replace HK1 := Aside0.mk (blk_below HK1.out hb); have b0c0 : w2.cell? ⟨S, 0, none⟩ = some (.int .i64 x) := (blk_cell HK0.out 0).trans rfl; have b0c1 : w2.cell? ⟨S, 1, none⟩ = some (.int .i64 y) := (blk_cell HK0.out 1).trans rfl; have b1c0 : w2.cell? ⟨S + 1, 0, none⟩ = some (.int .i64 a) := (blk_cell HK1.out 0).trans rfl; have b1c1 : w2.cell? ⟨S + 1, 1, none⟩ = some (.int .i64 b) := (blk_cell HK1.out 1).trans rfl; have b1c2 : w2.cell? ⟨S + 1, 2, none⟩ = some (.int .i64 c) := (blk_cell HK1.out 2).trans rfl; have b1c3 : w2.cell? ⟨S + 1, 3, none⟩ = some (.int .i64 d) := (blk_cell HK1.out 3).trans rfl; clear hb))
      go_ret
      refine ⟨?_, HB.out⟩
      rw [HD.out]
      rfl
    | true =>
      have P2 := Aside0.mk p2
      clear p2
      have hq : binn x y a b c d = decide (a ≤ x ∧ x ≤ c ∧ b ≤ y ∧ y ≤ d) := by unfold binn; rw [P1.out, P2.out]; rfl
      by_cases h1 : a ≤ x
      · by_cases h2 : x ≤ c
        · by_cases h3 : b ≤ y
          · by_cases h4 : y ≤ d
            · have HD : Aside0 (binn x y a b c d = true) := ⟨by rw [hq]; exact decide_eq_true ⟨h1, h2, h3, h4⟩⟩
              clear hq
              go_wp2_with (first | (go_at_call 48; (with_reducible refine (formed2_any x y _).mono ?_); rintro e w1 ⟨he, hb⟩; (rw [P1.out] at he); subst he; replace HB := Aside0.mk (HB.out.trans (hb.mono HB.out.size)); clear b0c0 b0c1 b1c0 b1c1 b1c2 b1c3; replace HK0 := Aside0.mk (blk_below HK0.out hb); replace HK1 := Aside0.mk (blk_below HK1.out hb); have b0c0 : w1.cell? ⟨S, 0, none⟩ = some (.int .i64 x) := (blk_cell HK0.out 0).trans rfl; have b0c1 : w1.cell? ⟨S, 1, none⟩ = some (.int .i64 y) := (blk_cell HK0.out 1).trans rfl; have b1c0 : w1.cell? ⟨S + 1, 0, none⟩ = some (.int .i64 a) := (blk_cell HK1.out 0).trans rfl; have b1c1 : w1.cell? ⟨S + 1, 1, none⟩ = some (.int .i64 b) := (blk_cell HK1.out 1).trans rfl; have b1c2 : w1.cell? ⟨S + 1, 2, none⟩ = some (.int .i64 c) := (blk_cell HK1.out 2).trans rfl; have b1c3 : w1.cell? ⟨S + 1, 3, none⟩ = some (.int .i64 d) := (blk_cell HK1.out 3).trans rfl; clear hb) | (go_at_call 49; (with_reducible refine (rbformed_any a b c d _).mono ?_); rintro e w2 ⟨he, hb⟩; (rw [P2.out] at he); subst he; replace HB := Aside0.mk (HB.out.trans (hb.mono HB.out.size)); clear b0c0 b0c1 b1c0 b1c1 b1c2 b1c3; replace HK0 := Aside0.mk (blk_below HK0.out hb); replace HK1 := Aside0.mk (blk_below HK1.out hb); have b0c0 : w2.cell? ⟨S, 0, none⟩ = some (.int .i64 x) := (blk_cell HK0.out 0).trans rfl; have b0c1 : w2.cell? ⟨S, 1, none⟩ = some (.int .i64 y) := (blk_cell HK0.out 1).trans rfl; have b1c0 : w2.cell? ⟨S + 1, 0, none⟩ = some (.int .i64 a) := (blk_cell HK1.out 0).trans rfl; have b1c1 : w2.cell? ⟨S + 1, 1, none⟩ = some (.int .i64 b) := (blk_cell HK1.out 1).trans rfl; have b1c2 : w2.cell? ⟨S + 1, 2, none⟩ = some (.int .i64 c) := (blk_cell HK1.out 2).trans rfl; have b1c3 : w2.cell? ⟨S + 1, 3, none⟩ = some (.int .i64 d) := (blk_cell HK1.out 3).trans rfl; clear hb))
              go_ret
              refine ⟨?_, HB.out⟩
              rw [HD.out]
              rfl
            · have HD : Aside0 (binn x y a b c d = decide (y ≤ d)) := ⟨by rw [hq]; exact (decide_eq_false (by omega)).trans (decide_eq_false h4).symm⟩
              clear hq
              go_wp2_with (first | (go_at_call 48; (with_reducible refine (formed2_any x y _).mono ?_); rintro e w1 ⟨he, hb⟩; (rw [P1.out] at he); subst he; replace HB := Aside0.mk (HB.out.trans (hb.mono HB.out.size)); clear b0c0 b0c1 b1c0 b1c1 b1c2 b1c3; replace HK0 := Aside0.mk (blk_below HK0.out hb); replace HK1 := Aside0.mk (blk_below HK1.out hb); have b0c0 : w1.cell? ⟨S, 0, none⟩ = some (.int .i64 x) := (blk_cell HK0.out 0).trans rfl; have b0c1 : w1.cell? ⟨S, 1, none⟩ = some (.int .i64 y) := (blk_cell HK0.out 1).trans rfl; have b1c0 : w1.cell? ⟨S + 1, 0, none⟩ = some (.int .i64 a) := (blk_cell HK1.out 0).trans rfl; have b1c1 : w1.cell? ⟨S + 1, 1, none⟩ = some (.int .i64 b) := (blk_cell HK1.out 1).trans rfl; have b1c2 : w1.cell? ⟨S + 1, 2, none⟩ = some (.int .i64 c) := (blk_cell HK1.out 2).trans rfl; have b1c3 : w1.cell? ⟨S + 1, 3, none⟩ = some (.int .i64 d) := (blk_cell HK1.out 3).trans rfl; clear hb) | (go_at_call 49; (with_reducible refine (rbformed_any a b c d _).mono ?_); rintro e w2 ⟨he, hb⟩; (rw [P2.out] at he); subst he; replace HB := Aside0.mk (HB.out.trans (hb.mono HB.out.size)); clear b0c0 b0c1 b1c0 b1c1 b1c2 b1c3; replace HK0 := Aside0.mk (blk_below HK0.out hb); replace HK1 := Aside0.mk (blk_below HK1.out hb); have b0c0 : w2.cell? ⟨S, 0, none⟩ = some (.int .i64 x) := (blk_cell HK0.out 0).trans rfl; have b0c1 : w2.cell? ⟨S, 1, none⟩ = some (.int .i64 y) := (blk_cell HK0.out 1).trans rfl; have b1c0 : w2.cell? ⟨S + 1, 0, none⟩ = some (.int .i64 a) := (blk_cell HK1.out 0).trans rfl; have b1c1 : w2.cell? ⟨S + 1, 1, none⟩ = some (.int .i64 b) := (blk_cell HK1.out 1).trans rfl; have b1c2 : w2.cell? ⟨S + 1, 2, none⟩ = some (.int .i64 c) := (blk_cell HK1.out 2).trans rfl; have b1c3 : w2.cell? ⟨S + 1, 3, none⟩ = some (.int .i64 d) := (blk_cell HK1.out 3).trans rfl; clear hb))
              go_ret
              refine ⟨?_, HB.out⟩
              rw [HD.out]
              rfl
          · have HD : Aside0 (binn x y a b c d = false) := ⟨by rw [hq]; exact decide_eq_false (by omega)⟩
            clear hq
            go_wp2_with (first | (go_at_call 48; (with_reducible refine (formed2_any x y _).mono ?_); rintro e w1 ⟨he, hb⟩; (rw [P1.out] at he); subst he; replace HB := Aside0.mk (HB.out.trans (hb.mono HB.out.size)); clear b0c0 b0c1 b1c0 b1c1 b1c2 b1c3; replace HK0 := Aside0.mk (blk_below HK0.out hb); replace HK1 := Aside0.mk (blk_below HK1.out hb); have b0c0 : w1.cell? ⟨S, 0, none⟩ = some (.int .i64 x) := (blk_cell HK0.out 0).trans rfl; have b0c1 : w1.cell? ⟨S, 1, none⟩ = some (.int .i64 y) := (blk_cell HK0.out 1).trans rfl; have b1c0 : w1.cell? ⟨S + 1, 0, none⟩ = some (.int .i64 a) := (blk_cell HK1.out 0).trans rfl; have b1c1 : w1.cell? ⟨S + 1, 1, none⟩ = some (.int .i64 b) := (blk_cell HK1.out 1).trans rfl; have b1c2 : w1.cell? ⟨S + 1, 2, none⟩ = some (.int .i64 c) := (blk_cell HK1.out 2).trans rfl; have b1c3 : w1.cell? ⟨S + 1, 3, none⟩ = some (.int .i64 d) := (blk_cell HK1.out 3).trans rfl; clear hb) | (go_at_call 49; (with_reducible refine (rbformed_any a b c d _).mono ?_); rintro e w2 ⟨he, hb⟩; (rw [P2.out] at he); subst he; replace HB := Aside0.mk (HB.out.trans (hb.mono HB.out.size)); clear b0c0 b0c1 b1c0 b1c1 b1c2 b1c3; replace HK0 := Aside0.mk (blk_below HK0.out hb); replace HK1 := Aside0.mk (blk_below HK1.out hb); have b0c0 : w2.cell? ⟨S, 0, none⟩ = some (.int .i64 x) := (blk_cell HK0.out 0).trans rfl; have b0c1 : w2.cell? ⟨S, 1, none⟩ = some (.int .i64 y) := (blk_cell HK0.out 1).trans rfl; have b1c0 : w2.cell? ⟨S + 1, 0, none⟩ = some (.int .i64 a) := (blk_cell HK1.out 0).trans rfl; have b1c1 : w2.cell? ⟨S + 1, 1, none⟩ = some (.int .i64 b) := (blk_cell HK1.out 1).trans rfl; have b1c2 : w2.cell? ⟨S + 1, 2, none⟩ = some (.int .i64 c) := (blk_cell HK1.out 2).trans rfl; have b1c3 : w2.cell? ⟨S + 1, 3, none⟩ = some (.int .i64 d) := (blk_cell HK1.out 3).trans rfl; clear hb))
            go_ret
            refine ⟨?_, HB.out⟩
            rw [HD.out]
            rfl
        · have HD : Aside0 (binn x y a b c d = false) := ⟨by rw [hq]; exact decide_eq_false (by omega)⟩
          clear hq
          go_wp2_with (first | (go_at_call 48; (with_reducible refine (formed2_any x y _).mono ?_); rintro e w1 ⟨he, hb⟩; (rw [P1.out] at he); subst he; replace HB := Aside0.mk (HB.out.trans (hb.mono HB.out.size)); clear b0c0 b0c1 b1c0 b1c1 b1c2 b1c3; replace HK0 := Aside0.mk (blk_below HK0.out hb); replace HK1 := Aside0.mk (blk_below HK1.out hb); have b0c0 : w1.cell? ⟨S, 0, none⟩ = some (.int .i64 x) := (blk_cell HK0.out 0).trans rfl; have b0c1 : w1.cell? ⟨S, 1, none⟩ = some (.int .i64 y) := (blk_cell HK0.out 1).trans rfl; have b1c0 : w1.cell? ⟨S + 1, 0, none⟩ = some (.int .i64 a) := (blk_cell HK1.out 0).trans rfl; have b1c1 : w1.cell? ⟨S + 1, 1, none⟩ = some (.int .i64 b) := (blk_cell HK1.out 1).trans rfl; have b1c2 : w1.cell? ⟨S + 1, 2, none⟩ = some (.int .i64 c) := (blk_cell HK1.out 2).trans rfl; have b1c3 : w1.cell? ⟨S + 1, 3, none⟩ = some (.int .i64 d) := (blk_cell HK1.out 3).trans rfl; clear hb) | (go_at_call 49; (with_reducible refine (rbformed_any a b c d _).mono ?_); rintro e w2 ⟨he, hb⟩; (rw [P2.out] at he); subst he; replace HB := Aside0.mk (HB.out.trans (hb.mono HB.out.size)); clear b0c0 b0c1 b1c0 b1c1 b1c2 b1c3; replace HK0 := Aside0.mk (blk_below HK0.out hb); replace HK1 := Aside0.mk (blk_below HK1.out hb); have b0c0 : w2.cell? ⟨S, 0, none⟩ = some (.int .i64 x) := (blk_cell HK0.out 0).trans rfl; have b0c1 : w2.cell? ⟨S, 1, none⟩ = some (.int .i64 y) := (blk_cell HK0.out 1).trans rfl; have b1c0 : w2.cell? ⟨S + 1, 0, none⟩ = some (.int .i64 a) := (blk_cell HK1.out 0).trans rfl; have b1c1 : w2.cell? ⟨S + 1, 1, none⟩ = some (.int .i64 b) := (blk_cell HK1.out 1).trans rfl; have b1c2 : w2.cell? ⟨S + 1, 2, none⟩ = some (.int .i64 c) := (blk_cell HK1.out 2).trans rfl; have b1c3 : w2.cell? ⟨S + 1, 3, none⟩ = some (.int .i64 d) := (blk_cell HK1.out 3).trans rfl; clear hb))
          go_ret
          refine ⟨?_, HB.out⟩
          rw [HD.out]
          rfl
      · have HD : Aside0 (binn x y a b c d = false) := ⟨by rw [hq]; exact decide_eq_false (by omega)⟩
        clear hq
        go_wp2_with (first | (go_at_call 48; (with_reducible refine (formed2_any x y _).mono ?_); rintro e w1 ⟨he, hb⟩; (rw [P1.out] at he); subst he; replace HB := Aside0.mk (HB.out.trans (hb.mono HB.out.size)); clear b0c0 b0c1 b1c0 b1c1 b1c2 b1c3; replace HK0 := Aside0.mk (blk_below HK0.out hb); replace HK1 := Aside0.mk (blk_below HK1.out hb); have b0c0 : w1.cell? ⟨S, 0, none⟩ = some (.int .i64 x) := (blk_cell HK0.out 0).trans rfl; have b0c1 : w1.cell? ⟨S, 1, none⟩ = some (.int .i64 y) := (blk_cell HK0.out 1).trans rfl; have b1c0 : w1.cell? ⟨S + 1, 0, none⟩ = some (.int .i64 a) := (blk_cell HK1.out 0).trans rfl; have b1c1 : w1.cell? ⟨S + 1, 1, none⟩ = some (.int .i64 b) := (blk_cell HK1.out 1).trans rfl; have b1c2 : w1.cell? ⟨S + 1, 2, none⟩ = some (.int .i64 c) := (blk_cell HK1.out 2).trans rfl; have b1c3 : w1.cell? ⟨S + 1, 3, none⟩ = some (.int .i64 d) := (blk_cell HK1.out 3).trans rfl; clear hb) | (go_at_call 49; (with_reducible refine (rbformed_any a b c d _).mono ?_); rintro e w2 ⟨he, hb⟩; (rw [P2.out] at he); subst he; replace HB := Aside0.mk (HB.out.trans (hb.mono HB.out.size)); clear b0c0 b0c1 b1c0 b1c1 b1c2 b1c3; replace HK0 := Aside0.mk (blk_below HK0.out hb); replace HK1 := Aside0.mk (blk_below HK1.out hb); have b0c0 : w2.cell? ⟨S, 0, none⟩ = some (.int .i64 x) := (blk_cell HK0.out 0).trans rfl; have b0c1 : w2.cell? ⟨S, 1, none⟩ = some (.int .i64 y) := (blk_cell HK0.out 1).trans rfl; have b1c0 : w2.cell? ⟨S + 1, 0, none⟩ = some (.int .i64 a) := (blk_cell HK1.out 0).trans rfl; have b1c1 : w2.cell? ⟨S + 1, 1, none⟩ = some (.int .i64 b) := (blk_cell HK1.out 1).trans rfl; have b1c2 : w2.cell? ⟨S + 1, 2, none⟩ = some (.int .i64 c) := (blk_cell HK1.out 2).trans rfl; have b1c3 : w2.cell? ⟨S + 1, 3, none⟩ = some (.int .i64 d) := (blk_cell HK1.out 3).trans rfl; clear hb))
        go_ret
        refine ⟨?_, HB.out⟩
        rw [HD.out]
        rfl
set_option maxHeartbeats 1000000 in
theorem rcomes_any {f t l m : Int} (f1 : -134217728 ≤ f) (f2 : f ≤ 134217728) (t1 : -134217728 ≤ t) (t2 : t ≤ 134217728) (l1 : -134217728 ≤ l) (l2 : l ≤ 134217728) (m1 : -134217728 ≤ m) (m2 : m ≤ 134217728) (w : World) : Calls Try.prog 51 #[.int .i64 f, .int .i64 t, .int .i64 l, .int .i64 m] w fun e w' => e = .returned (.tuple #[.agg #[.int .i64 (com f t l m).1.1, .int .i64 (com f t l m).1.2], .bool (com f t l m).2]) ∧ Below w.heap.size w w' := by
  have hK0 := blk_new w (.cells #[.int .i64 0, .int .i64 0] 86 (0, 0))
  have HK0 := Aside0.mk hK0
  have HB := Aside0.mk (below_alloc (Below.refl w.heap.size w) (.cells #[.int .i64 0, .int .i64 0] 86 (0, 0)))
  clear hK0
  go_enter Try.func51, Try.ntmps51
  go_upto_region 1 with fail
  generalize (w.alloc (.cells #[.int .i64 0, .int .i64 0] 86 (0, 0))) = W1 at *
  obtain ⟨S, hS⟩ : ∃ S, w.heap.size = S := ⟨_, rfl⟩
  have HSS := Aside0.mk hS
  rw [hS] at HK0
  try rw [hS]
  clear hS
  have b0c0 : W1.cell? ⟨S, 0, none⟩ = some (.int .i64 0) := (blk_cell HK0.out 0).trans rfl
  have b0f0 : W1.frozen? ⟨S, 0, none⟩ = false := blk_frozen HK0.out 0
  have b0c1 : W1.cell? ⟨S, 1, none⟩ = some (.int .i64 0) := (blk_cell HK0.out 1).trans rfl
  have b0f1 : W1.frozen? ⟨S, 1, none⟩ = false := blk_frozen HK0.out 1
  by_cases h1 : f < l
  · by_cases h2 : l ≤ t
    · have HD : Aside0 (com f t l m = ((l - f, t - f), true)) := ⟨by unfold com; rw [if_pos ⟨h1, h2⟩]⟩
      go_wp2_with fail
      refine bodyPost_ret (results_ct rfl _ _ S 86 #[.int .i64 (l - f), .int .i64 (t - f)] (0, 0) _ rfl (put2 HK0.out _ _) Try.underlying86 rfl (by kernel_rfl)) rfl ?_
      refine ⟨by rw [HD.out]; rfl, ?_⟩
      exact low2 HB.out (by have := HSS.out; omega) _ _
    · by_cases h3 : m < f
      · by_cases h4 : t ≤ m
        · have HD : Aside0 (com f t l m = ((f - m, f - t), true)) := ⟨by unfold com; rw [if_neg (by omega), if_pos ⟨h3, h4⟩]⟩
          go_wp2_with fail
          refine bodyPost_ret (results_ct rfl _ _ S 86 #[.int .i64 (f - m), .int .i64 (f - t)] (0, 0) _ rfl (put2 HK0.out _ _) Try.underlying86 rfl (by kernel_rfl)) rfl ?_
          refine ⟨by rw [HD.out]; rfl, ?_⟩
          exact low2 HB.out (by have := HSS.out; omega) _ _
        · have HD : Aside0 (com f t l m = ((0, 0), false)) := ⟨by unfold com; rw [if_neg (by omega), if_neg (by omega)]⟩
          go_wp2_with fail
          refine bodyPost_ret (results_ct rfl _ _ S 86 #[.int .i64 0, .int .i64 0] (0, 0) _ rfl (put2 HK0.out _ _) Try.underlying86 rfl (by kernel_rfl)) rfl ?_
          refine ⟨by rw [HD.out]; rfl, ?_⟩
          exact low2 HB.out (by have := HSS.out; omega) _ _
      · have HD : Aside0 (com f t l m = ((0, 0), false)) := ⟨by unfold com; rw [if_neg (by omega), if_neg (by omega)]⟩
        go_wp2_with fail
        refine bodyPost_ret (results_ct rfl _ _ S 86 #[.int .i64 0, .int .i64 0] (0, 0) _ rfl (put2 HK0.out _ _) Try.underlying86 rfl (by kernel_rfl)) rfl ?_
        refine ⟨by rw [HD.out]; rfl, ?_⟩
        exact low2 HB.out (by have := HSS.out; omega) _ _
  · by_cases h3 : m < f
    · by_cases h4 : t ≤ m
      · have HD : Aside0 (com f t l m = ((f - m, f - t), true)) := ⟨by unfold com; rw [if_neg (by omega), if_pos ⟨h3, h4⟩]⟩
        go_wp2_with fail
        refine bodyPost_ret (results_ct rfl _ _ S 86 #[.int .i64 (f - m), .int .i64 (f - t)] (0, 0) _ rfl (put2 HK0.out _ _) Try.underlying86 rfl (by kernel_rfl)) rfl ?_
        refine ⟨by rw [HD.out]; rfl, ?_⟩
        exact low2 HB.out (by have := HSS.out; omega) _ _
      · have HD : Aside0 (com f t l m = ((0, 0), false)) := ⟨by unfold com; rw [if_neg (by omega), if_neg (by omega)]⟩
        go_wp2_with fail
        refine bodyPost_ret (results_ct rfl _ _ S 86 #[.int .i64 0, .int .i64 0] (0, 0) _ rfl (put2 HK0.out _ _) Try.underlying86 rfl (by kernel_rfl)) rfl ?_
        refine ⟨by rw [HD.out]; rfl, ?_⟩
        exact low2 HB.out (by have := HSS.out; omega) _ _
    · have HD : Aside0 (com f t l m = ((0, 0), false)) := ⟨by unfold com; rw [if_neg (by omega), if_neg (by omega)]⟩
      go_wp2_with fail
      refine bodyPost_ret (results_ct rfl _ _ S 86 #[.int .i64 0, .int .i64 0] (0, 0) _ rfl (put2 HK0.out _ _) Try.underlying86 rfl (by kernel_rfl)) rfl ?_
      refine ⟨by rw [HD.out]; rfl, ?_⟩
      exact low2 HB.out (by have := HSS.out; omega) _ _
set_option maxHeartbeats 1000000 in
theorem rat_any {f t l m n d : Int} (f1 : -134217728 ≤ f) (f2 : f ≤ 134217728) (t1 : -134217728 ≤ t) (t2 : t ≤ 134217728) (l1 : -134217728 ≤ l) (l2 : l ≤ 134217728) (m1 : -134217728 ≤ m) (m2 : m ≤ 134217728) (n1 : 0 ≤ n) (n2 : n ≤ 268435456) (d1 : 0 ≤ d) (d2 : d ≤ 268435456) (w : World) : Calls Try.prog 64 #[.int .i64 f, .int .i64 t, .int .i64 l, .int .i64 m, .agg #[.int .i64 n, .int .i64 d]] w fun e w' => e = .returned (.bool (decide (Wi f t l m n d))) ∧ Below w.heap.size w w' := by
  have hW : Wi f t l m n d ↔ l * d ≤ f * d + (t - f) * n ∧ f * d + (t - f) * n ≤ m * d := Iff.rfl
  have ep : -(134217728 * 268435456) ≤ f * d ∧ f * d ≤ 134217728 * 268435456 := mul_bd (by omega) (by omega) (by omega) (by omega) (by omega) (by omega)
  obtain ⟨p, hp⟩ : ∃ p, p = f * d := ⟨_, rfl⟩
  rw [← hp] at ep hW
  have wp : wrap64 (f * d) = p := by rw [hp]; exact wrap64_id (by omega) (by omega)
  have vp : IntKind.i64.wrap (f * d) = p := (i64_w _).trans wp
  clear hp
  have eq : -(268435456 * 268435456) ≤ (t - f) * n ∧ (t - f) * n ≤ 268435456 * 268435456 := mul_bd (by omega) (by omega) (by omega) (by omega) (by omega) (by omega)
  obtain ⟨q, hq⟩ : ∃ q, q = (t - f) * n := ⟨_, rfl⟩
  rw [← hq] at eq hW
  have wq : wrap64 ((t - f) * n) = q := by rw [hq]; exact wrap64_id (by omega) (by omega)
  have vq : IntKind.i64.wrap ((t - f) * n) = q := (i64_w _).trans wq
  clear hq
  have er : -(134217728 * 268435456) ≤ l * d ∧ l * d ≤ 134217728 * 268435456 := mul_bd (by omega) (by omega) (by omega) (by omega) (by omega) (by omega)
  obtain ⟨r, hr⟩ : ∃ r, r = l * d := ⟨_, rfl⟩
  rw [← hr] at er hW
  have wr : wrap64 (l * d) = r := by rw [hr]; exact wrap64_id (by omega) (by omega)
  have vr : IntKind.i64.wrap (l * d) = r := (i64_w _).trans wr
  clear hr
  have es : -(134217728 * 268435456) ≤ m * d ∧ m * d ≤ 134217728 * 268435456 := mul_bd (by omega) (by omega) (by omega) (by omega) (by omega) (by omega)
  obtain ⟨s, hs⟩ : ∃ s, s = m * d := ⟨_, rfl⟩
  rw [← hs] at es hW
  have ws : wrap64 (m * d) = s := by rw [hs]; exact wrap64_id (by omega) (by omega)
  have vs : IntKind.i64.wrap (m * d) = s := (i64_w _).trans ws
  clear hs
  have HW := Aside0.mk hW
  clear hW
  have hK0 := blk_new w (.cells #[.int .i64 n, .int .i64 d] 86 (0, 0))
  have HK0 := Aside0.mk hK0
  have HB := Aside0.mk (below_alloc (Below.refl w.heap.size w) (.cells #[.int .i64 n, .int .i64 d] 86 (0, 0)))
  clear hK0
  go_enter Try.func64, Try.ntmps64
  go_upto_region 1 with fail
  generalize (w.alloc (.cells #[.int .i64 n, .int .i64 d] 86 (0, 0))) = W1 at *
  obtain ⟨S, hS⟩ : ∃ S, w.heap.size = S := ⟨_, rfl⟩
  have HSS := Aside0.mk hS
  rw [hS] at HK0
  try rw [hS]
  clear hS
  have b0c0 : W1.cell? ⟨S, 0, none⟩ = some (.int .i64 n) := (blk_cell HK0.out 0).trans rfl
  have b0c1 : W1.cell? ⟨S, 1, none⟩ = some (.int .i64 d) := (blk_cell HK0.out 1).trans rfl
  by_cases h1 : r ≤ p + q
  · by_cases h2 : p + q ≤ s
    · have HD : Aside0 (decide (Wi f t l m n d) = true) := ⟨decide_eq_true (HW.out.2 ⟨h1, h2⟩)⟩
      go_wp2_with fail
      go_ret
      refine ⟨?_, HB.out⟩
      rw [HD.out]
      rfl
    · have HD : Aside0 (decide (Wi f t l m n d) = false) := ⟨decide_eq_false (fun h => h2 (HW.out.1 h).2)⟩
      go_wp2_with fail
      go_ret
      refine ⟨?_, HB.out⟩
      rw [HD.out]
      rfl
  · have HD : Aside0 (decide (Wi f t l m n d) = false) := ⟨decide_eq_false (fun h => h1 (HW.out.1 h).1)⟩
    go_wp2_with fail
    go_ret
    refine ⟨?_, HB.out⟩
    rw [HD.out]
    rfl
set_option maxHeartbeats 1000000 in
theorem rinside_any {fx fy tx ty lx ly ux uy n d : Int} (hf : fmd fx fy = true) (ht : fmd tx ty = true) (hb : bfm lx ly ux uy = true) (n1 : 0 ≤ n) (n2 : n ≤ 268435456) (d1 : 0 ≤ d) (d2 : d ≤ 268435456) (w : World) : Calls Try.prog 52 #[.agg #[.int .i64 fx, .int .i64 fy], .agg #[.int .i64 tx, .int .i64 ty], .agg #[.int .i64 lx, .int .i64 ly, .int .i64 ux, .int .i64 uy], .agg #[.int .i64 n, .int .i64 d]] w fun e w' => e = .returned (.bool (decide (Ins fx fy tx ty lx ly ux uy n d))) ∧ Below w.heap.size w w' := by
  obtain ⟨a1, a2, a3, a4⟩ := fmd_of hf
  obtain ⟨b1, b2, b3, b4⟩ := fmd_of ht
  obtain ⟨⟨c1, c2, c3, c4⟩, ⟨e1, e2, e3, e4⟩, _, _⟩ := bfm_of hb
  clear hf ht hb
  have hK0 := blk_alloc (blk_alloc (blk_alloc (blk_new w (.cells #[.int .i64 fx, .int .i64 fy] 28 (0, 0))) (.cells #[.int .i64 tx, .int .i64 ty] 28 (0, 0))) (.cells #[.int .i64 lx, .int .i64 ly, .int .i64 ux, .int .i64 uy] 90 (0, 0))) (.cells #[.int .i64 n, .int .i64 d] 86 (0, 0))
  have HK0 := Aside0.mk hK0
  have hK1 := blk_alloc (blk_alloc (blk_new (w.alloc (.cells #[.int .i64 fx, .int .i64 fy] 28 (0, 0))) (.cells #[.int .i64 tx, .int .i64 ty] 28 (0, 0))) (.cells #[.int .i64 lx, .int .i64 ly, .int .i64 ux, .int .i64 uy] 90 (0, 0))) (.cells #[.int .i64 n, .int .i64 d] 86 (0, 0))
  rw [show (w.alloc (.cells #[.int .i64 fx, .int .i64 fy] 28 (0, 0))).heap.size = w.heap.size + 1 by simp] at hK1
  have HK1 := Aside0.mk hK1
  have hK2 := blk_alloc (blk_new ((w.alloc (.cells #[.int .i64 fx, .int .i64 fy] 28 (0, 0))).alloc (.cells #[.int .i64 tx, .int .i64 ty] 28 (0, 0))) (.cells #[.int .i64 lx, .int .i64 ly, .int .i64 ux, .int .i64 uy] 90 (0, 0))) (.cells #[.int .i64 n, .int .i64 d] 86 (0, 0))
  rw [show ((w.alloc (.cells #[.int .i64 fx, .int .i64 fy] 28 (0, 0))).alloc (.cells #[.int .i64 tx, .int .i64 ty] 28 (0, 0))).heap.size = w.heap.size + 2 by simp] at hK2
  have HK2 := Aside0.mk hK2
  have hK3 := blk_new (((w.alloc (.cells #[.int .i64 fx, .int .i64 fy] 28 (0, 0))).alloc (.cells #[.int .i64 tx, .int .i64 ty] 28 (0, 0))).alloc (.cells #[.int .i64 lx, .int .i64 ly, .int .i64 ux, .int .i64 uy] 90 (0, 0))) (.cells #[.int .i64 n, .int .i64 d] 86 (0, 0))
  rw [show (((w.alloc (.cells #[.int .i64 fx, .int .i64 fy] 28 (0, 0))).alloc (.cells #[.int .i64 tx, .int .i64 ty] 28 (0, 0))).alloc (.cells #[.int .i64 lx, .int .i64 ly, .int .i64 ux, .int .i64 uy] 90 (0, 0))).heap.size = w.heap.size + 3 by simp] at hK3
  have HK3 := Aside0.mk hK3
  have HB := Aside0.mk (below_alloc (below_alloc (below_alloc (below_alloc (Below.refl w.heap.size w) (.cells #[.int .i64 fx, .int .i64 fy] 28 (0, 0))) (.cells #[.int .i64 tx, .int .i64 ty] 28 (0, 0))) (.cells #[.int .i64 lx, .int .i64 ly, .int .i64 ux, .int .i64 uy] 90 (0, 0))) (.cells #[.int .i64 n, .int .i64 d] 86 (0, 0)))
  clear hK0 hK1 hK2 hK3
  go_enter Try.func52, Try.ntmps52
  go_upto_region 1 with fail
  generalize ((((w.alloc (.cells #[.int .i64 fx, .int .i64 fy] 28 (0, 0))).alloc (.cells #[.int .i64 tx, .int .i64 ty] 28 (0, 0))).alloc (.cells #[.int .i64 lx, .int .i64 ly, .int .i64 ux, .int .i64 uy] 90 (0, 0))).alloc (.cells #[.int .i64 n, .int .i64 d] 86 (0, 0))) = W1 at *
  try rw [show w.heap.size + 1 + 1 + 1 = w.heap.size + 3 from rfl]
  try rw [show w.heap.size + 1 + 1 = w.heap.size + 2 from rfl]
  obtain ⟨S, hS⟩ : ∃ S, w.heap.size = S := ⟨_, rfl⟩
  have HSS := Aside0.mk hS
  rw [hS] at HK0 HK1 HK2 HK3
  try rw [hS]
  clear hS
  have b0c0 : W1.cell? ⟨S, 0, none⟩ = some (.int .i64 fx) := (blk_cell HK0.out 0).trans rfl
  have b0c1 : W1.cell? ⟨S, 1, none⟩ = some (.int .i64 fy) := (blk_cell HK0.out 1).trans rfl
  have b1c0 : W1.cell? ⟨S + 1, 0, none⟩ = some (.int .i64 tx) := (blk_cell HK1.out 0).trans rfl
  have b1c1 : W1.cell? ⟨S + 1, 1, none⟩ = some (.int .i64 ty) := (blk_cell HK1.out 1).trans rfl
  have b2c0 : W1.cell? ⟨S + 2, 0, none⟩ = some (.int .i64 lx) := (blk_cell HK2.out 0).trans rfl
  have b2c1 : W1.cell? ⟨S + 2, 1, none⟩ = some (.int .i64 ly) := (blk_cell HK2.out 1).trans rfl
  have b2c2 : W1.cell? ⟨S + 2, 2, none⟩ = some (.int .i64 ux) := (blk_cell HK2.out 2).trans rfl
  have b2c3 : W1.cell? ⟨S + 2, 3, none⟩ = some (.int .i64 uy) := (blk_cell HK2.out 3).trans rfl
  have b3c0 : W1.cell? ⟨S + 3, 0, none⟩ = some (.int .i64 n) := (blk_cell HK3.out 0).trans rfl
  have b3c1 : W1.cell? ⟨S + 3, 1, none⟩ = some (.int .i64 d) := (blk_cell HK3.out 1).trans rfl
  by_cases p1 : Wi fx tx lx ux n d
  · have P1 : Aside0 (decide (Wi fx tx lx ux n d) = true) := ⟨decide_eq_true p1⟩
    by_cases p2 : Wi fy ty ly uy n d
    · have P2 : Aside0 (decide (Wi fy ty ly uy n d) = true) := ⟨decide_eq_true p2⟩
      have HD : Aside0 (decide (Ins fx fy tx ty lx ly ux uy n d) = true) := ⟨decide_eq_true ⟨p1, p2⟩⟩
      clear p1 p2
      go_wp2_with (first | (go_at_call 64; (with_reducible refine (rat_any a1 a2 b1 b2 c1 c2 e1 e2 n1 n2 d1 d2 _).mono ?_); rintro e w1 ⟨he, hb⟩; (rw [P1.out] at he); subst he; replace HB := Aside0.mk (HB.out.trans (hb.mono HB.out.size)); clear b0c0 b0c1 b1c0 b1c1 b2c0 b2c1 b2c2 b2c3 b3c0 b3c1; replace HK0 := Aside0.mk (blk_below HK0.out hb); replace HK1 := Aside0.mk (blk_below HK1.out hb); replace HK2 := Aside0.mk (blk_below HK2.out hb); replace HK3 := Aside0.mk (blk_below HK3.out hb); have b0c0 : w1.cell? ⟨S, 0, none⟩ = some (.int .i64 fx) := (blk_cell HK0.out 0).trans rfl; have b0c1 : w1.cell? ⟨S, 1, none⟩ = some (.int .i64 fy) := (blk_cell HK0.out 1).trans rfl; have b1c0 : w1.cell? ⟨S + 1, 0, none⟩ = some (.int .i64 tx) := (blk_cell HK1.out 0).trans rfl; have b1c1 : w1.cell? ⟨S + 1, 1, none⟩ = some (.int .i64 ty) := (blk_cell HK1.out 1).trans rfl; have b2c0 : w1.cell? ⟨S + 2, 0, none⟩ = some (.int .i64 lx) := (blk_cell HK2.out 0).trans rfl; have b2c1 : w1.cell? ⟨S + 2, 1, none⟩ = some (.int .i64 ly) := (blk_cell HK2.out 1).trans rfl; have b2c2 : w1.cell? ⟨S + 2, 2, none⟩ = some (.int .i64 ux) := (blk_cell HK2.out 2).trans rfl; have b2c3 : w1.cell? ⟨S + 2, 3, none⟩ = some (.int .i64 uy) := (blk_cell HK2.out 3).trans rfl; have b3c0 : w1.cell? ⟨S + 3, 0, none⟩ = some (.int .i64 n) := (blk_cell HK3.out 0).trans rfl; have b3c1 : w1.cell? ⟨S + 3, 1, none⟩ = some (.int .i64 d) := (blk_cell HK3.out 1).trans rfl; clear hb) | (go_at_call 64; (with_reducible refine (rat_any a3 a4 b3 b4 c3 c4 e3 e4 n1 n2 d1 d2 _).mono ?_); rintro e w2 ⟨he, hb⟩; (rw [P2.out] at he); subst he; replace HB := Aside0.mk (HB.out.trans (hb.mono HB.out.size)); clear b0c0 b0c1 b1c0 b1c1 b2c0 b2c1 b2c2 b2c3 b3c0 b3c1; replace HK0 := Aside0.mk (blk_below HK0.out hb); replace HK1 := Aside0.mk (blk_below HK1.out hb); replace HK2 := Aside0.mk (blk_below HK2.out hb); replace HK3 := Aside0.mk (blk_below HK3.out hb); have b0c0 : w2.cell? ⟨S, 0, none⟩ = some (.int .i64 fx) := (blk_cell HK0.out 0).trans rfl; have b0c1 : w2.cell? ⟨S, 1, none⟩ = some (.int .i64 fy) := (blk_cell HK0.out 1).trans rfl; have b1c0 : w2.cell? ⟨S + 1, 0, none⟩ = some (.int .i64 tx) := (blk_cell HK1.out 0).trans rfl; have b1c1 : w2.cell? ⟨S + 1, 1, none⟩ = some (.int .i64 ty) := (blk_cell HK1.out 1).trans rfl; have b2c0 : w2.cell? ⟨S + 2, 0, none⟩ = some (.int .i64 lx) := (blk_cell HK2.out 0).trans rfl; have b2c1 : w2.cell? ⟨S + 2, 1, none⟩ = some (.int .i64 ly) := (blk_cell HK2.out 1).trans rfl; have b2c2 : w2.cell? ⟨S + 2, 2, none⟩ = some (.int .i64 ux) := (blk_cell HK2.out 2).trans rfl; have b2c3 : w2.cell? ⟨S + 2, 3, none⟩ = some (.int .i64 uy) := (blk_cell HK2.out 3).trans rfl; have b3c0 : w2.cell? ⟨S + 3, 0, none⟩ = some (.int .i64 n) := (blk_cell HK3.out 0).trans rfl; have b3c1 : w2.cell? ⟨S + 3, 1, none⟩ = some (.int .i64 d) := (blk_cell HK3.out 1).trans rfl; clear hb))
      go_ret
      refine ⟨?_, HB.out⟩
      rw [HD.out]
      rfl
    · have P2 : Aside0 (decide (Wi fy ty ly uy n d) = false) := ⟨decide_eq_false p2⟩
      have HD : Aside0 (decide (Ins fx fy tx ty lx ly ux uy n d) = false) := ⟨decide_eq_false (fun h => p2 h.2)⟩
      clear p1 p2
      go_wp2_with (first | (go_at_call 64; (with_reducible refine (rat_any a1 a2 b1 b2 c1 c2 e1 e2 n1 n2 d1 d2 _).mono ?_); rintro e w1 ⟨he, hb⟩; (rw [P1.out] at he); subst he; replace HB := Aside0.mk (HB.out.trans (hb.mono HB.out.size)); clear b0c0 b0c1 b1c0 b1c1 b2c0 b2c1 b2c2 b2c3 b3c0 b3c1; replace HK0 := Aside0.mk (blk_below HK0.out hb); replace HK1 := Aside0.mk (blk_below HK1.out hb); replace HK2 := Aside0.mk (blk_below HK2.out hb); replace HK3 := Aside0.mk (blk_below HK3.out hb); have b0c0 : w1.cell? ⟨S, 0, none⟩ = some (.int .i64 fx) := (blk_cell HK0.out 0).trans rfl; have b0c1 : w1.cell? ⟨S, 1, none⟩ = some (.int .i64 fy) := (blk_cell HK0.out 1).trans rfl; have b1c0 : w1.cell? ⟨S + 1, 0, none⟩ = some (.int .i64 tx) := (blk_cell HK1.out 0).trans rfl; have b1c1 : w1.cell? ⟨S + 1, 1, none⟩ = some (.int .i64 ty) := (blk_cell HK1.out 1).trans rfl; have b2c0 : w1.cell? ⟨S + 2, 0, none⟩ = some (.int .i64 lx) := (blk_cell HK2.out 0).trans rfl; have b2c1 : w1.cell? ⟨S + 2, 1, none⟩ = some (.int .i64 ly) := (blk_cell HK2.out 1).trans rfl; have b2c2 : w1.cell? ⟨S + 2, 2, none⟩ = some (.int .i64 ux) := (blk_cell HK2.out 2).trans rfl; have b2c3 : w1.cell? ⟨S + 2, 3, none⟩ = some (.int .i64 uy) := (blk_cell HK2.out 3).trans rfl; have b3c0 : w1.cell? ⟨S + 3, 0, none⟩ = some (.int .i64 n) := (blk_cell HK3.out 0).trans rfl; have b3c1 : w1.cell? ⟨S + 3, 1, none⟩ = some (.int .i64 d) := (blk_cell HK3.out 1).trans rfl; clear hb) | (go_at_call 64; (with_reducible refine (rat_any a3 a4 b3 b4 c3 c4 e3 e4 n1 n2 d1 d2 _).mono ?_); rintro e w2 ⟨he, hb⟩; (rw [P2.out] at he); subst he; replace HB := Aside0.mk (HB.out.trans (hb.mono HB.out.size)); clear b0c0 b0c1 b1c0 b1c1 b2c0 b2c1 b2c2 b2c3 b3c0 b3c1; replace HK0 := Aside0.mk (blk_below HK0.out hb); replace HK1 := Aside0.mk (blk_below HK1.out hb); replace HK2 := Aside0.mk (blk_below HK2.out hb); replace HK3 := Aside0.mk (blk_below HK3.out hb); have b0c0 : w2.cell? ⟨S, 0, none⟩ = some (.int .i64 fx) := (blk_cell HK0.out 0).trans rfl; have b0c1 : w2.cell? ⟨S, 1, none⟩ = some (.int .i64 fy) := (blk_cell HK0.out 1).trans rfl; have b1c0 : w2.cell? ⟨S + 1, 0, none⟩ = some (.int .i64 tx) := (blk_cell HK1.out 0).trans rfl; have b1c1 : w2.cell? ⟨S + 1, 1, none⟩ = some (.int .i64 ty) := (blk_cell HK1.out 1).trans rfl; have b2c0 : w2.cell? ⟨S + 2, 0, none⟩ = some (.int .i64 lx) := (blk_cell HK2.out 0).trans rfl; have b2c1 : w2.cell? ⟨S + 2, 1, none⟩ = some (.int .i64 ly) := (blk_cell HK2.out 1).trans rfl; have b2c2 : w2.cell? ⟨S + 2, 2, none⟩ = some (.int .i64 ux) := (blk_cell HK2.out 2).trans rfl; have b2c3 : w2.cell? ⟨S + 2, 3, none⟩ = some (.int .i64 uy) := (blk_cell HK2.out 3).trans rfl; have b3c0 : w2.cell? ⟨S + 3, 0, none⟩ = some (.int .i64 n) := (blk_cell HK3.out 0).trans rfl; have b3c1 : w2.cell? ⟨S + 3, 1, none⟩ = some (.int .i64 d) := (blk_cell HK3.out 1).trans rfl; clear hb))
      go_ret
      refine ⟨?_, HB.out⟩
      rw [HD.out]
      rfl
  · have P1 : Aside0 (decide (Wi fx tx lx ux n d) = false) := ⟨decide_eq_false p1⟩
    have HD : Aside0 (decide (Ins fx fy tx ty lx ly ux uy n d) = false) := ⟨decide_eq_false (fun h => p1 h.1)⟩
    clear p1
    go_wp2_with (go_at_call 64; (with_reducible refine (rat_any a1 a2 b1 b2 c1 c2 e1 e2 n1 n2 d1 d2 _).mono ?_); rintro e w1 ⟨he, hb⟩; (rw [P1.out] at he); subst he; replace HB := Aside0.mk (HB.out.trans (hb.mono HB.out.size)); clear b0c0 b0c1 b1c0 b1c1 b2c0 b2c1 b2c2 b2c3 b3c0 b3c1; replace HK0 := Aside0.mk (blk_below HK0.out hb); replace HK1 := Aside0.mk (blk_below HK1.out hb); replace HK2 := Aside0.mk (blk_below HK2.out hb); replace HK3 := Aside0.mk (blk_below HK3.out hb); have b0c0 : w1.cell? ⟨S, 0, none⟩ = some (.int .i64 fx) := (blk_cell HK0.out 0).trans rfl; have b0c1 : w1.cell? ⟨S, 1, none⟩ = some (.int .i64 fy) := (blk_cell HK0.out 1).trans rfl; have b1c0 : w1.cell? ⟨S + 1, 0, none⟩ = some (.int .i64 tx) := (blk_cell HK1.out 0).trans rfl; have b1c1 : w1.cell? ⟨S + 1, 1, none⟩ = some (.int .i64 ty) := (blk_cell HK1.out 1).trans rfl; have b2c0 : w1.cell? ⟨S + 2, 0, none⟩ = some (.int .i64 lx) := (blk_cell HK2.out 0).trans rfl; have b2c1 : w1.cell? ⟨S + 2, 1, none⟩ = some (.int .i64 ly) := (blk_cell HK2.out 1).trans rfl; have b2c2 : w1.cell? ⟨S + 2, 2, none⟩ = some (.int .i64 ux) := (blk_cell HK2.out 2).trans rfl; have b2c3 : w1.cell? ⟨S + 2, 3, none⟩ = some (.int .i64 uy) := (blk_cell HK2.out 3).trans rfl; have b3c0 : w1.cell? ⟨S + 3, 0, none⟩ = some (.int .i64 n) := (blk_cell HK3.out 0).trans rfl; have b3c1 : w1.cell? ⟨S + 3, 1, none⟩ = some (.int .i64 d) := (blk_cell HK3.out 1).trans rfl; clear hb)
    go_ret
    refine ⟨?_, HB.out⟩
    rw [HD.out]
    rfl
end Go.Proofs.Ytcbmkhogmdkpdaa.Ring
