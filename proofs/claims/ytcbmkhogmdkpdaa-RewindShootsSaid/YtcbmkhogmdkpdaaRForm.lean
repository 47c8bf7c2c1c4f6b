import Derived.Test.YtcbmkhogmdkpdaaRPast
import Derived.Test.YtcbmkhogmdkpdaaPlainB
set_option linter.unusedVariables false
set_option linter.unusedSimpArgs false
namespace Go.Proofs.Ytcbmkhogmdkpdaa.Ring
open Go.RowKit Go.ChangeMaps Go.Proofs.YtcbmkhogmdkpdaaW.PrintWords Go.Proofs.YtcbmkhogmdkpdaaW.PrintLast Go.Proofs.YtcbmkhogmdkpdaaW.PrintMore Go.Proofs.Ytcbmkhogmdkpdaa.PRewindNone Go.Proofs.Ytcbmkhogmdkpdaa.MapI Go.Proofs.Ytcbmkhogmdkpdaa.Plain Go.Proofs.Ytcbmkhogmdkpdaa.Pure
theorem between_any (x a b : Int) (w : World) : Calls Try.prog 57 #[.int .i64 x, .int .i64 a, .int .i64 b] w fun e w' => e = .returned (.bool (decide (a ≤ x) && decide (x ≤ b))) ∧ Below w.heap.size w w' := by
  by_cases h1 : a ≤ x
  · have HD : Aside0 ((decide (a ≤ x) && decide (x ≤ b)) = decide (x ≤ b)) := ⟨by simp [h1]⟩
    go_enter Try.func57, Try.ntmps57
    go_wp2
    go_ret
    refine ⟨?_, Below.refl _ _⟩
    rw [HD.out]
    rfl
  · have HD : Aside0 ((decide (a ≤ x) && decide (x ≤ b)) = false) := ⟨by simp [h1]⟩
    go_enter Try.func57, Try.ntmps57
    go_wp2
    go_ret
    refine ⟨?_, Below.refl _ _⟩
    rw [HD.out]
    rfl
theorem formed2_any (x y : Int) (w : World) : Calls Try.prog 48 #[.agg #[.int .i64 x, .int .i64 y]] w fun e w' => e = .returned (.bool (fmd x y)) ∧ Below w.heap.size w w' := by
  have c0 := (blk_cell (blk_new w (.cells #[.int .i64 x, .int .i64 y] 28 (0, 0))) 0).trans (show _ = some (.int .i64 x) from rfl)
  have c1 := (blk_cell (blk_new w (.cells #[.int .i64 x, .int .i64 y] 28 (0, 0))) 1).trans (show _ = some (.int .i64 y) from rfl)
  have HB := Aside0.mk (below_alloc (Below.refl w.heap.size w) (.cells #[.int .i64 x, .int .i64 y] 28 (0, 0)))
  by_cases h1 : -134217728 ≤ x
  · by_cases h2 : x ≤ 134217728
    · by_cases h3 : -134217728 ≤ y
      · have HD : Aside0 (fmd x y = decide (y ≤ 134217728)) := ⟨by unfold fmd; simp [h1, h2, h3]⟩
        go_enter Try.func48, Try.ntmps48
        go_wp2
        go_ret
        refine ⟨?_, HB.out⟩
        rw [HD.out]
        rfl
      · have HD : Aside0 (fmd x y = false) := ⟨by unfold fmd; simp [h1, h2, h3]⟩
        go_enter Try.func48, Try.ntmps48
        go_wp2
        go_ret
        refine ⟨?_, HB.out⟩
        rw [HD.out]
        rfl
    · have HD : Aside0 (fmd x y = false) := ⟨by unfold fmd; simp [h1, h2]⟩
      go_enter Try.func48, Try.ntmps48
      go_wp2
      go_ret
      refine ⟨?_, HB.out⟩
      rw [HD.out]
      rfl
  · have HD : Aside0 (fmd x y = false) := ⟨by unfold fmd; simp [h1]⟩
    go_enter Try.func48, Try.ntmps48
    go_wp2
    go_ret
    refine ⟨?_, HB.out⟩
    rw [HD.out]
    rfl
theorem ways_t {v3 v4 : Value} {p q : Bool} (h3 : v3 = .bool p) (h4 : v4 = .bool q) (h : (p || q) = true) : v3 = .bool true ∨ (v3 = .bool false ∧ v4 = .bool true) := by
  cases p <;> cases q <;> simp_all
theorem ways_f {v3 v4 : Value} {p q : Bool} (h3 : v3 = .bool p) (h4 : v4 = .bool q) (h : (p || q) = false) : v3 = .bool false ∧ v4 = .bool false := by
  cases p <;> cases q <;> simp_all
def pB (a0 a1 a6 a7 : Int) : Bool := (a1 == 1) && ((decide (1 ≤ a0) && decide (a0 ≤ 8)) && ((decide (0 < a6) && (a7 == 0)) || ((a6 == 0) && decide (0 < a7))))
def bB (a0 a1 a6 a7 : Int) : Bool := (a1 == 2) && ((decide (9 ≤ a0) && decide (a0 ≤ 16)) && ((a6 == 100) && (a7 == 0)))
/-- Is an entity formed? -/
def f10 (a0 a1 a2 a3 a4 a5 a6 a7 : Int) : Bool := (pB a0 a1 a6 a7 || bB a0 a1 a6 a7) && (fmd a2 a3 && ((decide (-65536 ≤ a4) && decide (a4 ≤ 65536)) && ((decide (-65536 ≤ a5) && decide (a5 ≤ 65536)) && ((decide (0 ≤ a6) && decide (a6 ≤ 100)) && (decide (0 ≤ a7) && decide (a7 ≤ 20))))))
theorem f10_id {a0 a1 a2 a3 a4 a5 a6 a7 : Int} (h : f10 a0 a1 a2 a3 a4 a5 a6 a7 = true) : 1 ≤ a0 := by
  unfold f10 pB bB at h
  simp only [Bool.and_eq_true, Bool.or_eq_true, decide_eq_true_eq] at h
  rcases h.1 with h | h
  · exact h.2.1.1
  · have := h.2.1.1
    omega
set_option maxHeartbeats 8000000 in
set_option maxRecDepth 100000 in
theorem formed10_any (a0 a1 a2 a3 a4 a5 a6 a7 : Int) (w : World) : Calls Try.prog 42 #[.agg #[.int .i64 a0, .int .i64 a1, .int .i64 a2, .int .i64 a3, .int .i64 a4, .int .i64 a5, .int .i64 a6, .int .i64 a7]] w fun e w' => e = .returned (.bool (f10 a0 a1 a2 a3 a4 a5 a6 a7)) ∧ Below w.heap.size w w' := by
  have hS := blk_new w (.cells #[.int .i64 a0, .int .i64 a1, .int .i64 a2, .int .i64 a3, .int .i64 a4, .int .i64 a5, .int .i64 a6, .int .i64 a7] 67 (0, 0))
  have HB := Aside0.mk (below_alloc (Below.refl w.heap.size w) (.cells #[.int .i64 a0, .int .i64 a1, .int .i64 a2, .int .i64 a3, .int .i64 a4, .int .i64 a5, .int .i64 a6, .int .i64 a7] 67 (0, 0)))
  go_enter Try.func42, Try.ntmps42
  go_upto_region 1 with fail
  generalize w.alloc (.cells #[.int .i64 a0, .int .i64 a1, .int .i64 a2, .int .i64 a3, .int .i64 a4, .int .i64 a5, .int .i64 a6, .int .i64 a7] 67 (0, 0)) = W1 at *
  obtain ⟨S, hSS⟩ : ∃ S, w.heap.size = S := ⟨_, rfl⟩
  rw [hSS] at hS
  rw [hSS]
  have HSS := Aside0.mk hSS
  clear hSS
  have HS := Aside0.mk hS
  have c0 : W1.cell? ⟨S, 0, none⟩ = some (.int .i64 a0) := (blk_cell hS 0).trans rfl
  have c1 : W1.cell? ⟨S, 1, none⟩ = some (.int .i64 a1) := (blk_cell hS 1).trans rfl
  have c2 : W1.cell? ⟨S, 2, none⟩ = some (.int .i64 a2) := (blk_cell hS 2).trans rfl
  have c3 : W1.cell? ⟨S, 3, none⟩ = some (.int .i64 a3) := (blk_cell hS 3).trans rfl
  have c4 : W1.cell? ⟨S, 4, none⟩ = some (.int .i64 a4) := (blk_cell hS 4).trans rfl
  have c5 : W1.cell? ⟨S, 5, none⟩ = some (.int .i64 a5) := (blk_cell hS 5).trans rfl
  have c6 : W1.cell? ⟨S, 6, none⟩ = some (.int .i64 a6) := (blk_cell hS 6).trans rfl
  have c7 : W1.cell? ⟨S, 7, none⟩ = some (.int .i64 a7) := (blk_cell hS 7).trans rfl
  clear hS
  go_cut [0, 3] (fun _ v wx => v = .bool (pB a0 a1 a6 a7) ∧ Aside0 (Below w.heap.size w wx) ∧ Aside0 (wx.heap[S]? = some (.cells #[.int .i64 a0, .int .i64 a1, .int .i64 a2, .int .i64 a3, .int .i64 a4, .int .i64 a5, .int .i64 a6, .int .i64 a7] 67 (0, 0))))
  case first =>
    by_cases h1 : a1 = 1
    · by_cases h2 : 1 ≤ a0 ∧ a0 ≤ 8
      · have hbt : (decide (1 ≤ a0) && decide (a0 ≤ 8)) = true := by simp [h2.1, h2.2]
        by_cases h3 : 0 < a6
        · by_cases h4 : a7 = 0
          · go_wp2_with (go_at_call 57; (with_reducible refine (between_any a0 1 8 _).mono ?_); rintro e wn ⟨he, hb⟩; (try rw [hbt] at he); subst he; have hb_ := HB.out.trans (hb.mono HB.out.size); have hs_ := blk_below (g := S) (o := .cells #[.int .i64 a0, .int .i64 a1, .int .i64 a2, .int .i64 a3, .int .i64 a4, .int .i64 a5, .int .i64 a6, .int .i64 a7] 67 (0, 0)) HS.out hb; clear HB HS; (try clear c0 c1 c2 c3 c4 c5 c6 c7); have HB := Aside0.mk hb_; have HS := Aside0.mk hs_; have c0 : wn.cell? ⟨S, 0, none⟩ = some (.int .i64 a0) := (blk_cell hs_ 0).trans rfl; have c1 : wn.cell? ⟨S, 1, none⟩ = some (.int .i64 a1) := (blk_cell hs_ 1).trans rfl; have c2 : wn.cell? ⟨S, 2, none⟩ = some (.int .i64 a2) := (blk_cell hs_ 2).trans rfl; have c3 : wn.cell? ⟨S, 3, none⟩ = some (.int .i64 a3) := (blk_cell hs_ 3).trans rfl; have c4 : wn.cell? ⟨S, 4, none⟩ = some (.int .i64 a4) := (blk_cell hs_ 4).trans rfl; have c5 : wn.cell? ⟨S, 5, none⟩ = some (.int .i64 a5) := (blk_cell hs_ 5).trans rfl; have c6 : wn.cell? ⟨S, 6, none⟩ = some (.int .i64 a6) := (blk_cell hs_ 6).trans rfl; have c7 : wn.cell? ⟨S, 7, none⟩ = some (.int .i64 a7) := (blk_cell hs_ 7).trans rfl; clear hb hb_ hs_)
            go_meet
            exact ⟨(by first | (unfold pB; simp [*]; done) | (unfold pB; simp [*]; omega) | (unfold pB; simp [*]; intros; omega)), HB, HS⟩
          · have h5 : ¬ a6 = 0 := by omega
            go_wp2_with (go_at_call 57; (with_reducible refine (between_any a0 1 8 _).mono ?_); rintro e wn ⟨he, hb⟩; (try rw [hbt] at he); subst he; have hb_ := HB.out.trans (hb.mono HB.out.size); have hs_ := blk_below (g := S) (o := .cells #[.int .i64 a0, .int .i64 a1, .int .i64 a2, .int .i64 a3, .int .i64 a4, .int .i64 a5, .int .i64 a6, .int .i64 a7] 67 (0, 0)) HS.out hb; clear HB HS; (try clear c0 c1 c2 c3 c4 c5 c6 c7); have HB := Aside0.mk hb_; have HS := Aside0.mk hs_; have c0 : wn.cell? ⟨S, 0, none⟩ = some (.int .i64 a0) := (blk_cell hs_ 0).trans rfl; have c1 : wn.cell? ⟨S, 1, none⟩ = some (.int .i64 a1) := (blk_cell hs_ 1).trans rfl; have c2 : wn.cell? ⟨S, 2, none⟩ = some (.int .i64 a2) := (blk_cell hs_ 2).trans rfl; have c3 : wn.cell? ⟨S, 3, none⟩ = some (.int .i64 a3) := (blk_cell hs_ 3).trans rfl; have c4 : wn.cell? ⟨S, 4, none⟩ = some (.int .i64 a4) := (blk_cell hs_ 4).trans rfl; have c5 : wn.cell? ⟨S, 5, none⟩ = some (.int .i64 a5) := (blk_cell hs_ 5).trans rfl; have c6 : wn.cell? ⟨S, 6, none⟩ = some (.int .i64 a6) := (blk_cell hs_ 6).trans rfl; have c7 : wn.cell? ⟨S, 7, none⟩ = some (.int .i64 a7) := (blk_cell hs_ 7).trans rfl; clear hb hb_ hs_)
            go_meet
            exact ⟨(by first | (unfold pB; simp [*]; done) | (unfold pB; simp [*]; omega) | (unfold pB; simp [*]; intros; omega)), HB, HS⟩
        · by_cases h5 : a6 = 0
          · go_wp2_with (go_at_call 57; (with_reducible refine (between_any a0 1 8 _).mono ?_); rintro e wn ⟨he, hb⟩; (try rw [hbt] at he); subst he; have hb_ := HB.out.trans (hb.mono HB.out.size); have hs_ := blk_below (g := S) (o := .cells #[.int .i64 a0, .int .i64 a1, .int .i64 a2, .int .i64 a3, .int .i64 a4, .int .i64 a5, .int .i64 a6, .int .i64 a7] 67 (0, 0)) HS.out hb; clear HB HS; (try clear c0 c1 c2 c3 c4 c5 c6 c7); have HB := Aside0.mk hb_; have HS := Aside0.mk hs_; have c0 : wn.cell? ⟨S, 0, none⟩ = some (.int .i64 a0) := (blk_cell hs_ 0).trans rfl; have c1 : wn.cell? ⟨S, 1, none⟩ = some (.int .i64 a1) := (blk_cell hs_ 1).trans rfl; have c2 : wn.cell? ⟨S, 2, none⟩ = some (.int .i64 a2) := (blk_cell hs_ 2).trans rfl; have c3 : wn.cell? ⟨S, 3, none⟩ = some (.int .i64 a3) := (blk_cell hs_ 3).trans rfl; have c4 : wn.cell? ⟨S, 4, none⟩ = some (.int .i64 a4) := (blk_cell hs_ 4).trans rfl; have c5 : wn.cell? ⟨S, 5, none⟩ = some (.int .i64 a5) := (blk_cell hs_ 5).trans rfl; have c6 : wn.cell? ⟨S, 6, none⟩ = some (.int .i64 a6) := (blk_cell hs_ 6).trans rfl; have c7 : wn.cell? ⟨S, 7, none⟩ = some (.int .i64 a7) := (blk_cell hs_ 7).trans rfl; clear hb hb_ hs_)
            go_meet
            exact ⟨(by first | (unfold pB; simp [*]; done) | (unfold pB; simp [*]; omega) | (unfold pB; simp [*]; intros; omega)), HB, HS⟩
          · go_wp2_with (go_at_call 57; (with_reducible refine (between_any a0 1 8 _).mono ?_); rintro e wn ⟨he, hb⟩; (try rw [hbt] at he); subst he; have hb_ := HB.out.trans (hb.mono HB.out.size); have hs_ := blk_below (g := S) (o := .cells #[.int .i64 a0, .int .i64 a1, .int .i64 a2, .int .i64 a3, .int .i64 a4, .int .i64 a5, .int .i64 a6, .int .i64 a7] 67 (0, 0)) HS.out hb; clear HB HS; (try clear c0 c1 c2 c3 c4 c5 c6 c7); have HB := Aside0.mk hb_; have HS := Aside0.mk hs_; have c0 : wn.cell? ⟨S, 0, none⟩ = some (.int .i64 a0) := (blk_cell hs_ 0).trans rfl; have c1 : wn.cell? ⟨S, 1, none⟩ = some (.int .i64 a1) := (blk_cell hs_ 1).trans rfl; have c2 : wn.cell? ⟨S, 2, none⟩ = some (.int .i64 a2) := (blk_cell hs_ 2).trans rfl; have c3 : wn.cell? ⟨S, 3, none⟩ = some (.int .i64 a3) := (blk_cell hs_ 3).trans rfl; have c4 : wn.cell? ⟨S, 4, none⟩ = some (.int .i64 a4) := (blk_cell hs_ 4).trans rfl; have c5 : wn.cell? ⟨S, 5, none⟩ = some (.int .i64 a5) := (blk_cell hs_ 5).trans rfl; have c6 : wn.cell? ⟨S, 6, none⟩ = some (.int .i64 a6) := (blk_cell hs_ 6).trans rfl; have c7 : wn.cell? ⟨S, 7, none⟩ = some (.int .i64 a7) := (blk_cell hs_ 7).trans rfl; clear hb hb_ hs_)
            go_meet
            exact ⟨(by first | (unfold pB; simp [*]; done) | (unfold pB; simp [*]; omega) | (unfold pB; simp [*]; intros; omega)), HB, HS⟩
      · have hbt : (decide (1 ≤ a0) && decide (a0 ≤ 8)) = false := by simpa using h2
        go_wp2_with (go_at_call 57; (with_reducible refine (between_any a0 1 8 _).mono ?_); rintro e wn ⟨he, hb⟩; (try rw [hbt] at he); subst he; have hb_ := HB.out.trans (hb.mono HB.out.size); have hs_ := blk_below (g := S) (o := .cells #[.int .i64 a0, .int .i64 a1, .int .i64 a2, .int .i64 a3, .int .i64 a4, .int .i64 a5, .int .i64 a6, .int .i64 a7] 67 (0, 0)) HS.out hb; clear HB HS; (try clear c0 c1 c2 c3 c4 c5 c6 c7); have HB := Aside0.mk hb_; have HS := Aside0.mk hs_; have c0 : wn.cell? ⟨S, 0, none⟩ = some (.int .i64 a0) := (blk_cell hs_ 0).trans rfl; have c1 : wn.cell? ⟨S, 1, none⟩ = some (.int .i64 a1) := (blk_cell hs_ 1).trans rfl; have c2 : wn.cell? ⟨S, 2, none⟩ = some (.int .i64 a2) := (blk_cell hs_ 2).trans rfl; have c3 : wn.cell? ⟨S, 3, none⟩ = some (.int .i64 a3) := (blk_cell hs_ 3).trans rfl; have c4 : wn.cell? ⟨S, 4, none⟩ = some (.int .i64 a4) := (blk_cell hs_ 4).trans rfl; have c5 : wn.cell? ⟨S, 5, none⟩ = some (.int .i64 a5) := (blk_cell hs_ 5).trans rfl; have c6 : wn.cell? ⟨S, 6, none⟩ = some (.int .i64 a6) := (blk_cell hs_ 6).trans rfl; have c7 : wn.cell? ⟨S, 7, none⟩ = some (.int .i64 a7) := (blk_cell hs_ 7).trans rfl; clear hb hb_ hs_)
        go_meet
        exact ⟨(by first | (unfold pB; simp [*]; done) | (unfold pB; simp [*]; omega) | (unfold pB; simp [*]; intros; omega)), HB, HS⟩
    · go_wp2_with fail
      go_meet
      exact ⟨(by first | (unfold pB; simp [*]; done) | (unfold pB; simp [*]; omega) | (unfold pB; simp [*]; intros; omega)), HB, HS⟩
  case rest =>
    obtain ⟨hv3, HB', HS'⟩ := hcut
    have HV3 := Aside0.mk hv3
    clear hv3 HB HS c0 c1 c2 c3 c4 c5 c6 c7
    have HB := HB'
    have HS := HS'
    clear HB' HS'
    have hS := HS.out
    have c0 : wc.cell? ⟨S, 0, none⟩ = some (.int .i64 a0) := (blk_cell hS 0).trans rfl
    have c1 : wc.cell? ⟨S, 1, none⟩ = some (.int .i64 a1) := (blk_cell hS 1).trans rfl
    have c2 : wc.cell? ⟨S, 2, none⟩ = some (.int .i64 a2) := (blk_cell hS 2).trans rfl
    have c3 : wc.cell? ⟨S, 3, none⟩ = some (.int .i64 a3) := (blk_cell hS 3).trans rfl
    have c4 : wc.cell? ⟨S, 4, none⟩ = some (.int .i64 a4) := (blk_cell hS 4).trans rfl
    have c5 : wc.cell? ⟨S, 5, none⟩ = some (.int .i64 a5) := (blk_cell hS 5).trans rfl
    have c6 : wc.cell? ⟨S, 6, none⟩ = some (.int .i64 a6) := (blk_cell hS 6).trans rfl
    have c7 : wc.cell? ⟨S, 7, none⟩ = some (.int .i64 a7) := (blk_cell hS 7).trans rfl
    clear hS
    go_upto_region 2 with fail
    go_cut [0, 4] (fun _ v wx => v = .bool (bB a0 a1 a6 a7) ∧ Aside0 (Below w.heap.size w wx) ∧ Aside0 (wx.heap[S]? = some (.cells #[.int .i64 a0, .int .i64 a1, .int .i64 a2, .int .i64 a3, .int .i64 a4, .int .i64 a5, .int .i64 a6, .int .i64 a7] 67 (0, 0))))
    case first =>
      by_cases h1 : a1 = 2
      · by_cases h2 : 9 ≤ a0 ∧ a0 ≤ 16
        · have hbt : (decide (9 ≤ a0) && decide (a0 ≤ 16)) = true := by simp [h2.1, h2.2]
          by_cases h3 : a6 = 100
          · go_wp2_with (go_at_call 57; (with_reducible refine (between_any a0 9 16 _).mono ?_); rintro e wn ⟨he, hb⟩; (try rw [hbt] at he); subst he; have hb_ := HB.out.trans (hb.mono HB.out.size); have hs_ := blk_below (g := S) (o := .cells #[.int .i64 a0, .int .i64 a1, .int .i64 a2, .int .i64 a3, .int .i64 a4, .int .i64 a5, .int .i64 a6, .int .i64 a7] 67 (0, 0)) HS.out hb; clear HB HS; (try clear c0 c1 c2 c3 c4 c5 c6 c7); have HB := Aside0.mk hb_; have HS := Aside0.mk hs_; have c0 : wn.cell? ⟨S, 0, none⟩ = some (.int .i64 a0) := (blk_cell hs_ 0).trans rfl; have c1 : wn.cell? ⟨S, 1, none⟩ = some (.int .i64 a1) := (blk_cell hs_ 1).trans rfl; have c2 : wn.cell? ⟨S, 2, none⟩ = some (.int .i64 a2) := (blk_cell hs_ 2).trans rfl; have c3 : wn.cell? ⟨S, 3, none⟩ = some (.int .i64 a3) := (blk_cell hs_ 3).trans rfl; have c4 : wn.cell? ⟨S, 4, none⟩ = some (.int .i64 a4) := (blk_cell hs_ 4).trans rfl; have c5 : wn.cell? ⟨S, 5, none⟩ = some (.int .i64 a5) := (blk_cell hs_ 5).trans rfl; have c6 : wn.cell? ⟨S, 6, none⟩ = some (.int .i64 a6) := (blk_cell hs_ 6).trans rfl; have c7 : wn.cell? ⟨S, 7, none⟩ = some (.int .i64 a7) := (blk_cell hs_ 7).trans rfl; clear hb hb_ hs_)
            go_meet
            exact ⟨(by first | (unfold bB; simp [*]; done) | (unfold bB; simp [*]; omega)), HB, HS⟩
          · go_wp2_with (go_at_call 57; (with_reducible refine (between_any a0 9 16 _).mono ?_); rintro e wn ⟨he, hb⟩; (try rw [hbt] at he); subst he; have hb_ := HB.out.trans (hb.mono HB.out.size); have hs_ := blk_below (g := S) (o := .cells #[.int .i64 a0, .int .i64 a1, .int .i64 a2, .int .i64 a3, .int .i64 a4, .int .i64 a5, .int .i64 a6, .int .i64 a7] 67 (0, 0)) HS.out hb; clear HB HS; (try clear c0 c1 c2 c3 c4 c5 c6 c7); have HB := Aside0.mk hb_; have HS := Aside0.mk hs_; have c0 : wn.cell? ⟨S, 0, none⟩ = some (.int .i64 a0) := (blk_cell hs_ 0).trans rfl; have c1 : wn.cell? ⟨S, 1, none⟩ = some (.int .i64 a1) := (blk_cell hs_ 1).trans rfl; have c2 : wn.cell? ⟨S, 2, none⟩ = some (.int .i64 a2) := (blk_cell hs_ 2).trans rfl; have c3 : wn.cell? ⟨S, 3, none⟩ = some (.int .i64 a3) := (blk_cell hs_ 3).trans rfl; have c4 : wn.cell? ⟨S, 4, none⟩ = some (.int .i64 a4) := (blk_cell hs_ 4).trans rfl; have c5 : wn.cell? ⟨S, 5, none⟩ = some (.int .i64 a5) := (blk_cell hs_ 5).trans rfl; have c6 : wn.cell? ⟨S, 6, none⟩ = some (.int .i64 a6) := (blk_cell hs_ 6).trans rfl; have c7 : wn.cell? ⟨S, 7, none⟩ = some (.int .i64 a7) := (blk_cell hs_ 7).trans rfl; clear hb hb_ hs_)
            go_meet
            exact ⟨(by first | (unfold bB; simp [*]; done) | (unfold bB; simp [*]; omega)), HB, HS⟩
        · have hbt : (decide (9 ≤ a0) && decide (a0 ≤ 16)) = false := by simpa using h2
          go_wp2_with (go_at_call 57; (with_reducible refine (between_any a0 9 16 _).mono ?_); rintro e wn ⟨he, hb⟩; (try rw [hbt] at he); subst he; have hb_ := HB.out.trans (hb.mono HB.out.size); have hs_ := blk_below (g := S) (o := .cells #[.int .i64 a0, .int .i64 a1, .int .i64 a2, .int .i64 a3, .int .i64 a4, .int .i64 a5, .int .i64 a6, .int .i64 a7] 67 (0, 0)) HS.out hb; clear HB HS; (try clear c0 c1 c2 c3 c4 c5 c6 c7); have HB := Aside0.mk hb_; have HS := Aside0.mk hs_; have c0 : wn.cell? ⟨S, 0, none⟩ = some (.int .i64 a0) := (blk_cell hs_ 0).trans rfl; have c1 : wn.cell? ⟨S, 1, none⟩ = some (.int .i64 a1) := (blk_cell hs_ 1).trans rfl; have c2 : wn.cell? ⟨S, 2, none⟩ = some (.int .i64 a2) := (blk_cell hs_ 2).trans rfl; have c3 : wn.cell? ⟨S, 3, none⟩ = some (.int .i64 a3) := (blk_cell hs_ 3).trans rfl; have c4 : wn.cell? ⟨S, 4, none⟩ = some (.int .i64 a4) := (blk_cell hs_ 4).trans rfl; have c5 : wn.cell? ⟨S, 5, none⟩ = some (.int .i64 a5) := (blk_cell hs_ 5).trans rfl; have c6 : wn.cell? ⟨S, 6, none⟩ = some (.int .i64 a6) := (blk_cell hs_ 6).trans rfl; have c7 : wn.cell? ⟨S, 7, none⟩ = some (.int .i64 a7) := (blk_cell hs_ 7).trans rfl; clear hb hb_ hs_)
          go_meet
          exact ⟨(by first | (unfold bB; simp [*]; done) | (unfold bB; simp [*]; omega)), HB, HS⟩
      · go_wp2_with fail
        go_meet
        exact ⟨(by first | (unfold bB; simp [*]; done) | (unfold bB; simp [*]; omega)), HB, HS⟩
    case rest =>
      obtain ⟨hv4, HB', HS'⟩ := hcut
      clear HB HS c0 c1 c2 c3 c4 c5 c6 c7
      have HB := HB'
      have HS := HS'
      clear HB' HS'
      have hS := HS.out
      have c0 : wc.cell? ⟨S, 0, none⟩ = some (.int .i64 a0) := (blk_cell hS 0).trans rfl
      have c1 : wc.cell? ⟨S, 1, none⟩ = some (.int .i64 a1) := (blk_cell hS 1).trans rfl
      have c2 : wc.cell? ⟨S, 2, none⟩ = some (.int .i64 a2) := (blk_cell hS 2).trans rfl
      have c3 : wc.cell? ⟨S, 3, none⟩ = some (.int .i64 a3) := (blk_cell hS 3).trans rfl
      have c4 : wc.cell? ⟨S, 4, none⟩ = some (.int .i64 a4) := (blk_cell hS 4).trans rfl
      have c5 : wc.cell? ⟨S, 5, none⟩ = some (.int .i64 a5) := (blk_cell hS 5).trans rfl
      have c6 : wc.cell? ⟨S, 6, none⟩ = some (.int .i64 a6) := (blk_cell hS 6).trans rfl
      have c7 : wc.cell? ⟨S, 7, none⟩ = some (.int .i64 a7) := (blk_cell hS 7).trans rfl
      clear hS
      have HV4 := Aside0.mk hv4
      clear hv4
      cases hpq : (pB a0 a1 a6 a7 || bB a0 a1 a6 a7) with
      | false =>
        obtain ⟨h3, h4⟩ := ways_f HV3.out HV4.out hpq
        have HF : Aside0 (f10 a0 a1 a2 a3 a4 a5 a6 a7 = false) := ⟨by unfold f10; rw [hpq]; rfl⟩
        clear hpq HV3 HV4
        subst h3
        subst h4
        go_wp2_with fail
        go_ret
        refine ⟨?_, HB.out⟩
        rw [HF.out]
        rfl
      | true =>
        have hw := ways_t HV3.out HV4.out hpq
        have HI := Aside0.mk hpq
        clear hpq HV3 HV4
        rcases hw with rfl | ⟨rfl, rfl⟩
        all_goals
          cases hb0 : fmd a2 a3 with
          | false =>
            have HF0 : Aside0 (f10 a0 a1 a2 a3 a4 a5 a6 a7 = false) := ⟨by unfold f10; rw [HI.out, hb0]; rfl⟩
            go_wp2_with (first | (go_at_call 48; (with_reducible refine (formed2_any a2 a3 _).mono ?_); rintro e wn ⟨he, hb⟩; rw [hb0] at he; subst he; have hb_ := HB.out.trans (hb.mono HB.out.size); have hs_ := blk_below (g := S) (o := .cells #[.int .i64 a0, .int .i64 a1, .int .i64 a2, .int .i64 a3, .int .i64 a4, .int .i64 a5, .int .i64 a6, .int .i64 a7] 67 (0, 0)) HS.out hb; clear HB HS; (try clear c0 c1 c2 c3 c4 c5 c6 c7); have HB := Aside0.mk hb_; have HS := Aside0.mk hs_; have c0 : wn.cell? ⟨S, 0, none⟩ = some (.int .i64 a0) := (blk_cell hs_ 0).trans rfl; have c1 : wn.cell? ⟨S, 1, none⟩ = some (.int .i64 a1) := (blk_cell hs_ 1).trans rfl; have c2 : wn.cell? ⟨S, 2, none⟩ = some (.int .i64 a2) := (blk_cell hs_ 2).trans rfl; have c3 : wn.cell? ⟨S, 3, none⟩ = some (.int .i64 a3) := (blk_cell hs_ 3).trans rfl; have c4 : wn.cell? ⟨S, 4, none⟩ = some (.int .i64 a4) := (blk_cell hs_ 4).trans rfl; have c5 : wn.cell? ⟨S, 5, none⟩ = some (.int .i64 a5) := (blk_cell hs_ 5).trans rfl; have c6 : wn.cell? ⟨S, 6, none⟩ = some (.int .i64 a6) := (blk_cell hs_ 6).trans rfl; have c7 : wn.cell? ⟨S, 7, none⟩ = some (.int .i64 a7) := (blk_cell hs_ 7).trans rfl; clear hb hb_ hs_))
            go_ret
            refine ⟨?_, HB.out⟩
            rw [HF0.out]
            rfl
          | true =>
            cases hb1 : (decide (-65536 ≤ a4) && decide (a4 ≤ 65536)) with
            | false =>
              have HF1 : Aside0 (f10 a0 a1 a2 a3 a4 a5 a6 a7 = false) := ⟨by unfold f10; rw [HI.out, hb0, hb1]; rfl⟩
              go_wp2_with (first | (go_at_call 48; (with_reducible refine (formed2_any a2 a3 _).mono ?_); rintro e wn ⟨he, hb⟩; rw [hb0] at he; subst he; have hb_ := HB.out.trans (hb.mono HB.out.size); have hs_ := blk_below (g := S) (o := .cells #[.int .i64 a0, .int .i64 a1, .int .i64 a2, .int .i64 a3, .int .i64 a4, .int .i64 a5, .int .i64 a6, .int .i64 a7] 67 (0, 0)) HS.out hb; clear HB HS; (try clear c0 c1 c2 c3 c4 c5 c6 c7); have HB := Aside0.mk hb_; have HS := Aside0.mk hs_; have c0 : wn.cell? ⟨S, 0, none⟩ = some (.int .i64 a0) := (blk_cell hs_ 0).trans rfl; have c1 : wn.cell? ⟨S, 1, none⟩ = some (.int .i64 a1) := (blk_cell hs_ 1).trans rfl; have c2 : wn.cell? ⟨S, 2, none⟩ = some (.int .i64 a2) := (blk_cell hs_ 2).trans rfl; have c3 : wn.cell? ⟨S, 3, none⟩ = some (.int .i64 a3) := (blk_cell hs_ 3).trans rfl; have c4 : wn.cell? ⟨S, 4, none⟩ = some (.int .i64 a4) := (blk_cell hs_ 4).trans rfl; have c5 : wn.cell? ⟨S, 5, none⟩ = some (.int .i64 a5) := (blk_cell hs_ 5).trans rfl; have c6 : wn.cell? ⟨S, 6, none⟩ = some (.int .i64 a6) := (blk_cell hs_ 6).trans rfl; have c7 : wn.cell? ⟨S, 7, none⟩ = some (.int .i64 a7) := (blk_cell hs_ 7).trans rfl; clear hb hb_ hs_) | (go_at_call 57; (with_reducible refine (between_any a4 (-65536) 65536 _).mono ?_); rintro e wn ⟨he, hb⟩; rw [hb1] at he; subst he; have hb_ := HB.out.trans (hb.mono HB.out.size); have hs_ := blk_below (g := S) (o := .cells #[.int .i64 a0, .int .i64 a1, .int .i64 a2, .int .i64 a3, .int .i64 a4, .int .i64 a5, .int .i64 a6, .int .i64 a7] 67 (0, 0)) HS.out hb; clear HB HS; (try clear c0 c1 c2 c3 c4 c5 c6 c7); have HB := Aside0.mk hb_; have HS := Aside0.mk hs_; have c0 : wn.cell? ⟨S, 0, none⟩ = some (.int .i64 a0) := (blk_cell hs_ 0).trans rfl; have c1 : wn.cell? ⟨S, 1, none⟩ = some (.int .i64 a1) := (blk_cell hs_ 1).trans rfl; have c2 : wn.cell? ⟨S, 2, none⟩ = some (.int .i64 a2) := (blk_cell hs_ 2).trans rfl; have c3 : wn.cell? ⟨S, 3, none⟩ = some (.int .i64 a3) := (blk_cell hs_ 3).trans rfl; have c4 : wn.cell? ⟨S, 4, none⟩ = some (.int .i64 a4) := (blk_cell hs_ 4).trans rfl; have c5 : wn.cell? ⟨S, 5, none⟩ = some (.int .i64 a5) := (blk_cell hs_ 5).trans rfl; have c6 : wn.cell? ⟨S, 6, none⟩ = some (.int .i64 a6) := (blk_cell hs_ 6).trans rfl; have c7 : wn.cell? ⟨S, 7, none⟩ = some (.int .i64 a7) := (blk_cell hs_ 7).trans rfl; clear hb hb_ hs_))
              go_ret
              refine ⟨?_, HB.out⟩
              rw [HF1.out]
              rfl
            | true =>
              cases hb2 : (decide (-65536 ≤ a5) && decide (a5 ≤ 65536)) with
              | false =>
                have HF2 : Aside0 (f10 a0 a1 a2 a3 a4 a5 a6 a7 = false) := ⟨by unfold f10; rw [HI.out, hb0, hb1, hb2]; rfl⟩
                go_wp2_with (first | (go_at_call 48; (with_reducible refine (formed2_any a2 a3 _).mono ?_); rintro e wn ⟨he, hb⟩; rw [hb0] at he; subst he; have hb_ := HB.out.trans (hb.mono HB.out.size); have hs_ := blk_below (g := S) (o := .cells #[.int .i64 a0, .int .i64 a1, .int .i64 a2, .int .i64 a3, .int .i64 a4, .int .i64 a5, .int .i64 a6, .int .i64 a7] 67 (0, 0)) HS.out hb; clear HB HS; (try clear c0 c1 c2 c3 c4 c5 c6 c7); have HB := Aside0.mk hb_; have HS := Aside0.mk hs_; have c0 : wn.cell? ⟨S, 0, none⟩ = some (.int .i64 a0) := (blk_cell hs_ 0).trans rfl; have c1 : wn.cell? ⟨S, 1, none⟩ = some (.int .i64 a1) := (blk_cell hs_ 1).trans rfl; have c2 : wn.cell? ⟨S, 2, none⟩ = some (.int .i64 a2) := (blk_cell hs_ 2).trans rfl; have c3 : wn.cell? ⟨S, 3, none⟩ = some (.int .i64 a3) := (blk_cell hs_ 3).trans rfl; have c4 : wn.cell? ⟨S, 4, none⟩ = some (.int .i64 a4) := (blk_cell hs_ 4).trans rfl; have c5 : wn.cell? ⟨S, 5, none⟩ = some (.int .i64 a5) := (blk_cell hs_ 5).trans rfl; have c6 : wn.cell? ⟨S, 6, none⟩ = some (.int .i64 a6) := (blk_cell hs_ 6).trans rfl; have c7 : wn.cell? ⟨S, 7, none⟩ = some (.int .i64 a7) := (blk_cell hs_ 7).trans rfl; clear hb hb_ hs_) | (go_at_call 57; (with_reducible refine (between_any a4 (-65536) 65536 _).mono ?_); rintro e wn ⟨he, hb⟩; rw [hb1] at he; subst he; have hb_ := HB.out.trans (hb.mono HB.out.size); have hs_ := blk_below (g := S) (o := .cells #[.int .i64 a0, .int .i64 a1, .int .i64 a2, .int .i64 a3, .int .i64 a4, .int .i64 a5, .int .i64 a6, .int .i64 a7] 67 (0, 0)) HS.out hb; clear HB HS; (try clear c0 c1 c2 c3 c4 c5 c6 c7); have HB := Aside0.mk hb_; have HS := Aside0.mk hs_; have c0 : wn.cell? ⟨S, 0, none⟩ = some (.int .i64 a0) := (blk_cell hs_ 0).trans rfl; have c1 : wn.cell? ⟨S, 1, none⟩ = some (.int .i64 a1) := (blk_cell hs_ 1).trans rfl; have c2 : wn.cell? ⟨S, 2, none⟩ = some (.int .i64 a2) := (blk_cell hs_ 2).trans rfl; have c3 : wn.cell? ⟨S, 3, none⟩ = some (.int .i64 a3) := (blk_cell hs_ 3).trans rfl; have c4 : wn.cell? ⟨S, 4, none⟩ = some (.int .i64 a4) := (blk_cell hs_ 4).trans rfl; have c5 : wn.cell? ⟨S, 5, none⟩ = some (.int .i64 a5) := (blk_cell hs_ 5).trans rfl; have c6 : wn.cell? ⟨S, 6, none⟩ = some (.int .i64 a6) := (blk_cell hs_ 6).trans rfl; have c7 : wn.cell? ⟨S, 7, none⟩ = some (.int .i64 a7) := (blk_cell hs_ 7).trans rfl; clear hb hb_ hs_) | (go_at_call 57; (with_reducible refine (between_any a5 (-65536) 65536 _).mono ?_); rintro e wn ⟨he, hb⟩; rw [hb2] at he; subst he; have hb_ := HB.out.trans (hb.mono HB.out.size); have hs_ := blk_below (g := S) (o := .cells #[.int .i64 a0, .int .i64 a1, .int .i64 a2, .int .i64 a3, .int .i64 a4, .int .i64 a5, .int .i64 a6, .int .i64 a7] 67 (0, 0)) HS.out hb; clear HB HS; (try clear c0 c1 c2 c3 c4 c5 c6 c7); have HB := Aside0.mk hb_; have HS := Aside0.mk hs_; have c0 : wn.cell? ⟨S, 0, none⟩ = some (.int .i64 a0) := (blk_cell hs_ 0).trans rfl; have c1 : wn.cell? ⟨S, 1, none⟩ = some (.int .i64 a1) := (blk_cell hs_ 1).trans rfl; have c2 : wn.cell? ⟨S, 2, none⟩ = some (.int .i64 a2) := (blk_cell hs_ 2).trans rfl; have c3 : wn.cell? ⟨S, 3, none⟩ = some (.int .i64 a3) := (blk_cell hs_ 3).trans rfl; have c4 : wn.cell? ⟨S, 4, none⟩ = some (.int .i64 a4) := (blk_cell hs_ 4).trans rfl; have c5 : wn.cell? ⟨S, 5, none⟩ = some (.int .i64 a5) := (blk_cell hs_ 5).trans rfl; have c6 : wn.cell? ⟨S, 6, none⟩ = some (.int .i64 a6) := (blk_cell hs_ 6).trans rfl; have c7 : wn.cell? ⟨S, 7, none⟩ = some (.int .i64 a7) := (blk_cell hs_ 7).trans rfl; clear hb hb_ hs_))
                go_ret
                refine ⟨?_, HB.out⟩
                rw [HF2.out]
                rfl
              | true =>
                cases hb3 : (decide (0 ≤ a6) && decide (a6 ≤ 100)) with
                | false =>
                  have HF3 : Aside0 (f10 a0 a1 a2 a3 a4 a5 a6 a7 = false) := ⟨by unfold f10; rw [HI.out, hb0, hb1, hb2, hb3]; rfl⟩
                  go_wp2_with (first | (go_at_call 48; (with_reducible refine (formed2_any a2 a3 _).mono ?_); rintro e wn ⟨he, hb⟩; rw [hb0] at he; subst he; have hb_ := HB.out.trans (hb.mono HB.out.size); have hs_ := blk_below (g := S) (o := .cells #[.int .i64 a0, .int .i64 a1, .int .i64 a2, .int .i64 a3, .int .i64 a4, .int .i64 a5, .int .i64 a6, .int .i64 a7] 67 (0, 0)) HS.out hb; clear HB HS; (try clear c0 c1 c2 c3 c4 c5 c6 c7); have HB := Aside0.mk hb_; have HS := Aside0.mk hs_; have c0 : wn.cell? ⟨S, 0, none⟩ = some (.int .i64 a0) := (blk_cell hs_ 0).trans rfl; have c1 : wn.cell? ⟨S, 1, none⟩ = some (.int .i64 a1) := (blk_cell hs_ 1).trans rfl; have c2 : wn.cell? ⟨S, 2, none⟩ = some (.int .i64 a2) := (blk_cell hs_ 2).trans rfl; have c3 : wn.cell? ⟨S, 3, none⟩ = some (.int .i64 a3) := (blk_cell hs_ 3).trans rfl; have c4 : wn.cell? ⟨S, 4, none⟩ = some (.int .i64 a4) := (blk_cell hs_ 4).trans rfl; have c5 : wn.cell? ⟨S, 5, none⟩ = some (.int .i64 a5) := (blk_cell hs_ 5).trans rfl; have c6 : wn.cell? ⟨S, 6, none⟩ = some (.int .i64 a6) := (blk_cell hs_ 6).trans rfl; have c7 : wn.cell? ⟨S, 7, none⟩ = some (.int .i64 a7) := (blk_cell hs_ 7).trans rfl; clear hb hb_ hs_) | (go_at_call 57; (with_reducible refine (between_any a4 (-65536) 65536 _).mono ?_); rintro e wn ⟨he, hb⟩; rw [hb1] at he; subst he; have hb_ := HB.out.trans (hb.mono HB.out.size); have hs_ := blk_below (g := S) (o := .cells #[.int .i64 a0, .int .i64 a1, .int .i64 a2, .int .i64 a3, .int .i64 a4, .int .i64 a5, .int .i64 a6, .int .i64 a7] 67 (0, 0)) HS.out hb; clear HB HS; (try clear c0 c1 c2 c3 c4 c5 c6 c7); have HB := Aside0.mk hb_; have HS := Aside0.mk hs_; have c0 : wn.cell? ⟨S, 0, none⟩ = some (.int .i64 a0) := (blk_cell hs_ 0).trans rfl; have c1 : wn.cell? ⟨S, 1, none⟩ = some (.int .i64 a1) := (blk_cell hs_ 1).trans rfl; have c2 : wn.cell? ⟨S, 2, none⟩ = some (.int .i64 a2) := (blk_cell hs_ 2).trans rfl; have c3 : wn.cell? ⟨S, 3, none⟩ = some (.int .i64 a3) := (blk_cell hs_ 3).trans rfl; have c4 : wn.cell? ⟨S, 4, none⟩ = some (.int .i64 a4) := (blk_cell hs_ 4).trans rfl; have c5 : wn.cell? ⟨S, 5, none⟩ = some (.int .i64 a5) := (blk_cell hs_ 5).trans rfl; have c6 : wn.cell? ⟨S, 6, none⟩ = some (.int .i64 a6) := (blk_cell hs_ 6).trans rfl; have c7 : wn.cell? ⟨S, 7, none⟩ = some (.int .i64 a7) := (blk_cell hs_ 7).trans rfl; clear hb hb_ hs_) | (go_at_call 57; (with_reducible refine (between_any a5 (-65536) 65536 _).mono ?_); rintro e wn ⟨he, hb⟩; rw [hb2] at he; subst he; have hb_ := HB.out.trans (hb.mono HB.out.size); have hs_ := blk_below (g := S) (o := .cells #[.int .i64 a0, .int .i64 a1, .int .i64 a2, .int .i64 a3, .int .i64 a4, .int .i64 a5, .int .i64 a6, .int .i64 a7] 67 (0, 0)) HS.out hb; clear HB HS; (try clear c0 c1 c2 c3 c4 c5 c6 c7); have HB := Aside0.mk hb_; have HS := Aside0.mk hs_; have c0 : wn.cell? ⟨S, 0, none⟩ = some (.int .i64 a0) := (blk_cell hs_ 0).trans rfl; have c1 : wn.cell? ⟨S, 1, none⟩ = some (.int .i64 a1) := (blk_cell hs_ 1).trans rfl; have c2 : wn.cell? ⟨S, 2, none⟩ = some (.int .i64 a2) := (blk_cell hs_ 2).trans rfl; have c3 : wn.cell? ⟨S, 3, none⟩ = some (.int .i64 a3) := (blk_cell hs_ 3).trans rfl; have c4 : wn.cell? ⟨S, 4, none⟩ = some (.int .i64 a4) := (blk_cell hs_ 4).trans rfl; have c5 : wn.cell? ⟨S, 5, none⟩ = some (.int .i64 a5) := (blk_cell hs_ 5).trans rfl; have c6 : wn.cell? ⟨S, 6, none⟩ = some (.int .i64 a6) := (blk_cell hs_ 6).trans rfl; have c7 : wn.cell? ⟨S, 7, none⟩ = some (.int .i64 a7) := (blk_cell hs_ 7).trans rfl; clear hb hb_ hs_) | (go_at_call 57; (with_reducible refine (between_any a6 0 100 _).mono ?_); rintro e wn ⟨he, hb⟩; rw [hb3] at he; subst he; have hb_ := HB.out.trans (hb.mono HB.out.size); have hs_ := blk_below (g := S) (o := .cells #[.int .i64 a0, .int .i64 a1, .int .i64 a2, .int .i64 a3, .int .i64 a4, .int .i64 a5, .int .i64 a6, .int .i64 a7] 67 (0, 0)) HS.out hb; clear HB HS; (try clear c0 c1 c2 c3 c4 c5 c6 c7); have HB := Aside0.mk hb_; have HS := Aside0.mk hs_; have c0 : wn.cell? ⟨S, 0, none⟩ = some (.int .i64 a0) := (blk_cell hs_ 0).trans rfl; have c1 : wn.cell? ⟨S, 1, none⟩ = some (.int .i64 a1) := (blk_cell hs_ 1).trans rfl; have c2 : wn.cell? ⟨S, 2, none⟩ = some (.int .i64 a2) := (blk_cell hs_ 2).trans rfl; have c3 : wn.cell? ⟨S, 3, none⟩ = some (.int .i64 a3) := (blk_cell hs_ 3).trans rfl; have c4 : wn.cell? ⟨S, 4, none⟩ = some (.int .i64 a4) := (blk_cell hs_ 4).trans rfl; have c5 : wn.cell? ⟨S, 5, none⟩ = some (.int .i64 a5) := (blk_cell hs_ 5).trans rfl; have c6 : wn.cell? ⟨S, 6, none⟩ = some (.int .i64 a6) := (blk_cell hs_ 6).trans rfl; have c7 : wn.cell? ⟨S, 7, none⟩ = some (.int .i64 a7) := (blk_cell hs_ 7).trans rfl; clear hb hb_ hs_))
                  go_ret
                  refine ⟨?_, HB.out⟩
                  rw [HF3.out]
                  rfl
                | true =>
                  cases hb4 : (decide (0 ≤ a7) && decide (a7 ≤ 20)) with
                  | false =>
                    have HF4 : Aside0 (f10 a0 a1 a2 a3 a4 a5 a6 a7 = false) := ⟨by unfold f10; rw [HI.out, hb0, hb1, hb2, hb3, hb4]; rfl⟩
                    go_wp2_with (first | (go_at_call 48; (with_reducible refine (formed2_any a2 a3 _).mono ?_); rintro e wn ⟨he, hb⟩; rw [hb0] at he; subst he; have hb_ := HB.out.trans (hb.mono HB.out.size); have hs_ := blk_below (g := S) (o := .cells #[.int .i64 a0, .int .i64 a1, .int .i64 a2, .int .i64 a3, .int .i64 a4, .int .i64 a5, .int .i64 a6, .int .i64 a7] 67 (0, 0)) HS.out hb; clear HB HS; (try clear c0 c1 c2 c3 c4 c5 c6 c7); have HB := Aside0.mk hb_; have HS := Aside0.mk hs_; have c0 : wn.cell? ⟨S, 0, none⟩ = some (.int .i64 a0) := (blk_cell hs_ 0).trans rfl; have c1 : wn.cell? ⟨S, 1, none⟩ = some (.int .i64 a1) := (blk_cell hs_ 1).trans rfl; have c2 : wn.cell? ⟨S, 2, none⟩ = some (.int .i64 a2) := (blk_cell hs_ 2).trans rfl; have c3 : wn.cell? ⟨S, 3, none⟩ = some (.int .i64 a3) := (blk_cell hs_ 3).trans rfl; have c4 : wn.cell? ⟨S, 4, none⟩ = some (.int .i64 a4) := (blk_cell hs_ 4).trans rfl; have c5 : wn.cell? ⟨S, 5, none⟩ = some (.int .i64 a5) := (blk_cell hs_ 5).trans rfl; have c6 : wn.cell? ⟨S, 6, none⟩ = some (.int .i64 a6) := (blk_cell hs_ 6).trans rfl; have c7 : wn.cell? ⟨S, 7, none⟩ = some (.int .i64 a7) := (blk_cell hs_ 7).trans rfl; clear hb hb_ hs_) | (go_at_call 57; (with_reducible refine (between_any a4 (-65536) 65536 _).mono ?_); rintro e wn ⟨he, hb⟩; rw [hb1] at he; subst he; have hb_ := HB.out.trans (hb.mono HB.out.size); have hs_ := blk_below (g := S) (o := .cells #[.int .i64 a0, .int .i64 a1, .int .i64 a2, .int .i64 a3, .int .i64 a4, .int .i64 a5, .int .i64 a6, .int .i64 a7] 67 (0, 0)) HS.out hb; clear HB HS; (try clear c0 c1 c2 c3 c4 c5 c6 c7); have HB := Aside0.mk hb_; have HS := Aside0.mk hs_; have c0 : wn.cell? ⟨S, 0, none⟩ = some (.int .i64 a0) := (blk_cell hs_ 0).trans rfl; have c1 : wn.cell? ⟨S, 1, none⟩ = some (.int .i64 a1) := (blk_cell hs_ 1).trans rfl; have c2 : wn.cell? ⟨S, 2, none⟩ = some (.int .i64 a2) := (blk_cell hs_ 2).trans rfl; have c3 : wn.cell? ⟨S, 3, none⟩ = some (.int .i64 a3) := (blk_cell hs_ 3).trans rfl; have c4 : wn.cell? ⟨S, 4, none⟩ = some (.int .i64 a4) := (blk_cell hs_ 4).trans rfl; have c5 : wn.cell? ⟨S, 5, none⟩ = some (.int .i64 a5) := (blk_cell hs_ 5).trans rfl; have c6 : wn.cell? ⟨S, 6, none⟩ = some (.int .i64 a6) := (blk_cell hs_ 6).trans rfl; have c7 : wn.cell? ⟨S, 7, none⟩ = some (.int .i64 a7) := (blk_cell hs_ 7).trans rfl; clear hb hb_ hs_) | (go_at_call 57; (with_reducible refine (between_any a5 (-65536) 65536 _).mono ?_); rintro e wn ⟨he, hb⟩; rw [hb2] at he; subst he; have hb_ := HB.out.trans (hb.mono HB.out.size); have hs_ := blk_below (g := S) (o := .cells #[.int .i64 a0, .int .i64 a1, .int .i64 a2, .int .i64 a3, .int .i64 a4, .int .i64 a5, .int .i64 a6, .int .i64 a7] 67 (0, 0)) HS.out hb; clear HB HS; (try clear c0 c1 c2 c3 c4 c5 c6 c7); have HB := Aside0.mk hb_; have HS := Aside0.mk hs_; have c0 : wn.cell? ⟨S, 0, none⟩ = some (.int .i64 a0) := (blk_cell hs_ 0).trans rfl; have c1 : wn.cell? ⟨S, 1, none⟩ = some (.int .i64 a1) := (blk_cell hs_ 1).trans rfl; have c2 : wn.cell? ⟨S, 2, none⟩ = some (.int .i64 a2) := (blk_cell hs_ 2).trans rfl; have c3 : wn.cell? ⟨S, 3, none⟩ = some (.int .i64 a3) := (blk_cell hs_ 3).trans rfl; have c4 : wn.cell? ⟨S, 4, none⟩ = some (.int .i64 a4) := (blk_cell hs_ 4).trans rfl; have c5 : wn.cell? ⟨S, 5, none⟩ = some (.int .i64 a5) := (blk_cell hs_ 5).trans rfl; have c6 : wn.cell? ⟨S, 6, none⟩ = some (.int .i64 a6) := (blk_cell hs_ 6).trans rfl; have c7 : wn.cell? ⟨S, 7, none⟩ = some (.int .i64 a7) := (blk_cell hs_ 7).trans rfl; clear hb hb_ hs_) | (go_at_call 57; (with_reducible refine (between_any a6 0 100 _).mono ?_); rintro e wn ⟨he, hb⟩; rw [hb3] at he; subst he; have hb_ := HB.out.trans (hb.mono HB.out.size); have hs_ := blk_below (g := S) (o := .cells #[.int .i64 a0, .int .i64 a1, .int .i64 a2, .int .i64 a3, .int .i64 a4, .int .i64 a5, .int .i64 a6, .int .i64 a7] 67 (0, 0)) HS.out hb; clear HB HS; (try clear c0 c1 c2 c3 c4 c5 c6 c7); have HB := Aside0.mk hb_; have HS := Aside0.mk hs_; have c0 : wn.cell? ⟨S, 0, none⟩ = some (.int .i64 a0) := (blk_cell hs_ 0).trans rfl; have c1 : wn.cell? ⟨S, 1, none⟩ = some (.int .i64 a1) := (blk_cell hs_ 1).trans rfl; have c2 : wn.cell? ⟨S, 2, none⟩ = some (.int .i64 a2) := (blk_cell hs_ 2).trans rfl; have c3 : wn.cell? ⟨S, 3, none⟩ = some (.int .i64 a3) := (blk_cell hs_ 3).trans rfl; have c4 : wn.cell? ⟨S, 4, none⟩ = some (.int .i64 a4) := (blk_cell hs_ 4).trans rfl; have c5 : wn.cell? ⟨S, 5, none⟩ = some (.int .i64 a5) := (blk_cell hs_ 5).trans rfl; have c6 : wn.cell? ⟨S, 6, none⟩ = some (.int .i64 a6) := (blk_cell hs_ 6).trans rfl; have c7 : wn.cell? ⟨S, 7, none⟩ = some (.int .i64 a7) := (blk_cell hs_ 7).trans rfl; clear hb hb_ hs_) | (go_at_call 57; (with_reducible refine (between_any a7 0 20 _).mono ?_); rintro e wn ⟨he, hb⟩; rw [hb4] at he; subst he; have hb_ := HB.out.trans (hb.mono HB.out.size); have hs_ := blk_below (g := S) (o := .cells #[.int .i64 a0, .int .i64 a1, .int .i64 a2, .int .i64 a3, .int .i64 a4, .int .i64 a5, .int .i64 a6, .int .i64 a7] 67 (0, 0)) HS.out hb; clear HB HS; (try clear c0 c1 c2 c3 c4 c5 c6 c7); have HB := Aside0.mk hb_; have HS := Aside0.mk hs_; have c0 : wn.cell? ⟨S, 0, none⟩ = some (.int .i64 a0) := (blk_cell hs_ 0).trans rfl; have c1 : wn.cell? ⟨S, 1, none⟩ = some (.int .i64 a1) := (blk_cell hs_ 1).trans rfl; have c2 : wn.cell? ⟨S, 2, none⟩ = some (.int .i64 a2) := (blk_cell hs_ 2).trans rfl; have c3 : wn.cell? ⟨S, 3, none⟩ = some (.int .i64 a3) := (blk_cell hs_ 3).trans rfl; have c4 : wn.cell? ⟨S, 4, none⟩ = some (.int .i64 a4) := (blk_cell hs_ 4).trans rfl; have c5 : wn.cell? ⟨S, 5, none⟩ = some (.int .i64 a5) := (blk_cell hs_ 5).trans rfl; have c6 : wn.cell? ⟨S, 6, none⟩ = some (.int .i64 a6) := (blk_cell hs_ 6).trans rfl; have c7 : wn.cell? ⟨S, 7, none⟩ = some (.int .i64 a7) := (blk_cell hs_ 7).trans rfl; clear hb hb_ hs_))
                    go_ret
                    refine ⟨?_, HB.out⟩
                    rw [HF4.out]
                    rfl
                  | true =>
                    have HFT : Aside0 (f10 a0 a1 a2 a3 a4 a5 a6 a7 = true) := ⟨by unfold f10; rw [HI.out, hb0, hb1, hb2, hb3, hb4]; rfl⟩
                    go_wp2_with (first | (go_at_call 48; (with_reducible refine (formed2_any a2 a3 _).mono ?_); rintro e wn ⟨he, hb⟩; rw [hb0] at he; subst he; have hb_ := HB.out.trans (hb.mono HB.out.size); have hs_ := blk_below (g := S) (o := .cells #[.int .i64 a0, .int .i64 a1, .int .i64 a2, .int .i64 a3, .int .i64 a4, .int .i64 a5, .int .i64 a6, .int .i64 a7] 67 (0, 0)) HS.out hb; clear HB HS; (try clear c0 c1 c2 c3 c4 c5 c6 c7); have HB := Aside0.mk hb_; have HS := Aside0.mk hs_; have c0 : wn.cell? ⟨S, 0, none⟩ = some (.int .i64 a0) := (blk_cell hs_ 0).trans rfl; have c1 : wn.cell? ⟨S, 1, none⟩ = some (.int .i64 a1) := (blk_cell hs_ 1).trans rfl; have c2 : wn.cell? ⟨S, 2, none⟩ = some (.int .i64 a2) := (blk_cell hs_ 2).trans rfl; have c3 : wn.cell? ⟨S, 3, none⟩ = some (.int .i64 a3) := (blk_cell hs_ 3).trans rfl; have c4 : wn.cell? ⟨S, 4, none⟩ = some (.int .i64 a4) := (blk_cell hs_ 4).trans rfl; have c5 : wn.cell? ⟨S, 5, none⟩ = some (.int .i64 a5) := (blk_cell hs_ 5).trans rfl; have c6 : wn.cell? ⟨S, 6, none⟩ = some (.int .i64 a6) := (blk_cell hs_ 6).trans rfl; have c7 : wn.cell? ⟨S, 7, none⟩ = some (.int .i64 a7) := (blk_cell hs_ 7).trans rfl; clear hb hb_ hs_) | (go_at_call 57; (with_reducible refine (between_any a4 (-65536) 65536 _).mono ?_); rintro e wn ⟨he, hb⟩; rw [hb1] at he; subst he; have hb_ := HB.out.trans (hb.mono HB.out.size); have hs_ := blk_below (g := S) (o := .cells #[.int .i64 a0, .int .i64 a1, .int .i64 a2, .int .i64 a3, .int .i64 a4, .int .i64 a5, .int .i64 a6, .int .i64 a7] 67 (0, 0)) HS.out hb; clear HB HS; (try clear c0 c1 c2 c3 c4 c5 c6 c7); have HB := Aside0.mk hb_; have HS := Aside0.mk hs_; have c0 : wn.cell? ⟨S, 0, none⟩ = some (.int .i64 a0) := (blk_cell hs_ 0).trans rfl; have c1 : wn.cell? ⟨S, 1, none⟩ = some (.int .i64 a1) := (blk_cell hs_ 1).trans rfl; have c2 : wn.cell? ⟨S, 2, none⟩ = some (.int .i64 a2) := (blk_cell hs_ 2).trans rfl; have c3 : wn.cell? ⟨S, 3, none⟩ = some (.int .i64 a3) := (blk_cell hs_ 3).trans rfl; have c4 : wn.cell? ⟨S, 4, none⟩ = some (.int .i64 a4) := (blk_cell hs_ 4).trans rfl; have c5 : wn.cell? ⟨S, 5, none⟩ = some (.int .i64 a5) := (blk_cell hs_ 5).trans rfl; have c6 : wn.cell? ⟨S, 6, none⟩ = some (.int .i64 a6) := (blk_cell hs_ 6).trans rfl; have c7 : wn.cell? ⟨S, 7, none⟩ = some (.int .i64 a7) := (blk_cell hs_ 7).trans rfl; clear hb hb_ hs_) | (go_at_call 57; (with_reducible refine (between_any a5 (-65536) 65536 _).mono ?_); rintro e wn ⟨he, hb⟩; rw [hb2] at he; subst he; have hb_ := HB.out.trans (hb.mono HB.out.size); have hs_ := blk_below (g := S) (o := .cells #[.int .i64 a0, .int .i64 a1, .int .i64 a2, .int .i64 a3, .int .i64 a4, .int .i64 a5, .int .i64 a6, .int .i64 a7] 67 (0, 0)) HS.out hb; clear HB HS; (try clear c0 c1 c2 c3 c4 c5 c6 c7); have HB := Aside0.mk hb_; have HS := Aside0.mk hs_; have c0 : wn.cell? ⟨S, 0, none⟩ = some (.int .i64 a0) := (blk_cell hs_ 0).trans rfl; have c1 : wn.cell? ⟨S, 1, none⟩ = some (.int .i64 a1) := (blk_cell hs_ 1).trans rfl; have c2 : wn.cell? ⟨S, 2, none⟩ = some (.int .i64 a2) := (blk_cell hs_ 2).trans rfl; have c3 : wn.cell? ⟨S, 3, none⟩ = some (.int .i64 a3) := (blk_cell hs_ 3).trans rfl; have c4 : wn.cell? ⟨S, 4, none⟩ = some (.int .i64 a4) := (blk_cell hs_ 4).trans rfl; have c5 : wn.cell? ⟨S, 5, none⟩ = some (.int .i64 a5) := (blk_cell hs_ 5).trans rfl; have c6 : wn.cell? ⟨S, 6, none⟩ = some (.int .i64 a6) := (blk_cell hs_ 6).trans rfl; have c7 : wn.cell? ⟨S, 7, none⟩ = some (.int .i64 a7) := (blk_cell hs_ 7).trans rfl; clear hb hb_ hs_) | (go_at_call 57; (with_reducible refine (between_any a6 0 100 _).mono ?_); rintro e wn ⟨he, hb⟩; rw [hb3] at he; subst he; have hb_ := HB.out.trans (hb.mono HB.out.size); have hs_ := blk_below (g := S) (o := .cells #[.int .i64 a0, .int .i64 a1, .int .i64 a2, .int .i64 a3, .int .i64 a4, .int .i64 a5, .int .i64 a6, .int .i64 a7] 67 (0, 0)) HS.out hb; clear HB HS; (try clear c0 c1 c2 c3 c4 c5 c6 c7); have HB := Aside0.mk hb_; have HS := Aside0.mk hs_; have c0 : wn.cell? ⟨S, 0, none⟩ = some (.int .i64 a0) := (blk_cell hs_ 0).trans rfl; have c1 : wn.cell? ⟨S, 1, none⟩ = some (.int .i64 a1) := (blk_cell hs_ 1).trans rfl; have c2 : wn.cell? ⟨S, 2, none⟩ = some (.int .i64 a2) := (blk_cell hs_ 2).trans rfl; have c3 : wn.cell? ⟨S, 3, none⟩ = some (.int .i64 a3) := (blk_cell hs_ 3).trans rfl; have c4 : wn.cell? ⟨S, 4, none⟩ = some (.int .i64 a4) := (blk_cell hs_ 4).trans rfl; have c5 : wn.cell? ⟨S, 5, none⟩ = some (.int .i64 a5) := (blk_cell hs_ 5).trans rfl; have c6 : wn.cell? ⟨S, 6, none⟩ = some (.int .i64 a6) := (blk_cell hs_ 6).trans rfl; have c7 : wn.cell? ⟨S, 7, none⟩ = some (.int .i64 a7) := (blk_cell hs_ 7).trans rfl; clear hb hb_ hs_) | (go_at_call 57; (with_reducible refine (between_any a7 0 20 _).mono ?_); rintro e wn ⟨he, hb⟩; rw [hb4] at he; subst he; have hb_ := HB.out.trans (hb.mono HB.out.size); have hs_ := blk_below (g := S) (o := .cells #[.int .i64 a0, .int .i64 a1, .int .i64 a2, .int .i64 a3, .int .i64 a4, .int .i64 a5, .int .i64 a6, .int .i64 a7] 67 (0, 0)) HS.out hb; clear HB HS; (try clear c0 c1 c2 c3 c4 c5 c6 c7); have HB := Aside0.mk hb_; have HS := Aside0.mk hs_; have c0 : wn.cell? ⟨S, 0, none⟩ = some (.int .i64 a0) := (blk_cell hs_ 0).trans rfl; have c1 : wn.cell? ⟨S, 1, none⟩ = some (.int .i64 a1) := (blk_cell hs_ 1).trans rfl; have c2 : wn.cell? ⟨S, 2, none⟩ = some (.int .i64 a2) := (blk_cell hs_ 2).trans rfl; have c3 : wn.cell? ⟨S, 3, none⟩ = some (.int .i64 a3) := (blk_cell hs_ 3).trans rfl; have c4 : wn.cell? ⟨S, 4, none⟩ = some (.int .i64 a4) := (blk_cell hs_ 4).trans rfl; have c5 : wn.cell? ⟨S, 5, none⟩ = some (.int .i64 a5) := (blk_cell hs_ 5).trans rfl; have c6 : wn.cell? ⟨S, 6, none⟩ = some (.int .i64 a6) := (blk_cell hs_ 6).trans rfl; have c7 : wn.cell? ⟨S, 7, none⟩ = some (.int .i64 a7) := (blk_cell hs_ 7).trans rfl; clear hb hb_ hs_))
                    go_ret
                    refine ⟨?_, HB.out⟩
                    rw [HFT.out]
                    rfl
end Go.Proofs.Ytcbmkhogmdkpdaa.Ring
