import Derived.Test.YtgppnfnbihngnaaTFree
import Derived.Test.YtgppnfnbihngnaaTAwake
set_option linter.unusedVariables false
set_option linter.unusedSimpArgs false
namespace Go.Proofs.Ytgppnfnbihngnaa.Tiles
open Go.RowKit Go.Proofs.YtgppnfnbihngnaaW.PrintWords Go.Proofs.YtgppnfnbihngnaaW.PrintLast Go.Proofs.YtgppnfnbihngnaaW.PrintMore Go.Proofs.Ytgppnfnbihngnaa.PTilesFree

theorem few_yes {W H : Int} {ws : List Bool} {sp : List S39} (h : (ws.length : Int) ≤ 1100 ∧ (sp.length : Int) ≤ 1100) : ricochetlaw11_few.f W H ws sp = some true := by
  unfold ricochetlaw11_few.f
  rw [if_pos h.1, decide_eq_true h.2]
theorem few_no {W H : Int} {ws : List Bool} {sp : List S39} (h : ¬ ((ws.length : Int) ≤ 1100 ∧ (sp.length : Int) ≤ 1100)) : ricochetlaw11_few.f W H ws sp = some false := by
  unfold ricochetlaw11_few.f
  by_cases h1 : (ws.length : Int) ≤ 1100
  · rw [if_pos h1, decide_eq_false (fun h2 => h ⟨h1, h2⟩)]
  · rw [if_neg h1]
attribute [local go_sem] max2_int min2_int max_two min_two max_three min_three max_four min_four
set_option maxHeartbeats 8000000 in
set_option maxRecDepth 100000 in
theorem less_walk (W H : Int) (A : Option Addr) (c : Nat) (ws : List Bool) (A' : Option Addr) (c' : Nat) (sp : List S39) (x0 y0 x1 y1 k0 k1 k2 k3 : Int) (hk0 : 0 ≤ k0 ∧ k0 ≤ 65535) (hk1 : 0 ≤ k1 ∧ k1 ≤ 65535) (hk2 : 0 ≤ k2 ∧ k2 ≤ 65535) (hk3 : 0 ≤ k3 ∧ k3 ≤ 65535) (w : World) (hC : Kd.C Kd.bool w A ws.length ws) (hc : ws.length ≤ c) (hC' : Kd.C k39 w A' sp.length sp) (hc' : sp.length ≤ c') :
    Calls Try.prog 6 #[.agg #[.int .i64 W, .int .i64 H, .slice A ws.length c, .slice A' sp.length c'], .agg #[.int .i64 x0, .int .i64 y0, .int .i64 x1, .int .i64 y1], .agg #[.int .u16 k0, .int .u16 k1, .int .u16 k2, .int .u16 k3]] w fun e w' => e = .returned (.bool true) ∧ Below w.heap.size w w' := by
  have hu39 := Try.underlying39
  have hu41 := Try.underlying41
  have hu26 := Try.underlying26
  have hu46 := Try.underlying46
  have hW1 : (w.alloc (.cells #[.int .i64 W, .int .i64 H, .slice A ws.length c, .slice A' sp.length c'] 26 (0, 0))).heap.size = w.heap.size + 1 := by simp
  have hW2 : ((w.alloc (.cells #[.int .i64 W, .int .i64 H, .slice A ws.length c, .slice A' sp.length c'] 26 (0, 0))).alloc (.cells #[.int .i64 x0, .int .i64 y0, .int .i64 x1, .int .i64 y1] 41 (0, 0))).heap.size = w.heap.size + 2 := by simp
  have HB : Aside0 (Below w.heap.size w (((w.alloc (.cells #[.int .i64 W, .int .i64 H, .slice A ws.length c, .slice A' sp.length c'] 26 (0, 0))).alloc (.cells #[.int .i64 x0, .int .i64 y0, .int .i64 x1, .int .i64 y1] 41 (0, 0))).alloc (.cells #[.int .u16 k0, .int .u16 k1, .int .u16 k2, .int .u16 k3] 46 (0, 0)))) := ⟨below_alloc (below_alloc (below_alloc (Below.refl _ _) _) _) _⟩
  have HM := Aside0.mk (blk_alloc (blk_alloc (blk_new w (.cells #[.int .i64 W, .int .i64 H, .slice A ws.length c, .slice A' sp.length c'] 26 (0, 0))) (.cells #[.int .i64 x0, .int .i64 y0, .int .i64 x1, .int .i64 y1] 41 (0, 0))) (.cells #[.int .u16 k0, .int .u16 k1, .int .u16 k2, .int .u16 k3] 46 (0, 0)))
  have HD := Aside0.mk (blk_alloc (blk_new (w.alloc (.cells #[.int .i64 W, .int .i64 H, .slice A ws.length c, .slice A' sp.length c'] 26 (0, 0))) (.cells #[.int .i64 x0, .int .i64 y0, .int .i64 x1, .int .i64 y1] 41 (0, 0))) (.cells #[.int .u16 k0, .int .u16 k1, .int .u16 k2, .int .u16 k3] 46 (0, 0)))
  have HF := Aside0.mk (blk_new ((w.alloc (.cells #[.int .i64 W, .int .i64 H, .slice A ws.length c, .slice A' sp.length c'] 26 (0, 0))).alloc (.cells #[.int .i64 x0, .int .i64 y0, .int .i64 x1, .int .i64 y1] 41 (0, 0))) (.cells #[.int .u16 k0, .int .u16 k1, .int .u16 k2, .int .u16 k3] 46 (0, 0)))
  rw [hW1] at HD
  rw [hW2] at HF
  have HC := Aside0.mk (And.intro (Kd.C_alloc (Kd.C_alloc (Kd.C_alloc hC (.cells #[.int .i64 W, .int .i64 H, .slice A ws.length c, .slice A' sp.length c'] 26 (0, 0))) (.cells #[.int .i64 x0, .int .i64 y0, .int .i64 x1, .int .i64 y1] 41 (0, 0))) (.cells #[.int .u16 k0, .int .u16 k1, .int .u16 k2, .int .u16 k3] 46 (0, 0))) (And.intro (Kd.C_alloc (Kd.C_alloc (Kd.C_alloc hC' (.cells #[.int .i64 W, .int .i64 H, .slice A ws.length c, .slice A' sp.length c'] 26 (0, 0))) (.cells #[.int .i64 x0, .int .i64 y0, .int .i64 x1, .int .i64 y1] 41 (0, 0))) (.cells #[.int .u16 k0, .int .u16 k1, .int .u16 k2, .int .u16 k3] 46 (0, 0))) (And.intro hc hc')))
  clear hC hc hC' hc'
  go_enter Try.func6, Try.ntmps6
  go_upto_region 1 with fail
  clear hW1 hW2
  generalize ((w.alloc (.cells #[.int .i64 W, .int .i64 H, .slice A ws.length c, .slice A' sp.length c'] 26 (0, 0))).alloc (.cells #[.int .i64 x0, .int .i64 y0, .int .i64 x1, .int .i64 y1] 41 (0, 0))).alloc (.cells #[.int .u16 k0, .int .u16 k1, .int .u16 k2, .int .u16 k3] 46 (0, 0)) = W1 at *
  obtain ⟨B, hB⟩ : ∃ X, w.heap.size = X := ⟨_, rfl⟩
  rw [hB] at HM HD HF
  rw [hB]
  have HBB := Aside0.mk hB
  clear hB
  have c0 : W1.cell? ⟨B, 0, none⟩ = some (.int .i64 W) := (blk_cell HM.out 0).trans rfl
  have c1 : W1.cell? ⟨B, 1, none⟩ = some (.int .i64 H) := (blk_cell HM.out 1).trans rfl
  have c2 : W1.cell? ⟨B, 2, none⟩ = some (.slice A ws.length c) := (blk_cell HM.out 2).trans rfl
  have c3 : W1.cell? ⟨B, 3, none⟩ = some (.slice A' sp.length c') := (blk_cell HM.out 3).trans rfl
  have d0 : W1.cell? ⟨B + 1, 0, none⟩ = some (.int .i64 x0) := (blk_cell HD.out 0).trans rfl
  have d1 : W1.cell? ⟨B + 1, 1, none⟩ = some (.int .i64 y0) := (blk_cell HD.out 1).trans rfl
  have d2 : W1.cell? ⟨B + 1, 2, none⟩ = some (.int .i64 x1) := (blk_cell HD.out 2).trans rfl
  have d3 : W1.cell? ⟨B + 1, 3, none⟩ = some (.int .i64 y1) := (blk_cell HD.out 3).trans rfl
  have e0 : W1.cell? ⟨B + 2, 0, none⟩ = some (.int .u16 k0) := (blk_cell HF.out 0).trans rfl
  have e1 : W1.cell? ⟨B + 2, 1, none⟩ = some (.int .u16 k1) := (blk_cell HF.out 1).trans rfl
  have e2 : W1.cell? ⟨B + 2, 2, none⟩ = some (.int .u16 k2) := (blk_cell HF.out 2).trans rfl
  have e3 : W1.cell? ⟨B + 2, 3, none⟩ = some (.int .u16 k3) := (blk_cell HF.out 3).trans rfl
  clear HM HD HF
  by_cases hfew : (ws.length : Int) ≤ 1100 ∧ (sp.length : Int) ≤ 1100
  case neg =>
    have HFew := Aside0.mk (few_no (W := W) (H := H) hfew)
    clear hfew
    go_wp2_with (first | (go_at_call 10; (with_reducible refine (awake_any _).mono ?_); rintro e w2 ⟨he, hb2⟩; subst he; have c0 := (hb2.cell (World.block_lt_of_cell? _ _ c0)).trans c0; have c1 := (hb2.cell (World.block_lt_of_cell? _ _ c1)).trans c1; have c2 := (hb2.cell (World.block_lt_of_cell? _ _ c2)).trans c2; have c3 := (hb2.cell (World.block_lt_of_cell? _ _ c3)).trans c3; have d0 := (hb2.cell (World.block_lt_of_cell? _ _ d0)).trans d0; have d1 := (hb2.cell (World.block_lt_of_cell? _ _ d1)).trans d1; have d2 := (hb2.cell (World.block_lt_of_cell? _ _ d2)).trans d2; have d3 := (hb2.cell (World.block_lt_of_cell? _ _ d3)).trans d3; have e0 := (hb2.cell (World.block_lt_of_cell? _ _ e0)).trans e0; have e1 := (hb2.cell (World.block_lt_of_cell? _ _ e1)).trans e1; have e2 := (hb2.cell (World.block_lt_of_cell? _ _ e2)).trans e2; have e3 := (hb2.cell (World.block_lt_of_cell? _ _ e3)).trans e3; have HBn := Aside0.mk (HB.out.trans (hb2.mono HB.out.size)); have HCn := Aside0.mk (And.intro (Kd.C_below HC.out.1 hb2) (And.intro (Kd.C_below HC.out.2.1 hb2) HC.out.2.2)); clear HB HC hb2; have HB := HBn; have HC := HCn; clear HBn HCn) | (go_at_call 14; (with_reducible refine (ricochetlaw11_few.calls W H A c ws A' c' sp false _ HC.out.1 HC.out.2.2.1 HC.out.2.1 HC.out.2.2.2 HFew.out).mono ?_); rintro e w3 ⟨he, hb2⟩; subst he; have c0 := (hb2.cell (World.block_lt_of_cell? _ _ c0)).trans c0; have c1 := (hb2.cell (World.block_lt_of_cell? _ _ c1)).trans c1; have c2 := (hb2.cell (World.block_lt_of_cell? _ _ c2)).trans c2; have c3 := (hb2.cell (World.block_lt_of_cell? _ _ c3)).trans c3; have d0 := (hb2.cell (World.block_lt_of_cell? _ _ d0)).trans d0; have d1 := (hb2.cell (World.block_lt_of_cell? _ _ d1)).trans d1; have d2 := (hb2.cell (World.block_lt_of_cell? _ _ d2)).trans d2; have d3 := (hb2.cell (World.block_lt_of_cell? _ _ d3)).trans d3; have e0 := (hb2.cell (World.block_lt_of_cell? _ _ e0)).trans e0; have e1 := (hb2.cell (World.block_lt_of_cell? _ _ e1)).trans e1; have e2 := (hb2.cell (World.block_lt_of_cell? _ _ e2)).trans e2; have e3 := (hb2.cell (World.block_lt_of_cell? _ _ e3)).trans e3; have HBn := Aside0.mk (HB.out.trans (hb2.mono HB.out.size)); have HCn := Aside0.mk (And.intro (Kd.C_below HC.out.1 hb2) (And.intro (Kd.C_below HC.out.2.1 hb2) HC.out.2.2)); clear HB HC hb2; have HB := HBn; have HC := HCn; clear HBn HCn))
    go_ret
    exact ⟨rfl, HB.out⟩
  have HFew := Aside0.mk (few_yes (W := W) (H := H) hfew)
  clear hfew
  by_cases hfr : FreeP W H ws sp x0 y0 x1 y1
  case neg =>
    have HFr := Aside0.mk hfr
    clear hfr
    go_wp2_with (first | (go_at_call 10; (with_reducible refine (awake_any _).mono ?_); rintro e w2 ⟨he, hb2⟩; subst he; have c0 := (hb2.cell (World.block_lt_of_cell? _ _ c0)).trans c0; have c1 := (hb2.cell (World.block_lt_of_cell? _ _ c1)).trans c1; have c2 := (hb2.cell (World.block_lt_of_cell? _ _ c2)).trans c2; have c3 := (hb2.cell (World.block_lt_of_cell? _ _ c3)).trans c3; have d0 := (hb2.cell (World.block_lt_of_cell? _ _ d0)).trans d0; have d1 := (hb2.cell (World.block_lt_of_cell? _ _ d1)).trans d1; have d2 := (hb2.cell (World.block_lt_of_cell? _ _ d2)).trans d2; have d3 := (hb2.cell (World.block_lt_of_cell? _ _ d3)).trans d3; have e0 := (hb2.cell (World.block_lt_of_cell? _ _ e0)).trans e0; have e1 := (hb2.cell (World.block_lt_of_cell? _ _ e1)).trans e1; have e2 := (hb2.cell (World.block_lt_of_cell? _ _ e2)).trans e2; have e3 := (hb2.cell (World.block_lt_of_cell? _ _ e3)).trans e3; have HBn := Aside0.mk (HB.out.trans (hb2.mono HB.out.size)); have HCn := Aside0.mk (And.intro (Kd.C_below HC.out.1 hb2) (And.intro (Kd.C_below HC.out.2.1 hb2) HC.out.2.2)); clear HB HC hb2; have HB := HBn; have HC := HCn; clear HBn HCn) | (go_at_call 14; (with_reducible refine (ricochetlaw11_few.calls W H A c ws A' c' sp true _ HC.out.1 HC.out.2.2.1 HC.out.2.1 HC.out.2.2.2 HFew.out).mono ?_); rintro e w3 ⟨he, hb2⟩; subst he; have c0 := (hb2.cell (World.block_lt_of_cell? _ _ c0)).trans c0; have c1 := (hb2.cell (World.block_lt_of_cell? _ _ c1)).trans c1; have c2 := (hb2.cell (World.block_lt_of_cell? _ _ c2)).trans c2; have c3 := (hb2.cell (World.block_lt_of_cell? _ _ c3)).trans c3; have d0 := (hb2.cell (World.block_lt_of_cell? _ _ d0)).trans d0; have d1 := (hb2.cell (World.block_lt_of_cell? _ _ d1)).trans d1; have d2 := (hb2.cell (World.block_lt_of_cell? _ _ d2)).trans d2; have d3 := (hb2.cell (World.block_lt_of_cell? _ _ d3)).trans d3; have e0 := (hb2.cell (World.block_lt_of_cell? _ _ e0)).trans e0; have e1 := (hb2.cell (World.block_lt_of_cell? _ _ e1)).trans e1; have e2 := (hb2.cell (World.block_lt_of_cell? _ _ e2)).trans e2; have e3 := (hb2.cell (World.block_lt_of_cell? _ _ e3)).trans e3; have HBn := Aside0.mk (HB.out.trans (hb2.mono HB.out.size)); have HCn := Aside0.mk (And.intro (Kd.C_below HC.out.1 hb2) (And.intro (Kd.C_below HC.out.2.1 hb2) HC.out.2.2)); clear HB HC hb2; have HB := HBn; have HC := HCn; clear HBn HCn) | (go_at_call 15; (with_reducible refine (free_any W H A c ws A' c' sp x0 y0 x1 y1 _ HC.out.1 HC.out.2.2.1 HC.out.2.1 HC.out.2.2.2).mono ?_); rintro e w4 ⟨r, he, hr, hb2⟩; obtain rfl : r = false := (by cases r <;> first | rfl | exact absurd (hr.1 rfl) HFr.out); subst he; have c0 := (hb2.cell (World.block_lt_of_cell? _ _ c0)).trans c0; have c1 := (hb2.cell (World.block_lt_of_cell? _ _ c1)).trans c1; have c2 := (hb2.cell (World.block_lt_of_cell? _ _ c2)).trans c2; have c3 := (hb2.cell (World.block_lt_of_cell? _ _ c3)).trans c3; have d0 := (hb2.cell (World.block_lt_of_cell? _ _ d0)).trans d0; have d1 := (hb2.cell (World.block_lt_of_cell? _ _ d1)).trans d1; have d2 := (hb2.cell (World.block_lt_of_cell? _ _ d2)).trans d2; have d3 := (hb2.cell (World.block_lt_of_cell? _ _ d3)).trans d3; have e0 := (hb2.cell (World.block_lt_of_cell? _ _ e0)).trans e0; have e1 := (hb2.cell (World.block_lt_of_cell? _ _ e1)).trans e1; have e2 := (hb2.cell (World.block_lt_of_cell? _ _ e2)).trans e2; have e3 := (hb2.cell (World.block_lt_of_cell? _ _ e3)).trans e3; have HBn := Aside0.mk (HB.out.trans (hb2.mono HB.out.size)); have HCn := Aside0.mk (And.intro (Kd.C_below HC.out.1 hb2) (And.intro (Kd.C_below HC.out.2.1 hb2) HC.out.2.2)); clear HB HC hb2 hr; have HB := HBn; have HC := HCn; clear HBn HCn))
    go_ret
    exact ⟨rfl, HB.out⟩
  have HFr := Aside0.mk hfr
  clear hfr
  go_upto_region 3 with (first | (go_at_call 10; (with_reducible refine (awake_any _).mono ?_); rintro e w2 ⟨he, hb2⟩; subst he; have c0 := (hb2.cell (World.block_lt_of_cell? _ _ c0)).trans c0; have c1 := (hb2.cell (World.block_lt_of_cell? _ _ c1)).trans c1; have c2 := (hb2.cell (World.block_lt_of_cell? _ _ c2)).trans c2; have c3 := (hb2.cell (World.block_lt_of_cell? _ _ c3)).trans c3; have d0 := (hb2.cell (World.block_lt_of_cell? _ _ d0)).trans d0; have d1 := (hb2.cell (World.block_lt_of_cell? _ _ d1)).trans d1; have d2 := (hb2.cell (World.block_lt_of_cell? _ _ d2)).trans d2; have d3 := (hb2.cell (World.block_lt_of_cell? _ _ d3)).trans d3; have e0 := (hb2.cell (World.block_lt_of_cell? _ _ e0)).trans e0; have e1 := (hb2.cell (World.block_lt_of_cell? _ _ e1)).trans e1; have e2 := (hb2.cell (World.block_lt_of_cell? _ _ e2)).trans e2; have e3 := (hb2.cell (World.block_lt_of_cell? _ _ e3)).trans e3; have HBn := Aside0.mk (HB.out.trans (hb2.mono HB.out.size)); have HCn := Aside0.mk (And.intro (Kd.C_below HC.out.1 hb2) (And.intro (Kd.C_below HC.out.2.1 hb2) HC.out.2.2)); clear HB HC hb2; have HB := HBn; have HC := HCn; clear HBn HCn) | (go_at_call 14; (with_reducible refine (ricochetlaw11_few.calls W H A c ws A' c' sp true _ HC.out.1 HC.out.2.2.1 HC.out.2.1 HC.out.2.2.2 HFew.out).mono ?_); rintro e w3 ⟨he, hb2⟩; subst he; have c0 := (hb2.cell (World.block_lt_of_cell? _ _ c0)).trans c0; have c1 := (hb2.cell (World.block_lt_of_cell? _ _ c1)).trans c1; have c2 := (hb2.cell (World.block_lt_of_cell? _ _ c2)).trans c2; have c3 := (hb2.cell (World.block_lt_of_cell? _ _ c3)).trans c3; have d0 := (hb2.cell (World.block_lt_of_cell? _ _ d0)).trans d0; have d1 := (hb2.cell (World.block_lt_of_cell? _ _ d1)).trans d1; have d2 := (hb2.cell (World.block_lt_of_cell? _ _ d2)).trans d2; have d3 := (hb2.cell (World.block_lt_of_cell? _ _ d3)).trans d3; have e0 := (hb2.cell (World.block_lt_of_cell? _ _ e0)).trans e0; have e1 := (hb2.cell (World.block_lt_of_cell? _ _ e1)).trans e1; have e2 := (hb2.cell (World.block_lt_of_cell? _ _ e2)).trans e2; have e3 := (hb2.cell (World.block_lt_of_cell? _ _ e3)).trans e3; have HBn := Aside0.mk (HB.out.trans (hb2.mono HB.out.size)); have HCn := Aside0.mk (And.intro (Kd.C_below HC.out.1 hb2) (And.intro (Kd.C_below HC.out.2.1 hb2) HC.out.2.2)); clear HB HC hb2; have HB := HBn; have HC := HCn; clear HBn HCn) | (go_at_call 15; (with_reducible refine (free_any W H A c ws A' c' sp x0 y0 x1 y1 _ HC.out.1 HC.out.2.2.1 HC.out.2.1 HC.out.2.2.2).mono ?_); rintro e w4 ⟨r, he, hr, hb2⟩; obtain rfl : r = true := hr.2 HFr.out; subst he; have c0 := (hb2.cell (World.block_lt_of_cell? _ _ c0)).trans c0; have c1 := (hb2.cell (World.block_lt_of_cell? _ _ c1)).trans c1; have c2 := (hb2.cell (World.block_lt_of_cell? _ _ c2)).trans c2; have c3 := (hb2.cell (World.block_lt_of_cell? _ _ c3)).trans c3; have d0 := (hb2.cell (World.block_lt_of_cell? _ _ d0)).trans d0; have d1 := (hb2.cell (World.block_lt_of_cell? _ _ d1)).trans d1; have d2 := (hb2.cell (World.block_lt_of_cell? _ _ d2)).trans d2; have d3 := (hb2.cell (World.block_lt_of_cell? _ _ d3)).trans d3; have e0 := (hb2.cell (World.block_lt_of_cell? _ _ e0)).trans e0; have e1 := (hb2.cell (World.block_lt_of_cell? _ _ e1)).trans e1; have e2 := (hb2.cell (World.block_lt_of_cell? _ _ e2)).trans e2; have e3 := (hb2.cell (World.block_lt_of_cell? _ _ e3)).trans e3; have HBn := Aside0.mk (HB.out.trans (hb2.mono HB.out.size)); have HCn := Aside0.mk (And.intro (Kd.C_below HC.out.1 hb2) (And.intro (Kd.C_below HC.out.2.1 hb2) HC.out.2.2)); clear HB HC hb2 hr; have HB := HBn; have HC := HCn; clear HBn HCn))
  obtain ⟨b1, b2, b3, b4, b5, b6, b7, b8, b9, b10⟩ := HFr.out.1
  obtain ⟨k01, k02⟩ := hk0
  obtain ⟨k11, k12⟩ := hk1
  obtain ⟨k21, k22⟩ := hk2
  obtain ⟨k31, k32⟩ := hk3
  go_upto_region 4 with fail
  have hbx := below_alloc (Below.refl w4.heap.size w4) (.cells #[.int .i64 x0, .int .i64 y0, .int .i64 x1, .int .i64 y1] 41 (0, 0))
  have HPB := Aside0.mk (blk_new w4 (.cells #[.int .i64 x0, .int .i64 y0, .int .i64 x1, .int .i64 y1] 41 (0, 0)))
  have HPl : Aside0 (∀ j, w4.heap.size ≤ (⟨w4.heap.size, j, none⟩ : Addr).block) := ⟨fun j => Nat.le_refl _⟩
  have HBl : B + 2 < w4.heap.size := World.block_lt_of_cell? w4 _ e0
  have c0 := (hbx.cell (World.block_lt_of_cell? _ _ c0)).trans c0; have c1 := (hbx.cell (World.block_lt_of_cell? _ _ c1)).trans c1; have c2 := (hbx.cell (World.block_lt_of_cell? _ _ c2)).trans c2; have c3 := (hbx.cell (World.block_lt_of_cell? _ _ c3)).trans c3; have d0 := (hbx.cell (World.block_lt_of_cell? _ _ d0)).trans d0; have d1 := (hbx.cell (World.block_lt_of_cell? _ _ d1)).trans d1; have d2 := (hbx.cell (World.block_lt_of_cell? _ _ d2)).trans d2; have d3 := (hbx.cell (World.block_lt_of_cell? _ _ d3)).trans d3; have e0 := (hbx.cell (World.block_lt_of_cell? _ _ e0)).trans e0; have e1 := (hbx.cell (World.block_lt_of_cell? _ _ e1)).trans e1; have e2 := (hbx.cell (World.block_lt_of_cell? _ _ e2)).trans e2; have e3 := (hbx.cell (World.block_lt_of_cell? _ _ e3)).trans e3
  have HBx := Aside0.mk hbx
  clear hbx
  generalize w4.alloc (.cells #[.int .i64 x0, .int .i64 y0, .int .i64 x1, .int .i64 y1] 41 (0, 0)) = W5 at *
  obtain ⟨P, hP⟩ : ∃ X, w4.heap.size = X := ⟨_, rfl⟩
  rw [hP] at HPB HPl HBx HBl
  rw [hP]
  have HPP := Aside0.mk hP
  clear hP
  have p0 : W5.cell? ⟨P, 0, none⟩ = some (.int .i64 x0) := (blk_cell HPB.out 0).trans rfl
  have p1 : W5.cell? ⟨P, 1, none⟩ = some (.int .i64 y0) := (blk_cell HPB.out 1).trans rfl
  have p2 : W5.cell? ⟨P, 2, none⟩ = some (.int .i64 x1) := (blk_cell HPB.out 2).trans rfl
  have p3 : W5.cell? ⟨P, 3, none⟩ = some (.int .i64 y1) := (blk_cell HPB.out 3).trans rfl
  have q0 : W5.frozen? ⟨P, 0, none⟩ = false := blk_frozen HPB.out 0
  have q1 : W5.frozen? ⟨P, 1, none⟩ = false := blk_frozen HPB.out 1
  have q2 : W5.frozen? ⟨P, 2, none⟩ = false := blk_frozen HPB.out 2
  have q3 : W5.frozen? ⟨P, 3, none⟩ = false := blk_frozen HPB.out 3
  have n0 : ¬ B = P := by omega
  have n1 : ¬ B + 1 = P := by omega
  have n2 : ¬ B + 2 = P := by omega
  have n3 : ¬ P = B := by omega
  have n4 : ¬ P = B + 1 := by omega
  have n5 : ¬ P = B + 2 := by omega
  have HLs : Aside0 (FreeP W H ws sp (if x1 < x0 + k0 then x1 else x0 + k0) (if y1 < y0 + k1 then y1 else y0 + k1) (if x1 - k2 < if x1 < x0 + k0 then x1 else x0 + k0 then if x1 < x0 + k0 then x1 else x0 + k0 else x1 - k2) (if y1 - k3 < if y1 < y0 + k1 then y1 else y0 + k1 then if y1 < y0 + k1 then y1 else y0 + k1 else y1 - k3)) := ⟨FreeP.less HFr.out (by split <;> omega) (by split <;> omega) (by repeat' split <;> omega) (by repeat' split <;> omega) (by repeat' split <;> omega) (by repeat' split <;> omega)⟩
  go_upto_region 8 with fail
  have HLs2 := HLs.out
  clear HLs
  obtain ⟨X0, hX0⟩ : ∃ X, (if x1 < x0 + k0 then x1 else x0 + k0) = X := ⟨_, rfl⟩
  rw [hX0] at HLs2 ⊢
  clear hX0
  obtain ⟨Y0, hY0⟩ : ∃ X, (if y1 < y0 + k1 then y1 else y0 + k1) = X := ⟨_, rfl⟩
  rw [hY0] at HLs2 ⊢
  clear hY0
  obtain ⟨X1, hX1⟩ : ∃ X, (if x1 - k2 < X0 then X0 else x1 - k2) = X := ⟨_, rfl⟩
  rw [hX1] at HLs2 ⊢
  clear hX1
  obtain ⟨Y1, hY1⟩ : ∃ X, (if y1 - k3 < Y0 then Y0 else y1 - k3) = X := ⟨_, rfl⟩
  rw [hY1] at HLs2 ⊢
  clear hY1
  have HLs := Aside0.mk HLs2
  clear HLs2
  have HBf := Aside0.mk ((((HBx.out.setCell (p := ⟨P, 0, none⟩) (HPl.out 0) (.int .i64 X0)).setCell (p := ⟨P, 1, none⟩) (HPl.out 1) (.int .i64 Y0)).setCell (p := ⟨P, 2, none⟩) (HPl.out 2) (.int .i64 X1)).setCell (p := ⟨P, 3, none⟩) (HPl.out 3) (.int .i64 Y1))
  have HC2 : Aside0 _ := ⟨And.intro (Kd.C_below HC.out.1 (by rw [HPP.out]; exact HBf.out)) (And.intro (Kd.C_below HC.out.2.1 (by rw [HPP.out]; exact HBf.out)) HC.out.2.2)⟩
  go_wp2_with (go_at_call 15; (with_reducible refine (free_any W H A c ws A' c' sp _ _ _ _ _ HC2.out.1 HC2.out.2.2.1 HC2.out.2.1 HC2.out.2.2.2).mono ?_); rintro e w9 ⟨r, he, hr, hb2⟩; obtain rfl : r = true := hr.2 HLs.out; subst he; have HB9 := Aside0.mk hb2; clear hb2 hr)
  go_ret
  have hfin : Below w4.heap.size w4 w9 := by rw [HPP.out]; exact HBf.out.trans (HB9.out.mono (Nat.le_trans (Nat.le_of_eq HPP.out.symm) HBf.out.size))
  exact ⟨rfl, HB.out.trans (hfin.mono HB.out.size)⟩
end Go.Proofs.Ytgppnfnbihngnaa.Tiles
