import Derived.Test.YtgppnfnbihngnaaTFree
import Derived.Test.YtgppnfnbihngnaaTLess
import Derived.Test.YtgppnfnbihngnaaTRFree
set_option linter.unusedVariables false
set_option linter.unusedSimpArgs false
namespace Go.Proofs.Ytgppnfnbihngnaa.Tiles
open Go.RowKit Go.Proofs.YtgppnfnbihngnaaW.PrintWords Go.Proofs.YtgppnfnbihngnaaW.PrintLast Go.Proofs.YtgppnfnbihngnaaW.PrintMore Go.Proofs.Ytgppnfnbihngnaa.PTilesFree

set_option maxHeartbeats 8000000 in
set_option maxRecDepth 100000 in
theorem freelaw_walk (W H : Int) (A : Option Addr) (c : Nat) (ws : List Bool) (A' : Option Addr) (c' : Nat) (sp : List S39) (x0 y0 x1 y1 : Int) (w : World) (hC : Kd.C Kd.bool w A ws.length ws) (hc : ws.length ≤ c) (hC' : Kd.C k39 w A' sp.length sp) (hc' : sp.length ≤ c') :
    Calls Try.prog 5 #[.agg #[.int .i64 W, .int .i64 H, .slice A ws.length c, .slice A' sp.length c'], .agg #[.int .i64 x0, .int .i64 y0, .int .i64 x1, .int .i64 y1]] w fun e w' => e = .returned (.bool true) ∧ Below w.heap.size w w' := by
  have hu39 := Try.underlying39
  have hu41 := Try.underlying41
  have hu26 := Try.underlying26
  have hW1 : (w.alloc (.cells #[.int .i64 W, .int .i64 H, .slice A ws.length c, .slice A' sp.length c'] 26 (0, 0))).heap.size = w.heap.size + 1 := by simp
  have HB : Aside0 (Below w.heap.size w ((w.alloc (.cells #[.int .i64 W, .int .i64 H, .slice A ws.length c, .slice A' sp.length c'] 26 (0, 0))).alloc (.cells #[.int .i64 x0, .int .i64 y0, .int .i64 x1, .int .i64 y1] 41 (0, 0)))) := ⟨below_alloc (below_alloc (Below.refl _ _) _) _⟩
  have HM := Aside0.mk (blk_alloc (blk_new w (.cells #[.int .i64 W, .int .i64 H, .slice A ws.length c, .slice A' sp.length c'] 26 (0, 0))) (.cells #[.int .i64 x0, .int .i64 y0, .int .i64 x1, .int .i64 y1] 41 (0, 0)))
  have HD := Aside0.mk (blk_new (w.alloc (.cells #[.int .i64 W, .int .i64 H, .slice A ws.length c, .slice A' sp.length c'] 26 (0, 0))) (.cells #[.int .i64 x0, .int .i64 y0, .int .i64 x1, .int .i64 y1] 41 (0, 0)))
  rw [hW1] at HD
  have HC := Aside0.mk (And.intro (Kd.C_alloc (Kd.C_alloc hC (.cells #[.int .i64 W, .int .i64 H, .slice A ws.length c, .slice A' sp.length c'] 26 (0, 0))) (.cells #[.int .i64 x0, .int .i64 y0, .int .i64 x1, .int .i64 y1] 41 (0, 0))) (And.intro (Kd.C_alloc (Kd.C_alloc hC' (.cells #[.int .i64 W, .int .i64 H, .slice A ws.length c, .slice A' sp.length c'] 26 (0, 0))) (.cells #[.int .i64 x0, .int .i64 y0, .int .i64 x1, .int .i64 y1] 41 (0, 0))) (And.intro hc hc')))
  clear hC hc hC' hc'
  go_enter Try.func5, Try.ntmps5
  go_upto_region 1 with fail
  clear hW1
  generalize (w.alloc (.cells #[.int .i64 W, .int .i64 H, .slice A ws.length c, .slice A' sp.length c'] 26 (0, 0))).alloc (.cells #[.int .i64 x0, .int .i64 y0, .int .i64 x1, .int .i64 y1] 41 (0, 0)) = W1 at *
  obtain ⟨B, hB⟩ : ∃ X, w.heap.size = X := ⟨_, rfl⟩
  rw [hB] at HM HD
  rw [hB]
  have HBB := Aside0.mk hB
  clear hB
  have c0 : W1.cell? ⟨B, 0, none⟩ = some (.int .i64 W) := (blk_cell HM.out 0).trans rfl
  have c1 : W1.cell? ⟨B, 1, none⟩ = some (.int .i64 H) := (blk_cell HM.out 1).trans rfl
  have c2 : W1.cell? ⟨B, 2, none⟩ = some (.slice A ws.length c) := (blk_cell HM.out 2).trans rfl
  have c3 : W1.cell? ⟨B, 3, none⟩ = some (.slice A' sp.length c') := (blk_cell HM.out 3).trans rfl
  have d0 : W1.cell? ⟨B + 1, 0, none⟩ = some (.int .i64 x0) := (blk_cell HD.out 0).trans rfl
  have d1 : W1.cell? ⟨B + 1, 1, none⟩ = some (.int .i64 y0) := (blk_cell HD.out 1).trans rfl
  have d2 : W1.cell? ⟨B + 1, 2, none⟩ = some (.int .i64 x1) := (blk_cell HD.out 2).trans rfl
  have d3 : W1.cell? ⟨B + 1, 3, none⟩ = some (.int .i64 y1) := (blk_cell HD.out 3).trans rfl
  clear HM HD
  by_cases hfew : (ws.length : Int) ≤ 1100 ∧ (sp.length : Int) ≤ 1100
  case neg =>
    have HFew := Aside0.mk (few_no (W := W) (H := H) hfew)
    clear hfew
    go_wp2_with (first | (go_at_call 10; (with_reducible refine (awake_any _).mono ?_); rintro e w2 ⟨he, hb2⟩; subst he; have c0 := (hb2.cell (World.block_lt_of_cell? _ _ c0)).trans c0; have c1 := (hb2.cell (World.block_lt_of_cell? _ _ c1)).trans c1; have c2 := (hb2.cell (World.block_lt_of_cell? _ _ c2)).trans c2; have c3 := (hb2.cell (World.block_lt_of_cell? _ _ c3)).trans c3; have d0 := (hb2.cell (World.block_lt_of_cell? _ _ d0)).trans d0; have d1 := (hb2.cell (World.block_lt_of_cell? _ _ d1)).trans d1; have d2 := (hb2.cell (World.block_lt_of_cell? _ _ d2)).trans d2; have d3 := (hb2.cell (World.block_lt_of_cell? _ _ d3)).trans d3; have HBn := Aside0.mk (HB.out.trans (hb2.mono HB.out.size)); have HCn := Aside0.mk (And.intro (Kd.C_below HC.out.1 hb2) (And.intro (Kd.C_below HC.out.2.1 hb2) HC.out.2.2)); clear HB HC hb2; have HB := HBn; have HC := HCn; clear HBn HCn) | (go_at_call 14; (with_reducible refine (ricochetlaw11_few.calls W H A c ws A' c' sp false _ HC.out.1 HC.out.2.2.1 HC.out.2.1 HC.out.2.2.2 HFew.out).mono ?_); rintro e w3 ⟨he, hb2⟩; subst he; have c0 := (hb2.cell (World.block_lt_of_cell? _ _ c0)).trans c0; have c1 := (hb2.cell (World.block_lt_of_cell? _ _ c1)).trans c1; have c2 := (hb2.cell (World.block_lt_of_cell? _ _ c2)).trans c2; have c3 := (hb2.cell (World.block_lt_of_cell? _ _ c3)).trans c3; have d0 := (hb2.cell (World.block_lt_of_cell? _ _ d0)).trans d0; have d1 := (hb2.cell (World.block_lt_of_cell? _ _ d1)).trans d1; have d2 := (hb2.cell (World.block_lt_of_cell? _ _ d2)).trans d2; have d3 := (hb2.cell (World.block_lt_of_cell? _ _ d3)).trans d3; have HBn := Aside0.mk (HB.out.trans (hb2.mono HB.out.size)); have HCn := Aside0.mk (And.intro (Kd.C_below HC.out.1 hb2) (And.intro (Kd.C_below HC.out.2.1 hb2) HC.out.2.2)); clear HB HC hb2; have HB := HBn; have HC := HCn; clear HBn HCn))
    go_ret
    exact ⟨rfl, HB.out⟩
  have HFew := Aside0.mk (few_yes (W := W) (H := H) hfew)
  have HSP : Aside0 (sp.length ≤ 1100) := ⟨by omega⟩
  clear hfew
  go_upto_region 3 with (first | (go_at_call 10; (with_reducible refine (awake_any _).mono ?_); rintro e w2 ⟨he, hb2⟩; subst he; have c0 := (hb2.cell (World.block_lt_of_cell? _ _ c0)).trans c0; have c1 := (hb2.cell (World.block_lt_of_cell? _ _ c1)).trans c1; have c2 := (hb2.cell (World.block_lt_of_cell? _ _ c2)).trans c2; have c3 := (hb2.cell (World.block_lt_of_cell? _ _ c3)).trans c3; have d0 := (hb2.cell (World.block_lt_of_cell? _ _ d0)).trans d0; have d1 := (hb2.cell (World.block_lt_of_cell? _ _ d1)).trans d1; have d2 := (hb2.cell (World.block_lt_of_cell? _ _ d2)).trans d2; have d3 := (hb2.cell (World.block_lt_of_cell? _ _ d3)).trans d3; have HBn := Aside0.mk (HB.out.trans (hb2.mono HB.out.size)); have HCn := Aside0.mk (And.intro (Kd.C_below HC.out.1 hb2) (And.intro (Kd.C_below HC.out.2.1 hb2) HC.out.2.2)); clear HB HC hb2; have HB := HBn; have HC := HCn; clear HBn HCn) | (go_at_call 14; (with_reducible refine (ricochetlaw11_few.calls W H A c ws A' c' sp true _ HC.out.1 HC.out.2.2.1 HC.out.2.1 HC.out.2.2.2 HFew.out).mono ?_); rintro e w3 ⟨he, hb2⟩; subst he; have c0 := (hb2.cell (World.block_lt_of_cell? _ _ c0)).trans c0; have c1 := (hb2.cell (World.block_lt_of_cell? _ _ c1)).trans c1; have c2 := (hb2.cell (World.block_lt_of_cell? _ _ c2)).trans c2; have c3 := (hb2.cell (World.block_lt_of_cell? _ _ c3)).trans c3; have d0 := (hb2.cell (World.block_lt_of_cell? _ _ d0)).trans d0; have d1 := (hb2.cell (World.block_lt_of_cell? _ _ d1)).trans d1; have d2 := (hb2.cell (World.block_lt_of_cell? _ _ d2)).trans d2; have d3 := (hb2.cell (World.block_lt_of_cell? _ _ d3)).trans d3; have HBn := Aside0.mk (HB.out.trans (hb2.mono HB.out.size)); have HCn := Aside0.mk (And.intro (Kd.C_below HC.out.1 hb2) (And.intro (Kd.C_below HC.out.2.1 hb2) HC.out.2.2)); clear HB HC hb2; have HB := HBn; have HC := HCn; clear HBn HCn))
  have HK0 := Aside0.mk (below_drew (Below.refl w3.heap.size w3))
  refine start_ (n := 8) (S := fun w' => w'.cell? ⟨B, 0, none⟩ = some (.int .i64 W) ∧ w'.cell? ⟨B, 1, none⟩ = some (.int .i64 H) ∧ w'.cell? ⟨B, 2, none⟩ = some (.slice A ws.length c) ∧ w'.cell? ⟨B, 3, none⟩ = some (.slice A' sp.length c') ∧ w'.cell? ⟨B + 1, 0, none⟩ = some (.int .i64 x0) ∧ w'.cell? ⟨B + 1, 1, none⟩ = some (.int .i64 y0) ∧ w'.cell? ⟨B + 1, 2, none⟩ = some (.int .i64 x1) ∧ w'.cell? ⟨B + 1, 3, none⟩ = some (.int .i64 y1)) (ds := []) #[false, false, false, false, false, false, false, false] (by kernel_rfl) rfl rfl ⟨((HK0.out.cell (World.block_lt_of_cell? w3 _ c0)).trans c0), ((HK0.out.cell (World.block_lt_of_cell? w3 _ c1)).trans c1), ((HK0.out.cell (World.block_lt_of_cell? w3 _ c2)).trans c2), ((HK0.out.cell (World.block_lt_of_cell? w3 _ c3)).trans c3), ((HK0.out.cell (World.block_lt_of_cell? w3 _ d0)).trans d0), ((HK0.out.cell (World.block_lt_of_cell? w3 _ d1)).trans d1), ((HK0.out.cell (World.block_lt_of_cell? w3 _ d2)).trans d2), ((HK0.out.cell (World.block_lt_of_cell? w3 _ d3)).trans d3)⟩ (fun hHeld => ?_)
  refine take_ (i := 0) (N := some 13) (v := ?_) (a' := ?_) #[true, false, false, false, false, false, false, false] rfl rfl (by kernel_rfl) (fun _ _ _ h => h) (Or.inl ⟨by rfl, ?_⟩) hHeld ?_ ?_
  rotate_left
  · rintro w' ⟨s0, s1, s2, s3, s4, s5, s6, s7⟩
    go_simp
    with_reducible rfl
  rotate_left
  · simp only [Act.put, List.setIfInBounds_toArray, List.set_cons_zero, List.set_cons_succ, i64_w, i32_w]
    rfl
  refine take_ (i := 1) (N := some 14) (v := ?_) (a' := ?_) #[true, true, false, false, false, false, false, false] rfl rfl (by kernel_rfl) (fun _ _ _ h => h) (Or.inl ⟨by rfl, ?_⟩) hHeld ?_ ?_
  rotate_left
  · rintro w' ⟨s0, s1, s2, s3, s4, s5, s6, s7⟩
    go_simp
    with_reducible rfl
  rotate_left
  · simp only [Act.put, List.setIfInBounds_toArray, List.set_cons_zero, List.set_cons_succ, i64_w, i32_w]
    rfl
  refine take_ (i := 3) (N := some 16) (v := ?_) (a' := ?_) #[true, true, false, true, false, false, false, false] rfl rfl (by kernel_rfl) (fun _ _ _ h => h) (Or.inl ⟨by rfl, ?_⟩) hHeld ?_ ?_
  rotate_left
  · rintro w' ⟨s0, s1, s2, s3, s4, s5, s6, s7⟩
    go_simp
    with_reducible rfl
  rotate_left
  · simp only [Act.put, List.setIfInBounds_toArray, List.set_cons_zero, List.set_cons_succ, i64_w, i32_w]
    rfl
  refine take_ (i := 4) (N := some 17) (v := ?_) (a' := ?_) #[true, true, false, true, true, false, false, false] rfl rfl (by kernel_rfl) (fun _ _ _ h => h) (Or.inl ⟨by rfl, ?_⟩) hHeld ?_ ?_
  rotate_left
  · rintro w' ⟨s0, s1, s2, s3, s4, s5, s6, s7⟩
    go_simp
    with_reducible rfl
  rotate_left
  · simp only [Act.put, List.setIfInBounds_toArray, List.set_cons_zero, List.set_cons_succ, i64_w, i32_w]
    rfl
  refine one_ (i := 2) (N := some 15) #[true, true, true, true, true, false, false, false] rfl rfl (by kernel_rfl) (by decide) (fun K hK => ?_)
  refine goes_ Try.func15 (by kernel_rfl) rfl #[.agg #[.int .i64 W, .int .i64 H, .slice A ws.length c, .slice A' sp.length c'], .agg #[.int .i64 x0, .int .i64 y0, .int .i64 x1, .int .i64 y1]] (by rfl) rfl rfl (by simp only [List.map_toArray, List.map_cons, List.map_nil]; rfl) ?_
  with_reducible refine (free_any W H A c ws A' c' sp x0 y0 x1 y1 _ (Kd.C_below HC.out.1 HK0.out) HC.out.2.2.1 (Kd.C_below HC.out.2.1 HK0.out) HC.out.2.2.2).mono ?_
  rintro e w21 ⟨r1, rfl, hr1, hb1⟩
  refine ⟨_, rfl, ?_⟩
  have HR1 := Aside0.mk hr1
  have HK1 := Aside0.mk (HK0.out.trans (hb1.mono HK0.out.size))
  clear hr1 hb1
  refine hK.out _ _ ⟨((HK1.out.cell (World.block_lt_of_cell? w3 _ c0)).trans c0), ((HK1.out.cell (World.block_lt_of_cell? w3 _ c1)).trans c1), ((HK1.out.cell (World.block_lt_of_cell? w3 _ c2)).trans c2), ((HK1.out.cell (World.block_lt_of_cell? w3 _ c3)).trans c3), ((HK1.out.cell (World.block_lt_of_cell? w3 _ d0)).trans d0), ((HK1.out.cell (World.block_lt_of_cell? w3 _ d1)).trans d1), ((HK1.out.cell (World.block_lt_of_cell? w3 _ d2)).trans d2), ((HK1.out.cell (World.block_lt_of_cell? w3 _ d3)).trans d3)⟩ (fun hHeld => ?_)
  clear hK K
  refine norm_ (a' := ?_) ?_ ?_
  rotate_left
  · show Act.put _ (some 15) _ = _
    simp only [Act.put, List.setIfInBounds_toArray, List.set_cons_zero, List.set_cons_succ, i64_w, i32_w]
    rfl
  refine one_ (i := 5) (N := some 18) #[true, true, true, true, true, true, false, false] rfl rfl (by kernel_rfl) (by decide) (fun K hK => ?_)
  refine goes_ Try.func16 (by kernel_rfl) rfl #[.agg #[.int .i64 W, .int .i64 H, .slice A ws.length c, .slice A' sp.length c'], .agg #[.int .i64 x0, .int .i64 y0, .int .i64 x1, .int .i64 y1]] (by rfl) rfl rfl (by simp only [List.map_toArray, List.map_cons, List.map_nil]; rfl) ?_
  with_reducible refine (reffree_any W H A c ws A' c' sp x0 y0 x1 y1 _ HSP.out (Kd.C_below HC.out.1 HK1.out) HC.out.2.2.1 (Kd.C_below HC.out.2.1 HK1.out) HC.out.2.2.2).mono ?_
  rintro e w22 ⟨r2, rfl, hr2, hb2⟩
  refine ⟨_, rfl, ?_⟩
  have HR2 := Aside0.mk hr2
  have HK2 := Aside0.mk (HK1.out.trans (hb2.mono HK1.out.size))
  clear hr2 hb2
  refine hK.out _ _ ⟨((HK2.out.cell (World.block_lt_of_cell? w3 _ c0)).trans c0), ((HK2.out.cell (World.block_lt_of_cell? w3 _ c1)).trans c1), ((HK2.out.cell (World.block_lt_of_cell? w3 _ c2)).trans c2), ((HK2.out.cell (World.block_lt_of_cell? w3 _ c3)).trans c3), ((HK2.out.cell (World.block_lt_of_cell? w3 _ d0)).trans d0), ((HK2.out.cell (World.block_lt_of_cell? w3 _ d1)).trans d1), ((HK2.out.cell (World.block_lt_of_cell? w3 _ d2)).trans d2), ((HK2.out.cell (World.block_lt_of_cell? w3 _ d3)).trans d3)⟩ (fun hHeld => ?_)
  clear hK K
  refine norm_ (a' := ?_) ?_ ?_
  rotate_left
  · show Act.put _ (some 18) _ = _
    simp only [Act.put, List.setIfInBounds_toArray, List.set_cons_zero, List.set_cons_succ, i64_w, i32_w]
    rfl
  refine pure_ (i := 6) (N := some 19) (v := ?_) (a' := ?_) #[true, true, true, true, true, true, true, false] rfl rfl (by kernel_rfl) (fun _ _ _ h => h) (Or.inl ⟨by rfl, ?_⟩) ?_ ?_
  rotate_left
  · intro w'
    go_simp
    with_reducible rfl
  rotate_left
  · simp only [Act.put, List.setIfInBounds_toArray, List.set_cons_zero, List.set_cons_succ, i64_w, i32_w]
    rfl
  refine pure_ (i := 7) (N := some 4) (v := ?_) (a' := ?_) #[true, true, true, true, true, true, true, true] rfl rfl (by kernel_rfl) (fun _ _ _ h => h) (Or.inl ⟨by rfl, ?_⟩) ?_ ?_
  rotate_left
  · intro w'
    go_simp
    with_reducible rfl
  rotate_left
  · simp only [Act.put, List.setIfInBounds_toArray, List.set_cons_zero, List.set_cons_succ, i64_w, i32_w]
    rfl
  refine done_ (by kernel_rfl) ?_
  have hbr : (r1 == r2) = true := by
    have h : r1 = true ↔ r2 = true := HR1.out.trans HR2.out.symm
    cases r1 <;> cases r2 <;> simp_all
  go_wp2_with fail
  try rw [hbr]
  go_ret
  exact ⟨rfl, HB.out.trans (HK2.out.mono HB.out.size)⟩
end Go.Proofs.Ytgppnfnbihngnaa.Tiles
