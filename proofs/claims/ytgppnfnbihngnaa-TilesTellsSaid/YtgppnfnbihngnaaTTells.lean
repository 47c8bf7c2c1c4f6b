import Derived.Test.YtgppnfnbihngnaaTText
import Derived.Test.YtgppnfnbihngnaaTLess
import Derived.Test.YtgppnfnbihngnaaTRWall
set_option linter.unusedVariables false
set_option linter.unusedSimpArgs false
namespace Go.Proofs.Ytgppnfnbihngnaa.Tiles
open Go.RowKit Go.Proofs.YtgppnfnbihngnaaW.PrintWords Go.Proofs.YtgppnfnbihngnaaW.PrintLast Go.Proofs.YtgppnfnbihngnaaW.PrintMore Go.Proofs.Ytgppnfnbihngnaa.PTilesFree

set_option maxHeartbeats 8000000 in
set_option maxRecDepth 100000 in
theorem tells_walk (W H : Int) (A : Option Addr) (c : Nat) (ws : List Bool) (A' : Option Addr) (c' : Nat) (sp : List S39) (x y : Int) (w : World) (hC : Kd.C Kd.bool w A ws.length ws) (hc : ws.length ≤ c) (hC' : Kd.C k39 w A' sp.length sp) (hc' : sp.length ≤ c') :
    Calls Try.prog 9 #[.agg #[.int .i64 W, .int .i64 H, .slice A ws.length c, .slice A' sp.length c'], .int .i64 x, .int .i64 y] w fun e w' => e = .returned (.bool true) ∧ Below w.heap.size w w' := by
  have hu39 := Try.underlying39
  have hu30 := Try.underlying30
  have hu26 := Try.underlying26
  have HB : Aside0 (Below w.heap.size w (w.alloc (.cells #[.int .i64 W, .int .i64 H, .slice A ws.length c, .slice A' sp.length c'] 26 (0, 0)))) := ⟨below_alloc (Below.refl _ _) _⟩
  have HM := Aside0.mk (blk_new w (.cells #[.int .i64 W, .int .i64 H, .slice A ws.length c, .slice A' sp.length c'] 26 (0, 0)))
  have HC := Aside0.mk (And.intro (Kd.C_alloc hC (.cells #[.int .i64 W, .int .i64 H, .slice A ws.length c, .slice A' sp.length c'] 26 (0, 0))) (And.intro (Kd.C_alloc hC' (.cells #[.int .i64 W, .int .i64 H, .slice A ws.length c, .slice A' sp.length c'] 26 (0, 0))) (And.intro hc hc')))
  clear hC hc hC' hc'
  go_enter Try.func9, Try.ntmps9
  go_upto_region 1 with fail
  generalize w.alloc (.cells #[.int .i64 W, .int .i64 H, .slice A ws.length c, .slice A' sp.length c'] 26 (0, 0)) = W1 at *
  obtain ⟨B, hB⟩ : ∃ X, w.heap.size = X := ⟨_, rfl⟩
  rw [hB] at HM
  rw [hB]
  have HBB := Aside0.mk hB
  clear hB
  have c0 : W1.cell? ⟨B, 0, none⟩ = some (.int .i64 W) := (blk_cell HM.out 0).trans rfl
  have c1 : W1.cell? ⟨B, 1, none⟩ = some (.int .i64 H) := (blk_cell HM.out 1).trans rfl
  have c2 : W1.cell? ⟨B, 2, none⟩ = some (.slice A ws.length c) := (blk_cell HM.out 2).trans rfl
  have c3 : W1.cell? ⟨B, 3, none⟩ = some (.slice A' sp.length c') := (blk_cell HM.out 3).trans rfl
  clear HM
  by_cases hfew : (ws.length : Int) ≤ 1100 ∧ (sp.length : Int) ≤ 1100
  case neg =>
    have HFew := Aside0.mk (few_no (W := W) (H := H) hfew)
    clear hfew
    go_wp2_with (first | (go_at_call 10; (with_reducible refine (awake_any _).mono ?_); rintro e w2 ⟨he, hb2⟩; subst he; have c0 := (hb2.cell (World.block_lt_of_cell? _ _ c0)).trans c0; have c1 := (hb2.cell (World.block_lt_of_cell? _ _ c1)).trans c1; have c2 := (hb2.cell (World.block_lt_of_cell? _ _ c2)).trans c2; have c3 := (hb2.cell (World.block_lt_of_cell? _ _ c3)).trans c3; have HBn := Aside0.mk (HB.out.trans (hb2.mono HB.out.size)); have HCn := Aside0.mk (And.intro (Kd.C_below HC.out.1 hb2) (And.intro (Kd.C_below HC.out.2.1 hb2) HC.out.2.2)); clear HB HC hb2; have HB := HBn; have HC := HCn; clear HBn HCn) | (go_at_call 14; (with_reducible refine (ricochetlaw11_few.calls W H A c ws A' c' sp false _ HC.out.1 HC.out.2.2.1 HC.out.2.1 HC.out.2.2.2 HFew.out).mono ?_); rintro e w3 ⟨he, hb2⟩; subst he; have c0 := (hb2.cell (World.block_lt_of_cell? _ _ c0)).trans c0; have c1 := (hb2.cell (World.block_lt_of_cell? _ _ c1)).trans c1; have c2 := (hb2.cell (World.block_lt_of_cell? _ _ c2)).trans c2; have c3 := (hb2.cell (World.block_lt_of_cell? _ _ c3)).trans c3; have HBn := Aside0.mk (HB.out.trans (hb2.mono HB.out.size)); have HCn := Aside0.mk (And.intro (Kd.C_below HC.out.1 hb2) (And.intro (Kd.C_below HC.out.2.1 hb2) HC.out.2.2)); clear HB HC hb2; have HB := HBn; have HC := HCn; clear HBn HCn))
    go_ret
    exact ⟨rfl, HB.out⟩
  have HFew := Aside0.mk (few_yes (W := W) (H := H) hfew)
  have HSP : Aside0 (sp.length ≤ 1100) := ⟨by omega⟩
  clear hfew
  go_upto_region 4 with (first | (go_at_call 10; (with_reducible refine (awake_any _).mono ?_); rintro e w2 ⟨he, hb2⟩; subst he; have c0 := (hb2.cell (World.block_lt_of_cell? _ _ c0)).trans c0; have c1 := (hb2.cell (World.block_lt_of_cell? _ _ c1)).trans c1; have c2 := (hb2.cell (World.block_lt_of_cell? _ _ c2)).trans c2; have c3 := (hb2.cell (World.block_lt_of_cell? _ _ c3)).trans c3; have HBn := Aside0.mk (HB.out.trans (hb2.mono HB.out.size)); have HCn := Aside0.mk (And.intro (Kd.C_below HC.out.1 hb2) (And.intro (Kd.C_below HC.out.2.1 hb2) HC.out.2.2)); clear HB HC hb2; have HB := HBn; have HC := HCn; clear HBn HCn) | (go_at_call 14; (with_reducible refine (ricochetlaw11_few.calls W H A c ws A' c' sp true _ HC.out.1 HC.out.2.2.1 HC.out.2.1 HC.out.2.2.2 HFew.out).mono ?_); rintro e w3 ⟨he, hb2⟩; subst he; have c0 := (hb2.cell (World.block_lt_of_cell? _ _ c0)).trans c0; have c1 := (hb2.cell (World.block_lt_of_cell? _ _ c1)).trans c1; have c2 := (hb2.cell (World.block_lt_of_cell? _ _ c2)).trans c2; have c3 := (hb2.cell (World.block_lt_of_cell? _ _ c3)).trans c3; have HBn := Aside0.mk (HB.out.trans (hb2.mono HB.out.size)); have HCn := Aside0.mk (And.intro (Kd.C_below HC.out.1 hb2) (And.intro (Kd.C_below HC.out.2.1 hb2) HC.out.2.2)); clear HB HC hb2; have HB := HBn; have HC := HCn; clear HBn HCn))
  have hb2 := below_alloc (Below.refl w3.heap.size w3) (.cells #[.int .i64 W, .int .i64 H, .slice A ws.length c, .slice A' sp.length c'] 30 (0, 0))
  have HVn := Aside0.mk (blk_new w3 (.cells #[.int .i64 W, .int .i64 H, .slice A ws.length c, .slice A' sp.length c'] 30 (0, 0)))
  have c0 := (hb2.cell (World.block_lt_of_cell? _ _ c0)).trans c0
  have c1 := (hb2.cell (World.block_lt_of_cell? _ _ c1)).trans c1
  have c2 := (hb2.cell (World.block_lt_of_cell? _ _ c2)).trans c2
  have c3 := (hb2.cell (World.block_lt_of_cell? _ _ c3)).trans c3
  have HBn := Aside0.mk (HB.out.trans (hb2.mono HB.out.size))
  have HCn := Aside0.mk (And.intro (Kd.C_below HC.out.1 hb2) (And.intro (Kd.C_below HC.out.2.1 hb2) HC.out.2.2))
  clear HB HC hb2
  have HB := HBn
  have HC := HCn
  clear HBn HCn
  generalize w3.alloc (.cells #[.int .i64 W, .int .i64 H, .slice A ws.length c, .slice A' sp.length c'] 30 (0, 0)) = w4 at *
  generalize w3.heap.size = D at *
  have d0 : w4.cell? ⟨D, 0, none⟩ = some (.int .i64 W) := (blk_cell HVn.out 0).trans rfl
  have d1 : w4.cell? ⟨D, 1, none⟩ = some (.int .i64 H) := (blk_cell HVn.out 1).trans rfl
  have d2 : w4.cell? ⟨D, 2, none⟩ = some (.slice A ws.length c) := (blk_cell HVn.out 2).trans rfl
  have d3 : w4.cell? ⟨D, 3, none⟩ = some (.slice A' sp.length c') := (blk_cell HVn.out 3).trans rfl
  clear HVn
  by_cases hf : FormP W H ws sp
  · have HF := Aside0.mk hf
    clear hf
    obtain ⟨T, hT⟩ : ∃ T, textF W W.toNat ws sp H.toNat = T := ⟨_, rfl⟩
    have HT := Aside0.mk hT
    clear hT
    go_upto_region 6 with (first | (go_at_call 19; (with_reducible refine (text_any W H A c ws A' c' sp _ HSP.out HC.out.1 HC.out.2.2.1 HC.out.2.1 HC.out.2.2.2).mono ?_); rintro e w5 ⟨s, er, he, hw, hb2⟩; subst he; obtain ⟨hs, hE⟩ : T = s ∧ er = 0 := (by rcases hw with ⟨_, a, b⟩ | ⟨h, _, _⟩; exact ⟨(a.trans HT.out).symm, b⟩; exact absurd HF.out h); subst hs; subst hE; have c0 := (hb2.cell (World.block_lt_of_cell? _ _ c0)).trans c0; have c1 := (hb2.cell (World.block_lt_of_cell? _ _ c1)).trans c1; have c2 := (hb2.cell (World.block_lt_of_cell? _ _ c2)).trans c2; have c3 := (hb2.cell (World.block_lt_of_cell? _ _ c3)).trans c3; have d0 := (hb2.cell (World.block_lt_of_cell? _ _ d0)).trans d0; have d1 := (hb2.cell (World.block_lt_of_cell? _ _ d1)).trans d1; have d2 := (hb2.cell (World.block_lt_of_cell? _ _ d2)).trans d2; have d3 := (hb2.cell (World.block_lt_of_cell? _ _ d3)).trans d3; have HBn := Aside0.mk (HB.out.trans (hb2.mono HB.out.size)); have HCn := Aside0.mk (And.intro (Kd.C_below HC.out.1 hb2) (And.intro (Kd.C_below HC.out.2.1 hb2) HC.out.2.2)); clear HB HC hb2; have HB := HBn; have HC := HCn; clear HBn HCn; clear hw) | (go_at_call 20; (with_reducible refine (reftext_any W H A c ws A' c' sp _ HSP.out HC.out.1 HC.out.2.2.1 HC.out.2.1 HC.out.2.2.2).mono ?_); rintro e w6 ⟨s, er, he, hw, hb2⟩; subst he; obtain ⟨hs, hE⟩ : T = s ∧ er = 0 := (by rcases hw with ⟨_, a, b⟩ | ⟨h, _, _⟩; exact ⟨(a.trans HT.out).symm, b⟩; exact absurd HF.out h); subst hs; subst hE; have c0 := (hb2.cell (World.block_lt_of_cell? _ _ c0)).trans c0; have c1 := (hb2.cell (World.block_lt_of_cell? _ _ c1)).trans c1; have c2 := (hb2.cell (World.block_lt_of_cell? _ _ c2)).trans c2; have c3 := (hb2.cell (World.block_lt_of_cell? _ _ c3)).trans c3; have d0 := (hb2.cell (World.block_lt_of_cell? _ _ d0)).trans d0; have d1 := (hb2.cell (World.block_lt_of_cell? _ _ d1)).trans d1; have d2 := (hb2.cell (World.block_lt_of_cell? _ _ d2)).trans d2; have d3 := (hb2.cell (World.block_lt_of_cell? _ _ d3)).trans d3; have HBn := Aside0.mk (HB.out.trans (hb2.mono HB.out.size)); have HCn := Aside0.mk (And.intro (Kd.C_below HC.out.1 hb2) (And.intro (Kd.C_below HC.out.2.1 hb2) HC.out.2.2)); clear HB HC hb2; have HB := HBn; have HC := HCn; clear HBn HCn; clear hw))
    have HK0 := Aside0.mk (below_drew (Below.refl w6.heap.size w6))
    refine start_ (n := 27) (S := fun w' => w'.cell? ⟨B, 0, none⟩ = some (.int .i64 W) ∧ w'.cell? ⟨B, 1, none⟩ = some (.int .i64 H) ∧ w'.cell? ⟨B, 2, none⟩ = some (.slice A ws.length c) ∧ w'.cell? ⟨B, 3, none⟩ = some (.slice A' sp.length c') ∧ w'.cell? ⟨D, 0, none⟩ = some (.int .i64 W) ∧ w'.cell? ⟨D, 1, none⟩ = some (.int .i64 H) ∧ w'.cell? ⟨D, 2, none⟩ = some (.slice A ws.length c) ∧ w'.cell? ⟨D, 3, none⟩ = some (.slice A' sp.length c')) (ds := []) #[false, false, false, false, false, false, false, false, false, false, false, false, false, false, false, false, false, false, false, false, false, false, false, false, false, false, false] (by kernel_rfl) rfl rfl ⟨((HK0.out.cell (World.block_lt_of_cell? w6 _ c0)).trans c0), ((HK0.out.cell (World.block_lt_of_cell? w6 _ c1)).trans c1), ((HK0.out.cell (World.block_lt_of_cell? w6 _ c2)).trans c2), ((HK0.out.cell (World.block_lt_of_cell? w6 _ c3)).trans c3), ((HK0.out.cell (World.block_lt_of_cell? w6 _ d0)).trans d0), ((HK0.out.cell (World.block_lt_of_cell? w6 _ d1)).trans d1), ((HK0.out.cell (World.block_lt_of_cell? w6 _ d2)).trans d2), ((HK0.out.cell (World.block_lt_of_cell? w6 _ d3)).trans d3)⟩ (fun hHeld => ?_)
    refine take_ (i := 0) (N := some 31) (v := ?_) (a' := ?_) #[true, false, false, false, false, false, false, false, false, false, false, false, false, false, false, false, false, false, false, false, false, false, false, false, false, false, false] rfl rfl (by kernel_rfl) (fun _ _ _ h => h) (Or.inl ⟨by rfl, ?_⟩) hHeld ?_ ?_
    rotate_left
    · rintro w' ⟨s0, s1, s2, s3, s4, s5, s6, s7⟩
      go_simp
      with_reducible rfl
    rotate_left
    · simp only [Act.put, List.setIfInBounds_toArray, List.set_cons_zero, List.set_cons_succ, i64_w, i32_w]
      rfl
    refine take_ (i := 2) (N := some 33) (v := ?_) (a' := ?_) #[true, false, true, false, false, false, false, false, false, false, false, false, false, false, false, false, false, false, false, false, false, false, false, false, false, false, false] rfl rfl (by kernel_rfl) (fun _ _ _ h => h) (Or.inl ⟨by rfl, ?_⟩) hHeld ?_ ?_
    rotate_left
    · rintro w' ⟨s0, s1, s2, s3, s4, s5, s6, s7⟩
      go_simp
      with_reducible rfl
    rotate_left
    · simp only [Act.put, List.setIfInBounds_toArray, List.set_cons_zero, List.set_cons_succ, i64_w, i32_w]
      rfl
    refine one_ (i := 1) (N := some 32) #[true, true, true, false, false, false, false, false, false, false, false, false, false, false, false, false, false, false, false, false, false, false, false, false, false, false, false] rfl rfl (by kernel_rfl) (by decide) (fun K hK => ?_)
    refine goes_ Try.func17 (by kernel_rfl) rfl #[.agg #[.int .i64 W, .int .i64 H, .slice A ws.length c, .slice A' sp.length c']] (by rfl) rfl rfl (by simp only [List.map_toArray, List.map_cons, List.map_nil]; rfl) ?_
    with_reducible refine (formed_any W H A c ws A' c' sp _ (Kd.C_below HC.out.1 HK0.out) HC.out.2.2.1 (Kd.C_below HC.out.2.1 HK0.out) HC.out.2.2.2).mono ?_
    rintro e w21 ⟨r1, rfl, hr1, hb1⟩
    refine ⟨_, rfl, ?_⟩
    obtain rfl : r1 = true := hr1.2 HF.out
    have HK1 := Aside0.mk (HK0.out.trans (hb1.mono HK0.out.size))
    clear hr1 hb1
    refine hK.out _ _ ⟨((HK1.out.cell (World.block_lt_of_cell? w6 _ c0)).trans c0), ((HK1.out.cell (World.block_lt_of_cell? w6 _ c1)).trans c1), ((HK1.out.cell (World.block_lt_of_cell? w6 _ c2)).trans c2), ((HK1.out.cell (World.block_lt_of_cell? w6 _ c3)).trans c3), ((HK1.out.cell (World.block_lt_of_cell? w6 _ d0)).trans d0), ((HK1.out.cell (World.block_lt_of_cell? w6 _ d1)).trans d1), ((HK1.out.cell (World.block_lt_of_cell? w6 _ d2)).trans d2), ((HK1.out.cell (World.block_lt_of_cell? w6 _ d3)).trans d3)⟩ (fun hHeld => ?_)
    clear hK K
    refine norm_ (a' := ?_) ?_ ?_
    rotate_left
    · show Act.put _ (some 32) _ = _
      simp only [Act.put, List.setIfInBounds_toArray, List.set_cons_zero, List.set_cons_succ, i64_w, i32_w]
      rfl
    refine one_ (i := 3) (N := some 34) #[true, true, true, true, false, false, false, false, false, false, false, false, false, false, false, false, false, false, false, false, false, false, false, false, false, false, false] rfl rfl (by kernel_rfl) (by decide) (fun K hK => ?_)
    refine goes_ Try.func21 (by kernel_rfl) rfl #[.agg #[.int .i64 W, .int .i64 H, .slice A ws.length c, .slice A' sp.length c']] (by rfl) rfl rfl (by simp only [List.map_toArray, List.map_cons, List.map_nil]; rfl) ?_
    with_reducible refine (refformed_any W H A c ws A' c' sp _ HSP.out (Kd.C_below HC.out.1 HK1.out) HC.out.2.2.1 (Kd.C_below HC.out.2.1 HK1.out) HC.out.2.2.2).mono ?_
    rintro e w22 ⟨r2, rfl, hr2, hb2⟩
    refine ⟨_, rfl, ?_⟩
    obtain rfl : r2 = true := hr2.2 HF.out
    have HK2 := Aside0.mk (HK1.out.trans (hb2.mono HK1.out.size))
    clear hr2 hb2
    refine hK.out _ _ ⟨((HK2.out.cell (World.block_lt_of_cell? w6 _ c0)).trans c0), ((HK2.out.cell (World.block_lt_of_cell? w6 _ c1)).trans c1), ((HK2.out.cell (World.block_lt_of_cell? w6 _ c2)).trans c2), ((HK2.out.cell (World.block_lt_of_cell? w6 _ c3)).trans c3), ((HK2.out.cell (World.block_lt_of_cell? w6 _ d0)).trans d0), ((HK2.out.cell (World.block_lt_of_cell? w6 _ d1)).trans d1), ((HK2.out.cell (World.block_lt_of_cell? w6 _ d2)).trans d2), ((HK2.out.cell (World.block_lt_of_cell? w6 _ d3)).trans d3)⟩ (fun hHeld => ?_)
    clear hK K
    refine norm_ (a' := ?_) ?_ ?_
    rotate_left
    · show Act.put _ (some 34) _ = _
      simp only [Act.put, List.setIfInBounds_toArray, List.set_cons_zero, List.set_cons_succ, i64_w, i32_w]
      rfl
    refine pure_ (i := 4) (N := some 35) (v := ?_) (a' := ?_) #[true, true, true, true, true, false, false, false, false, false, false, false, false, false, false, false, false, false, false, false, false, false, false, false, false, false, false] rfl rfl (by kernel_rfl) (fun _ _ _ h => h) (Or.inl ⟨by rfl, ?_⟩) ?_ ?_
    rotate_left
    · intro w'
      go_simp
      with_reducible rfl
    rotate_left
    · simp only [Act.put, List.setIfInBounds_toArray, List.set_cons_zero, List.set_cons_succ, i64_w, i32_w]
      rfl
    refine pure_ (i := 5) (N := some 36) (v := ?_) (a' := ?_) #[true, true, true, true, true, true, false, false, false, false, false, false, false, false, false, false, false, false, false, false, false, false, false, false, false, false, false] rfl rfl (by kernel_rfl) (fun _ _ _ h => h) (Or.inl ⟨by rfl, ?_⟩) ?_ ?_
    rotate_left
    · intro w'
      go_simp
      with_reducible rfl
    rotate_left
    · simp only [Act.put, List.setIfInBounds_toArray, List.set_cons_zero, List.set_cons_succ, i64_w, i32_w]
      rfl
    refine pure_ (i := 6) (N := some 37) (v := ?_) (a' := ?_) #[true, true, true, true, true, true, true, false, false, false, false, false, false, false, false, false, false, false, false, false, false, false, false, false, false, false, false] rfl rfl (by kernel_rfl) (fun _ _ _ h => h) (Or.inl ⟨by rfl, ?_⟩) ?_ ?_
    rotate_left
    · intro w'
      go_simp
      with_reducible rfl
    rotate_left
    · simp only [Act.put, List.setIfInBounds_toArray, List.set_cons_zero, List.set_cons_succ, i64_w, i32_w]
      rfl
    refine pure_ (i := 7) (N := some 38) (v := ?_) (a' := ?_) #[true, true, true, true, true, true, true, true, false, false, false, false, false, false, false, false, false, false, false, false, false, false, false, false, false, false, false] rfl rfl (by kernel_rfl) (fun _ _ _ h => h) (Or.inl ⟨by rfl, ?_⟩) ?_ ?_
    rotate_left
    · intro w'
      go_simp
      with_reducible rfl
    rotate_left
    · simp only [Act.put, List.setIfInBounds_toArray, List.set_cons_zero, List.set_cons_succ, i64_w, i32_w]
      rfl
    refine pure_ (i := 8) (N := some 39) (v := ?_) (a' := ?_) #[true, true, true, true, true, true, true, true, true, false, false, false, false, false, false, false, false, false, false, false, false, false, false, false, false, false, false] rfl rfl (by kernel_rfl) (fun _ _ _ h => h) (Or.inl ⟨by rfl, ?_⟩) ?_ ?_
    rotate_left
    · intro w'
      go_simp
      with_reducible rfl
    rotate_left
    · simp only [Act.put, List.setIfInBounds_toArray, List.set_cons_zero, List.set_cons_succ, i64_w, i32_w]
      rfl
    refine pure_ (i := 9) (N := some 40) (v := ?_) (a' := ?_) #[true, true, true, true, true, true, true, true, true, true, false, false, false, false, false, false, false, false, false, false, false, false, false, false, false, false, false] rfl rfl (by kernel_rfl) (fun _ _ _ h => h) (Or.inl ⟨by rfl, ?_⟩) ?_ ?_
    rotate_left
    · intro w'
      go_simp
      with_reducible rfl
    rotate_left
    · simp only [Act.put, List.setIfInBounds_toArray, List.set_cons_zero, List.set_cons_succ, i64_w, i32_w]
      rfl
    refine pure_ (i := 10) (N := some 41) (v := ?_) (a' := ?_) #[true, true, true, true, true, true, true, true, true, true, true, false, false, false, false, false, false, false, false, false, false, false, false, false, false, false, false] rfl rfl (by kernel_rfl) (fun _ _ _ h => h) (Or.inl ⟨by rfl, ?_⟩) ?_ ?_
    rotate_left
    · intro w'
      go_simp
      with_reducible rfl
    rotate_left
    · simp only [Act.put, List.setIfInBounds_toArray, List.set_cons_zero, List.set_cons_succ, i64_w, i32_w]
      rfl
    refine pure_ (i := 11) (N := some 42) (v := ?_) (a' := ?_) #[true, true, true, true, true, true, true, true, true, true, true, true, false, false, false, false, false, false, false, false, false, false, false, false, false, false, false] rfl rfl (by kernel_rfl) (fun _ _ _ h => h) (Or.inl ⟨by rfl, ?_⟩) ?_ ?_
    rotate_left
    · intro w'
      go_simp
      with_reducible rfl
    rotate_left
    · simp only [Act.put, List.setIfInBounds_toArray, List.set_cons_zero, List.set_cons_succ, i64_w, i32_w]
      rfl
    refine pure_ (i := 12) (N := some 43) (v := ?_) (a' := ?_) #[true, true, true, true, true, true, true, true, true, true, true, true, true, false, false, false, false, false, false, false, false, false, false, false, false, false, false] rfl rfl (by kernel_rfl) (fun _ _ _ h => h) (Or.inl ⟨by rfl, ?_⟩) ?_ ?_
    rotate_left
    · intro w'
      go_simp
      with_reducible rfl
    rotate_left
    · simp only [Act.put, List.setIfInBounds_toArray, List.set_cons_zero, List.set_cons_succ, i64_w, i32_w]
      rfl
    refine pure_ (i := 13) (N := some 44) (v := ?_) (a' := ?_) #[true, true, true, true, true, true, true, true, true, true, true, true, true, true, false, false, false, false, false, false, false, false, false, false, false, false, false] rfl rfl (by kernel_rfl) (fun _ _ _ h => h) (Or.inl ⟨by rfl, ?_⟩) ?_ ?_
    rotate_left
    · intro w'
      go_simp
      with_reducible rfl
    rotate_left
    · simp only [Act.put, List.setIfInBounds_toArray, List.set_cons_zero, List.set_cons_succ, i64_w, i32_w]
      rfl
    refine pure_ (i := 14) (N := some 45) (v := ?_) (a' := ?_) #[true, true, true, true, true, true, true, true, true, true, true, true, true, true, true, false, false, false, false, false, false, false, false, false, false, false, false] rfl rfl (by kernel_rfl) (fun _ _ _ h => h) (Or.inl ⟨by rfl, ?_⟩) ?_ ?_
    rotate_left
    · intro w'
      go_simp
      with_reducible rfl
    rotate_left
    · simp only [Act.put, List.setIfInBounds_toArray, List.set_cons_zero, List.set_cons_succ, i64_w, i32_w]
      rfl
    refine pure_ (i := 15) (N := some 46) (v := ?_) (a' := ?_) #[true, true, true, true, true, true, true, true, true, true, true, true, true, true, true, true, false, false, false, false, false, false, false, false, false, false, false] rfl rfl (by kernel_rfl) (fun _ _ _ h => h) (Or.inl ⟨by rfl, ?_⟩) ?_ ?_
    rotate_left
    · intro w'
      go_simp
      with_reducible rfl
    rotate_left
    · simp only [Act.put, List.setIfInBounds_toArray, List.set_cons_zero, List.set_cons_succ, i64_w, i32_w]
      rfl
    refine pure_ (i := 17) (N := some 48) (v := ?_) (a' := ?_) #[true, true, true, true, true, true, true, true, true, true, true, true, true, true, true, true, false, true, false, false, false, false, false, false, false, false, false] rfl rfl (by kernel_rfl) (fun _ _ _ h => h) (Or.inl ⟨by rfl, ?_⟩) ?_ ?_
    rotate_left
    · intro w'
      go_simp
      with_reducible rfl
    rotate_left
    · simp only [Act.put, List.setIfInBounds_toArray, List.set_cons_zero, List.set_cons_succ, i64_w, i32_w]
      rfl
    refine pure_ (i := 18) (N := some 49) (v := ?_) (a' := ?_) #[true, true, true, true, true, true, true, true, true, true, true, true, true, true, true, true, false, true, true, false, false, false, false, false, false, false, false] rfl rfl (by kernel_rfl) (fun _ _ _ h => h) (Or.inl ⟨by rfl, ?_⟩) ?_ ?_
    rotate_left
    · intro w'
      go_simp
      with_reducible rfl
    rotate_left
    · simp only [Act.put, List.setIfInBounds_toArray, List.set_cons_zero, List.set_cons_succ, i64_w, i32_w]
      rfl
    refine pure_ (i := 21) (N := some 52) (v := ?_) (a' := ?_) #[true, true, true, true, true, true, true, true, true, true, true, true, true, true, true, true, false, true, true, false, false, true, false, false, false, false, false] rfl rfl (by kernel_rfl) (fun _ _ _ h => h) (Or.inl ⟨by rfl, ?_⟩) ?_ ?_
    rotate_left
    · intro w'
      go_simp
      with_reducible rfl
    rotate_left
    · simp only [Act.put, List.setIfInBounds_toArray, List.set_cons_zero, List.set_cons_succ, i64_w, i32_w]
      rfl
    refine pure_ (i := 22) (N := some 53) (v := ?_) (a' := ?_) #[true, true, true, true, true, true, true, true, true, true, true, true, true, true, true, true, false, true, true, false, false, true, true, false, false, false, false] rfl rfl (by kernel_rfl) (fun _ _ _ h => h) (Or.inl ⟨by rfl, ?_⟩) ?_ ?_
    rotate_left
    · intro w'
      go_simp
      with_reducible rfl
    rotate_left
    · simp only [Act.put, List.setIfInBounds_toArray, List.set_cons_zero, List.set_cons_succ, i64_w, i32_w]
      rfl
    refine take_ (i := 16) (N := some 47) (v := ?_) (a' := ?_) #[true, true, true, true, true, true, true, true, true, true, true, true, true, true, true, true, true, true, true, false, false, true, true, false, false, false, false] rfl rfl (by kernel_rfl) (fun _ _ _ h => h) (Or.inl ⟨by rfl, ?_⟩) hHeld ?_ ?_
    rotate_left
    · rintro w' ⟨s0, s1, s2, s3, s4, s5, s6, s7⟩
      go_simp
      with_reducible rfl
    rotate_left
    · simp only [Act.put, List.setIfInBounds_toArray, List.set_cons_zero, List.set_cons_succ, i64_w, i32_w]
      rfl
    refine take_ (i := 20) (N := some 51) (v := ?_) (a' := ?_) #[true, true, true, true, true, true, true, true, true, true, true, true, true, true, true, true, true, true, true, false, true, true, true, false, false, false, false] rfl rfl (by kernel_rfl) (fun _ _ _ h => h) (Or.inl ⟨by rfl, ?_⟩) hHeld ?_ ?_
    rotate_left
    · rintro w' ⟨s0, s1, s2, s3, s4, s5, s6, s7⟩
      go_simp
      with_reducible rfl
    rotate_left
    · simp only [Act.put, List.setIfInBounds_toArray, List.set_cons_zero, List.set_cons_succ, i64_w, i32_w]
      rfl
    refine one_ (i := 19) (N := some 50) #[true, true, true, true, true, true, true, true, true, true, true, true, true, true, true, true, true, true, true, true, true, true, true, false, false, false, false] rfl rfl (by kernel_rfl) (by decide) (fun K hK => ?_)
    refine goes_ Try.func18 (by kernel_rfl) rfl #[.agg #[.int .i64 W, .int .i64 H, .slice A ws.length c, .slice A' sp.length c'], .int .i64 x, .int .i64 y] (by rfl) rfl rfl (by simp only [List.map_toArray, List.map_cons, List.map_nil]; rfl) ?_
    with_reducible refine (wall_any W H A c ws A' c' sp x y _ (Kd.C_below HC.out.1 HK2.out) HC.out.2.2.1 (Kd.C_below HC.out.2.1 HK2.out) HC.out.2.2.2).mono ?_
    rintro e w23 ⟨r3, rfl, hr3, hb3⟩
    refine ⟨_, rfl, ?_⟩
    have HR3 := Aside0.mk hr3
    have HK3 := Aside0.mk (HK2.out.trans (hb3.mono HK2.out.size))
    clear hr3 hb3
    refine hK.out _ _ ⟨((HK3.out.cell (World.block_lt_of_cell? w6 _ c0)).trans c0), ((HK3.out.cell (World.block_lt_of_cell? w6 _ c1)).trans c1), ((HK3.out.cell (World.block_lt_of_cell? w6 _ c2)).trans c2), ((HK3.out.cell (World.block_lt_of_cell? w6 _ c3)).trans c3), ((HK3.out.cell (World.block_lt_of_cell? w6 _ d0)).trans d0), ((HK3.out.cell (World.block_lt_of_cell? w6 _ d1)).trans d1), ((HK3.out.cell (World.block_lt_of_cell? w6 _ d2)).trans d2), ((HK3.out.cell (World.block_lt_of_cell? w6 _ d3)).trans d3)⟩ (fun hHeld => ?_)
    clear hK K
    refine norm_ (a' := ?_) ?_ ?_
    rotate_left
    · show Act.put _ (some 50) _ = _
      simp only [Act.put, List.setIfInBounds_toArray, List.set_cons_zero, List.set_cons_succ, i64_w, i32_w]
      rfl
    refine one_ (i := 23) (N := some 54) #[true, true, true, true, true, true, true, true, true, true, true, true, true, true, true, true, true, true, true, true, true, true, true, true, false, false, false] rfl rfl (by kernel_rfl) (by decide) (fun K hK => ?_)
    refine goes_ Try.func22 (by kernel_rfl) rfl #[.agg #[.int .i64 W, .int .i64 H, .slice A ws.length c, .slice A' sp.length c'], .int .i64 x, .int .i64 y] (by rfl) rfl rfl (by simp only [List.map_toArray, List.map_cons, List.map_nil]; rfl) ?_
    with_reducible refine (refwall_any W H A c ws A' c' sp x y _ HSP.out (Kd.C_below HC.out.1 HK3.out) HC.out.2.2.1 (Kd.C_below HC.out.2.1 HK3.out) HC.out.2.2.2).mono ?_
    rintro e w24 ⟨r4, rfl, hr4, hb4⟩
    refine ⟨_, rfl, ?_⟩
    have HR4 := Aside0.mk hr4
    have HK4 := Aside0.mk (HK3.out.trans (hb4.mono HK3.out.size))
    clear hr4 hb4
    refine hK.out _ _ ⟨((HK4.out.cell (World.block_lt_of_cell? w6 _ c0)).trans c0), ((HK4.out.cell (World.block_lt_of_cell? w6 _ c1)).trans c1), ((HK4.out.cell (World.block_lt_of_cell? w6 _ c2)).trans c2), ((HK4.out.cell (World.block_lt_of_cell? w6 _ c3)).trans c3), ((HK4.out.cell (World.block_lt_of_cell? w6 _ d0)).trans d0), ((HK4.out.cell (World.block_lt_of_cell? w6 _ d1)).trans d1), ((HK4.out.cell (World.block_lt_of_cell? w6 _ d2)).trans d2), ((HK4.out.cell (World.block_lt_of_cell? w6 _ d3)).trans d3)⟩ (fun hHeld => ?_)
    clear hK K
    refine norm_ (a' := ?_) ?_ ?_
    rotate_left
    · show Act.put _ (some 54) _ = _
      simp only [Act.put, List.setIfInBounds_toArray, List.set_cons_zero, List.set_cons_succ, i64_w, i32_w]
      rfl
    refine pure_ (i := 24) (N := some 55) (v := ?_) (a' := ?_) #[true, true, true, true, true, true, true, true, true, true, true, true, true, true, true, true, true, true, true, true, true, true, true, true, true, false, false] rfl rfl (by kernel_rfl) (fun _ _ _ h => h) (Or.inl ⟨by rfl, ?_⟩) ?_ ?_
    rotate_left
    · intro w'
      go_simp
      with_reducible rfl
    rotate_left
    · simp only [Act.put, List.setIfInBounds_toArray, List.set_cons_zero, List.set_cons_succ, i64_w, i32_w]
      rfl
    refine pure_ (i := 25) (N := some 56) (v := ?_) (a' := ?_) #[true, true, true, true, true, true, true, true, true, true, true, true, true, true, true, true, true, true, true, true, true, true, true, true, true, true, false] rfl rfl (by kernel_rfl) (fun _ _ _ h => h) (Or.inl ⟨by rfl, ?_⟩) ?_ ?_
    rotate_left
    · intro w'
      go_simp
      with_reducible rfl
    rotate_left
    · simp only [Act.put, List.setIfInBounds_toArray, List.set_cons_zero, List.set_cons_succ, i64_w, i32_w]
      rfl
    refine pure_ (i := 26) (N := some 6) (v := ?_) (a' := ?_) #[true, true, true, true, true, true, true, true, true, true, true, true, true, true, true, true, true, true, true, true, true, true, true, true, true, true, true] rfl rfl (by kernel_rfl) (fun _ _ _ h => h) (Or.inl ⟨by rfl, ?_⟩) ?_ ?_
    rotate_left
    · intro w'
      go_simp
      with_reducible rfl
    rotate_left
    · simp only [Act.put, List.setIfInBounds_toArray, List.set_cons_zero, List.set_cons_succ, i64_w, i32_w]
      rfl
    refine done_ (by kernel_rfl) ?_
    have hbr : (r3 == r4) = true := by
      have h : r3 = true ↔ r4 = true := HR3.out.trans HR4.out.symm
      cases r3 <;> cases r4 <;> simp_all
    go_wp2_with fail
    try rw [hbr]
    go_ret
    exact ⟨rfl, HB.out.trans (HK4.out.mono HB.out.size)⟩
  · have HF := Aside0.mk hf
    clear hf
    obtain ⟨T, hT⟩ : ∃ T : ByteArray, (⟨#[]⟩ : ByteArray) = T := ⟨_, rfl⟩
    have HT := Aside0.mk hT
    clear hT
    go_upto_region 6 with (first | (go_at_call 19; (with_reducible refine (text_any W H A c ws A' c' sp _ HSP.out HC.out.1 HC.out.2.2.1 HC.out.2.1 HC.out.2.2.2).mono ?_); rintro e w5 ⟨s, er, he, hw, hb2⟩; subst he; obtain ⟨hs, hE⟩ : T = s ∧ er = 1 := (by rcases hw with ⟨h, _, _⟩ | ⟨_, a, b⟩; exact absurd h HF.out; exact ⟨(a.trans HT.out).symm, b⟩); subst hs; subst hE; have c0 := (hb2.cell (World.block_lt_of_cell? _ _ c0)).trans c0; have c1 := (hb2.cell (World.block_lt_of_cell? _ _ c1)).trans c1; have c2 := (hb2.cell (World.block_lt_of_cell? _ _ c2)).trans c2; have c3 := (hb2.cell (World.block_lt_of_cell? _ _ c3)).trans c3; have d0 := (hb2.cell (World.block_lt_of_cell? _ _ d0)).trans d0; have d1 := (hb2.cell (World.block_lt_of_cell? _ _ d1)).trans d1; have d2 := (hb2.cell (World.block_lt_of_cell? _ _ d2)).trans d2; have d3 := (hb2.cell (World.block_lt_of_cell? _ _ d3)).trans d3; have HBn := Aside0.mk (HB.out.trans (hb2.mono HB.out.size)); have HCn := Aside0.mk (And.intro (Kd.C_below HC.out.1 hb2) (And.intro (Kd.C_below HC.out.2.1 hb2) HC.out.2.2)); clear HB HC hb2; have HB := HBn; have HC := HCn; clear HBn HCn; clear hw) | (go_at_call 20; (with_reducible refine (reftext_any W H A c ws A' c' sp _ HSP.out HC.out.1 HC.out.2.2.1 HC.out.2.1 HC.out.2.2.2).mono ?_); rintro e w6 ⟨s, er, he, hw, hb2⟩; subst he; obtain ⟨hs, hE⟩ : T = s ∧ er = 1 := (by rcases hw with ⟨h, _, _⟩ | ⟨_, a, b⟩; exact absurd h HF.out; exact ⟨(a.trans HT.out).symm, b⟩); subst hs; subst hE; have c0 := (hb2.cell (World.block_lt_of_cell? _ _ c0)).trans c0; have c1 := (hb2.cell (World.block_lt_of_cell? _ _ c1)).trans c1; have c2 := (hb2.cell (World.block_lt_of_cell? _ _ c2)).trans c2; have c3 := (hb2.cell (World.block_lt_of_cell? _ _ c3)).trans c3; have d0 := (hb2.cell (World.block_lt_of_cell? _ _ d0)).trans d0; have d1 := (hb2.cell (World.block_lt_of_cell? _ _ d1)).trans d1; have d2 := (hb2.cell (World.block_lt_of_cell? _ _ d2)).trans d2; have d3 := (hb2.cell (World.block_lt_of_cell? _ _ d3)).trans d3; have HBn := Aside0.mk (HB.out.trans (hb2.mono HB.out.size)); have HCn := Aside0.mk (And.intro (Kd.C_below HC.out.1 hb2) (And.intro (Kd.C_below HC.out.2.1 hb2) HC.out.2.2)); clear HB HC hb2; have HB := HBn; have HC := HCn; clear HBn HCn; clear hw))
    have HK0 := Aside0.mk (below_drew (Below.refl w6.heap.size w6))
    refine start_ (n := 27) (S := fun w' => w'.cell? ⟨B, 0, none⟩ = some (.int .i64 W) ∧ w'.cell? ⟨B, 1, none⟩ = some (.int .i64 H) ∧ w'.cell? ⟨B, 2, none⟩ = some (.slice A ws.length c) ∧ w'.cell? ⟨B, 3, none⟩ = some (.slice A' sp.length c') ∧ w'.cell? ⟨D, 0, none⟩ = some (.int .i64 W) ∧ w'.cell? ⟨D, 1, none⟩ = some (.int .i64 H) ∧ w'.cell? ⟨D, 2, none⟩ = some (.slice A ws.length c) ∧ w'.cell? ⟨D, 3, none⟩ = some (.slice A' sp.length c')) (ds := []) #[false, false, false, false, false, false, false, false, false, false, false, false, false, false, false, false, false, false, false, false, false, false, false, false, false, false, false] (by kernel_rfl) rfl rfl ⟨((HK0.out.cell (World.block_lt_of_cell? w6 _ c0)).trans c0), ((HK0.out.cell (World.block_lt_of_cell? w6 _ c1)).trans c1), ((HK0.out.cell (World.block_lt_of_cell? w6 _ c2)).trans c2), ((HK0.out.cell (World.block_lt_of_cell? w6 _ c3)).trans c3), ((HK0.out.cell (World.block_lt_of_cell? w6 _ d0)).trans d0), ((HK0.out.cell (World.block_lt_of_cell? w6 _ d1)).trans d1), ((HK0.out.cell (World.block_lt_of_cell? w6 _ d2)).trans d2), ((HK0.out.cell (World.block_lt_of_cell? w6 _ d3)).trans d3)⟩ (fun hHeld => ?_)
    refine take_ (i := 0) (N := some 31) (v := ?_) (a' := ?_) #[true, false, false, false, false, false, false, false, false, false, false, false, false, false, false, false, false, false, false, false, false, false, false, false, false, false, false] rfl rfl (by kernel_rfl) (fun _ _ _ h => h) (Or.inl ⟨by rfl, ?_⟩) hHeld ?_ ?_
    rotate_left
    · rintro w' ⟨s0, s1, s2, s3, s4, s5, s6, s7⟩
      go_simp
      with_reducible rfl
    rotate_left
    · simp only [Act.put, List.setIfInBounds_toArray, List.set_cons_zero, List.set_cons_succ, i64_w, i32_w]
      rfl
    refine take_ (i := 2) (N := some 33) (v := ?_) (a' := ?_) #[true, false, true, false, false, false, false, false, false, false, false, false, false, false, false, false, false, false, false, false, false, false, false, false, false, false, false] rfl rfl (by kernel_rfl) (fun _ _ _ h => h) (Or.inl ⟨by rfl, ?_⟩) hHeld ?_ ?_
    rotate_left
    · rintro w' ⟨s0, s1, s2, s3, s4, s5, s6, s7⟩
      go_simp
      with_reducible rfl
    rotate_left
    · simp only [Act.put, List.setIfInBounds_toArray, List.set_cons_zero, List.set_cons_succ, i64_w, i32_w]
      rfl
    refine one_ (i := 1) (N := some 32) #[true, true, true, false, false, false, false, false, false, false, false, false, false, false, false, false, false, false, false, false, false, false, false, false, false, false, false] rfl rfl (by kernel_rfl) (by decide) (fun K hK => ?_)
    refine goes_ Try.func17 (by kernel_rfl) rfl #[.agg #[.int .i64 W, .int .i64 H, .slice A ws.length c, .slice A' sp.length c']] (by rfl) rfl rfl (by simp only [List.map_toArray, List.map_cons, List.map_nil]; rfl) ?_
    with_reducible refine (formed_any W H A c ws A' c' sp _ (Kd.C_below HC.out.1 HK0.out) HC.out.2.2.1 (Kd.C_below HC.out.2.1 HK0.out) HC.out.2.2.2).mono ?_
    rintro e w21 ⟨r1, rfl, hr1, hb1⟩
    refine ⟨_, rfl, ?_⟩
    obtain rfl : r1 = false := (by cases r1 <;> first | rfl | exact absurd (hr1.1 rfl) HF.out)
    have HK1 := Aside0.mk (HK0.out.trans (hb1.mono HK0.out.size))
    clear hr1 hb1
    refine hK.out _ _ ⟨((HK1.out.cell (World.block_lt_of_cell? w6 _ c0)).trans c0), ((HK1.out.cell (World.block_lt_of_cell? w6 _ c1)).trans c1), ((HK1.out.cell (World.block_lt_of_cell? w6 _ c2)).trans c2), ((HK1.out.cell (World.block_lt_of_cell? w6 _ c3)).trans c3), ((HK1.out.cell (World.block_lt_of_cell? w6 _ d0)).trans d0), ((HK1.out.cell (World.block_lt_of_cell? w6 _ d1)).trans d1), ((HK1.out.cell (World.block_lt_of_cell? w6 _ d2)).trans d2), ((HK1.out.cell (World.block_lt_of_cell? w6 _ d3)).trans d3)⟩ (fun hHeld => ?_)
    clear hK K
    refine norm_ (a' := ?_) ?_ ?_
    rotate_left
    · show Act.put _ (some 32) _ = _
      simp only [Act.put, List.setIfInBounds_toArray, List.set_cons_zero, List.set_cons_succ, i64_w, i32_w]
      rfl
    refine one_ (i := 3) (N := some 34) #[true, true, true, true, false, false, false, false, false, false, false, false, false, false, false, false, false, false, false, false, false, false, false, false, false, false, false] rfl rfl (by kernel_rfl) (by decide) (fun K hK => ?_)
    refine goes_ Try.func21 (by kernel_rfl) rfl #[.agg #[.int .i64 W, .int .i64 H, .slice A ws.length c, .slice A' sp.length c']] (by rfl) rfl rfl (by simp only [List.map_toArray, List.map_cons, List.map_nil]; rfl) ?_
    with_reducible refine (refformed_any W H A c ws A' c' sp _ HSP.out (Kd.C_below HC.out.1 HK1.out) HC.out.2.2.1 (Kd.C_below HC.out.2.1 HK1.out) HC.out.2.2.2).mono ?_
    rintro e w22 ⟨r2, rfl, hr2, hb2⟩
    refine ⟨_, rfl, ?_⟩
    obtain rfl : r2 = false := (by cases r2 <;> first | rfl | exact absurd (hr2.1 rfl) HF.out)
    have HK2 := Aside0.mk (HK1.out.trans (hb2.mono HK1.out.size))
    clear hr2 hb2
    refine hK.out _ _ ⟨((HK2.out.cell (World.block_lt_of_cell? w6 _ c0)).trans c0), ((HK2.out.cell (World.block_lt_of_cell? w6 _ c1)).trans c1), ((HK2.out.cell (World.block_lt_of_cell? w6 _ c2)).trans c2), ((HK2.out.cell (World.block_lt_of_cell? w6 _ c3)).trans c3), ((HK2.out.cell (World.block_lt_of_cell? w6 _ d0)).trans d0), ((HK2.out.cell (World.block_lt_of_cell? w6 _ d1)).trans d1), ((HK2.out.cell (World.block_lt_of_cell? w6 _ d2)).trans d2), ((HK2.out.cell (World.block_lt_of_cell? w6 _ d3)).trans d3)⟩ (fun hHeld => ?_)
    clear hK K
    refine norm_ (a' := ?_) ?_ ?_
    rotate_left
    · show Act.put _ (some 34) _ = _
      simp only [Act.put, List.setIfInBounds_toArray, List.set_cons_zero, List.set_cons_succ, i64_w, i32_w]
      rfl
    refine pure_ (i := 4) (N := some 35) (v := ?_) (a' := ?_) #[true, true, true, true, true, false, false, false, false, false, false, false, false, false, false, false, false, false, false, false, false, false, false, false, false, false, false] rfl rfl (by kernel_rfl) (fun _ _ _ h => h) (Or.inl ⟨by rfl, ?_⟩) ?_ ?_
    rotate_left
    · intro w'
      go_simp
      with_reducible rfl
    rotate_left
    · simp only [Act.put, List.setIfInBounds_toArray, List.set_cons_zero, List.set_cons_succ, i64_w, i32_w]
      rfl
    refine pure_ (i := 5) (N := some 36) (v := ?_) (a' := ?_) #[true, true, true, true, true, true, false, false, false, false, false, false, false, false, false, false, false, false, false, false, false, false, false, false, false, false, false] rfl rfl (by kernel_rfl) (fun _ _ _ h => h) (Or.inl ⟨by rfl, ?_⟩) ?_ ?_
    rotate_left
    · intro w'
      go_simp
      with_reducible rfl
    rotate_left
    · simp only [Act.put, List.setIfInBounds_toArray, List.set_cons_zero, List.set_cons_succ, i64_w, i32_w]
      rfl
    refine pure_ (i := 6) (N := some 37) (v := ?_) (a' := ?_) #[true, true, true, true, true, true, true, false, false, false, false, false, false, false, false, false, false, false, false, false, false, false, false, false, false, false, false] rfl rfl (by kernel_rfl) (fun _ _ _ h => h) (Or.inl ⟨by rfl, ?_⟩) ?_ ?_
    rotate_left
    · intro w'
      go_simp
      with_reducible rfl
    rotate_left
    · simp only [Act.put, List.setIfInBounds_toArray, List.set_cons_zero, List.set_cons_succ, i64_w, i32_w]
      rfl
    refine pure_ (i := 7) (N := some 38) (v := ?_) (a' := ?_) #[true, true, true, true, true, true, true, true, false, false, false, false, false, false, false, false, false, false, false, false, false, false, false, false, false, false, false] rfl rfl (by kernel_rfl) (fun _ _ _ h => h) (Or.inl ⟨by rfl, ?_⟩) ?_ ?_
    rotate_left
    · intro w'
      go_simp
      with_reducible rfl
    rotate_left
    · simp only [Act.put, List.setIfInBounds_toArray, List.set_cons_zero, List.set_cons_succ, i64_w, i32_w]
      rfl
    refine pure_ (i := 8) (N := some 39) (v := ?_) (a' := ?_) #[true, true, true, true, true, true, true, true, true, false, false, false, false, false, false, false, false, false, false, false, false, false, false, false, false, false, false] rfl rfl (by kernel_rfl) (fun _ _ _ h => h) (Or.inl ⟨by rfl, ?_⟩) ?_ ?_
    rotate_left
    · intro w'
      go_simp
      with_reducible rfl
    rotate_left
    · simp only [Act.put, List.setIfInBounds_toArray, List.set_cons_zero, List.set_cons_succ, i64_w, i32_w]
      rfl
    refine pure_ (i := 9) (N := some 40) (v := ?_) (a' := ?_) #[true, true, true, true, true, true, true, true, true, true, false, false, false, false, false, false, false, false, false, false, false, false, false, false, false, false, false] rfl rfl (by kernel_rfl) (fun _ _ _ h => h) (Or.inl ⟨by rfl, ?_⟩) ?_ ?_
    rotate_left
    · intro w'
      go_simp
      with_reducible rfl
    rotate_left
    · simp only [Act.put, List.setIfInBounds_toArray, List.set_cons_zero, List.set_cons_succ, i64_w, i32_w]
      rfl
    refine pure_ (i := 10) (N := some 41) (v := ?_) (a' := ?_) #[true, true, true, true, true, true, true, true, true, true, true, false, false, false, false, false, false, false, false, false, false, false, false, false, false, false, false] rfl rfl (by kernel_rfl) (fun _ _ _ h => h) (Or.inl ⟨by rfl, ?_⟩) ?_ ?_
    rotate_left
    · intro w'
      go_simp
      with_reducible rfl
    rotate_left
    · simp only [Act.put, List.setIfInBounds_toArray, List.set_cons_zero, List.set_cons_succ, i64_w, i32_w]
      rfl
    refine pure_ (i := 11) (N := some 42) (v := ?_) (a' := ?_) #[true, true, true, true, true, true, true, true, true, true, true, true, false, false, false, false, false, false, false, false, false, false, false, false, false, false, false] rfl rfl (by kernel_rfl) (fun _ _ _ h => h) (Or.inl ⟨by rfl, ?_⟩) ?_ ?_
    rotate_left
    · intro w'
      go_simp
      with_reducible rfl
    rotate_left
    · simp only [Act.put, List.setIfInBounds_toArray, List.set_cons_zero, List.set_cons_succ, i64_w, i32_w]
      rfl
    refine pure_ (i := 12) (N := some 43) (v := ?_) (a' := ?_) #[true, true, true, true, true, true, true, true, true, true, true, true, true, false, false, false, false, false, false, false, false, false, false, false, false, false, false] rfl rfl (by kernel_rfl) (fun _ _ _ h => h) (Or.inl ⟨by rfl, ?_⟩) ?_ ?_
    rotate_left
    · intro w'
      go_simp
      with_reducible rfl
    rotate_left
    · simp only [Act.put, List.setIfInBounds_toArray, List.set_cons_zero, List.set_cons_succ, i64_w, i32_w]
      rfl
    refine pure_ (i := 13) (N := some 44) (v := ?_) (a' := ?_) #[true, true, true, true, true, true, true, true, true, true, true, true, true, true, false, false, false, false, false, false, false, false, false, false, false, false, false] rfl rfl (by kernel_rfl) (fun _ _ _ h => h) (Or.inl ⟨by rfl, ?_⟩) ?_ ?_
    rotate_left
    · intro w'
      go_simp
      with_reducible rfl
    rotate_left
    · simp only [Act.put, List.setIfInBounds_toArray, List.set_cons_zero, List.set_cons_succ, i64_w, i32_w]
      rfl
    refine pure_ (i := 14) (N := some 45) (v := ?_) (a' := ?_) #[true, true, true, true, true, true, true, true, true, true, true, true, true, true, true, false, false, false, false, false, false, false, false, false, false, false, false] rfl rfl (by kernel_rfl) (fun _ _ _ h => h) (Or.inl ⟨by rfl, ?_⟩) ?_ ?_
    rotate_left
    · intro w'
      go_simp
      with_reducible rfl
    rotate_left
    · simp only [Act.put, List.setIfInBounds_toArray, List.set_cons_zero, List.set_cons_succ, i64_w, i32_w]
      rfl
    refine pure_ (i := 15) (N := some 46) (v := ?_) (a' := ?_) #[true, true, true, true, true, true, true, true, true, true, true, true, true, true, true, true, false, false, false, false, false, false, false, false, false, false, false] rfl rfl (by kernel_rfl) (fun _ _ _ h => h) (Or.inl ⟨by rfl, ?_⟩) ?_ ?_
    rotate_left
    · intro w'
      go_simp
      with_reducible rfl
    rotate_left
    · simp only [Act.put, List.setIfInBounds_toArray, List.set_cons_zero, List.set_cons_succ, i64_w, i32_w]
      rfl
    refine pure_ (i := 17) (N := some 48) (v := ?_) (a' := ?_) #[true, true, true, true, true, true, true, true, true, true, true, true, true, true, true, true, false, true, false, false, false, false, false, false, false, false, false] rfl rfl (by kernel_rfl) (fun _ _ _ h => h) (Or.inl ⟨by rfl, ?_⟩) ?_ ?_
    rotate_left
    · intro w'
      go_simp
      with_reducible rfl
    rotate_left
    · simp only [Act.put, List.setIfInBounds_toArray, List.set_cons_zero, List.set_cons_succ, i64_w, i32_w]
      rfl
    refine pure_ (i := 18) (N := some 49) (v := ?_) (a' := ?_) #[true, true, true, true, true, true, true, true, true, true, true, true, true, true, true, true, false, true, true, false, false, false, false, false, false, false, false] rfl rfl (by kernel_rfl) (fun _ _ _ h => h) (Or.inl ⟨by rfl, ?_⟩) ?_ ?_
    rotate_left
    · intro w'
      go_simp
      with_reducible rfl
    rotate_left
    · simp only [Act.put, List.setIfInBounds_toArray, List.set_cons_zero, List.set_cons_succ, i64_w, i32_w]
      rfl
    refine pure_ (i := 21) (N := some 52) (v := ?_) (a' := ?_) #[true, true, true, true, true, true, true, true, true, true, true, true, true, true, true, true, false, true, true, false, false, true, false, false, false, false, false] rfl rfl (by kernel_rfl) (fun _ _ _ h => h) (Or.inl ⟨by rfl, ?_⟩) ?_ ?_
    rotate_left
    · intro w'
      go_simp
      with_reducible rfl
    rotate_left
    · simp only [Act.put, List.setIfInBounds_toArray, List.set_cons_zero, List.set_cons_succ, i64_w, i32_w]
      rfl
    refine pure_ (i := 22) (N := some 53) (v := ?_) (a' := ?_) #[true, true, true, true, true, true, true, true, true, true, true, true, true, true, true, true, false, true, true, false, false, true, true, false, false, false, false] rfl rfl (by kernel_rfl) (fun _ _ _ h => h) (Or.inl ⟨by rfl, ?_⟩) ?_ ?_
    rotate_left
    · intro w'
      go_simp
      with_reducible rfl
    rotate_left
    · simp only [Act.put, List.setIfInBounds_toArray, List.set_cons_zero, List.set_cons_succ, i64_w, i32_w]
      rfl
    refine take_ (i := 16) (N := some 47) (v := ?_) (a' := ?_) #[true, true, true, true, true, true, true, true, true, true, true, true, true, true, true, true, true, true, true, false, false, true, true, false, false, false, false] rfl rfl (by kernel_rfl) (fun _ _ _ h => h) (Or.inl ⟨by rfl, ?_⟩) hHeld ?_ ?_
    rotate_left
    · rintro w' ⟨s0, s1, s2, s3, s4, s5, s6, s7⟩
      go_simp
      with_reducible rfl
    rotate_left
    · simp only [Act.put, List.setIfInBounds_toArray, List.set_cons_zero, List.set_cons_succ, i64_w, i32_w]
      rfl
    refine take_ (i := 20) (N := some 51) (v := ?_) (a' := ?_) #[true, true, true, true, true, true, true, true, true, true, true, true, true, true, true, true, true, true, true, false, true, true, true, false, false, false, false] rfl rfl (by kernel_rfl) (fun _ _ _ h => h) (Or.inl ⟨by rfl, ?_⟩) hHeld ?_ ?_
    rotate_left
    · rintro w' ⟨s0, s1, s2, s3, s4, s5, s6, s7⟩
      go_simp
      with_reducible rfl
    rotate_left
    · simp only [Act.put, List.setIfInBounds_toArray, List.set_cons_zero, List.set_cons_succ, i64_w, i32_w]
      rfl
    refine one_ (i := 19) (N := some 50) #[true, true, true, true, true, true, true, true, true, true, true, true, true, true, true, true, true, true, true, true, true, true, true, false, false, false, false] rfl rfl (by kernel_rfl) (by decide) (fun K hK => ?_)
    refine goes_ Try.func18 (by kernel_rfl) rfl #[.agg #[.int .i64 W, .int .i64 H, .slice A ws.length c, .slice A' sp.length c'], .int .i64 x, .int .i64 y] (by rfl) rfl rfl (by simp only [List.map_toArray, List.map_cons, List.map_nil]; rfl) ?_
    with_reducible refine (wall_any W H A c ws A' c' sp x y _ (Kd.C_below HC.out.1 HK2.out) HC.out.2.2.1 (Kd.C_below HC.out.2.1 HK2.out) HC.out.2.2.2).mono ?_
    rintro e w23 ⟨r3, rfl, hr3, hb3⟩
    refine ⟨_, rfl, ?_⟩
    have HR3 := Aside0.mk hr3
    have HK3 := Aside0.mk (HK2.out.trans (hb3.mono HK2.out.size))
    clear hr3 hb3
    refine hK.out _ _ ⟨((HK3.out.cell (World.block_lt_of_cell? w6 _ c0)).trans c0), ((HK3.out.cell (World.block_lt_of_cell? w6 _ c1)).trans c1), ((HK3.out.cell (World.block_lt_of_cell? w6 _ c2)).trans c2), ((HK3.out.cell (World.block_lt_of_cell? w6 _ c3)).trans c3), ((HK3.out.cell (World.block_lt_of_cell? w6 _ d0)).trans d0), ((HK3.out.cell (World.block_lt_of_cell? w6 _ d1)).trans d1), ((HK3.out.cell (World.block_lt_of_cell? w6 _ d2)).trans d2), ((HK3.out.cell (World.block_lt_of_cell? w6 _ d3)).trans d3)⟩ (fun hHeld => ?_)
    clear hK K
    refine norm_ (a' := ?_) ?_ ?_
    rotate_left
    · show Act.put _ (some 50) _ = _
      simp only [Act.put, List.setIfInBounds_toArray, List.set_cons_zero, List.set_cons_succ, i64_w, i32_w]
      rfl
    refine one_ (i := 23) (N := some 54) #[true, true, true, true, true, true, true, true, true, true, true, true, true, true, true, true, true, true, true, true, true, true, true, true, false, false, false] rfl rfl (by kernel_rfl) (by decide) (fun K hK => ?_)
    refine goes_ Try.func22 (by kernel_rfl) rfl #[.agg #[.int .i64 W, .int .i64 H, .slice A ws.length c, .slice A' sp.length c'], .int .i64 x, .int .i64 y] (by rfl) rfl rfl (by simp only [List.map_toArray, List.map_cons, List.map_nil]; rfl) ?_
    with_reducible refine (refwall_any W H A c ws A' c' sp x y _ HSP.out (Kd.C_below HC.out.1 HK3.out) HC.out.2.2.1 (Kd.C_below HC.out.2.1 HK3.out) HC.out.2.2.2).mono ?_
    rintro e w24 ⟨r4, rfl, hr4, hb4⟩
    refine ⟨_, rfl, ?_⟩
    have HR4 := Aside0.mk hr4
    have HK4 := Aside0.mk (HK3.out.trans (hb4.mono HK3.out.size))
    clear hr4 hb4
    refine hK.out _ _ ⟨((HK4.out.cell (World.block_lt_of_cell? w6 _ c0)).trans c0), ((HK4.out.cell (World.block_lt_of_cell? w6 _ c1)).trans c1), ((HK4.out.cell (World.block_lt_of_cell? w6 _ c2)).trans c2), ((HK4.out.cell (World.block_lt_of_cell? w6 _ c3)).trans c3), ((HK4.out.cell (World.block_lt_of_cell? w6 _ d0)).trans d0), ((HK4.out.cell (World.block_lt_of_cell? w6 _ d1)).trans d1), ((HK4.out.cell (World.block_lt_of_cell? w6 _ d2)).trans d2), ((HK4.out.cell (World.block_lt_of_cell? w6 _ d3)).trans d3)⟩ (fun hHeld => ?_)
    clear hK K
    refine norm_ (a' := ?_) ?_ ?_
    rotate_left
    · show Act.put _ (some 54) _ = _
      simp only [Act.put, List.setIfInBounds_toArray, List.set_cons_zero, List.set_cons_succ, i64_w, i32_w]
      rfl
    refine pure_ (i := 24) (N := some 55) (v := ?_) (a' := ?_) #[true, true, true, true, true, true, true, true, true, true, true, true, true, true, true, true, true, true, true, true, true, true, true, true, true, false, false] rfl rfl (by kernel_rfl) (fun _ _ _ h => h) (Or.inl ⟨by rfl, ?_⟩) ?_ ?_
    rotate_left
    · intro w'
      go_simp
      with_reducible rfl
    rotate_left
    · simp only [Act.put, List.setIfInBounds_toArray, List.set_cons_zero, List.set_cons_succ, i64_w, i32_w]
      rfl
    refine pure_ (i := 25) (N := some 56) (v := ?_) (a' := ?_) #[true, true, true, true, true, true, true, true, true, true, true, true, true, true, true, true, true, true, true, true, true, true, true, true, true, true, false] rfl rfl (by kernel_rfl) (fun _ _ _ h => h) (Or.inl ⟨by rfl, ?_⟩) ?_ ?_
    rotate_left
    · intro w'
      go_simp
      with_reducible rfl
    rotate_left
    · simp only [Act.put, List.setIfInBounds_toArray, List.set_cons_zero, List.set_cons_succ, i64_w, i32_w]
      rfl
    refine pure_ (i := 26) (N := some 6) (v := ?_) (a' := ?_) #[true, true, true, true, true, true, true, true, true, true, true, true, true, true, true, true, true, true, true, true, true, true, true, true, true, true, true] rfl rfl (by kernel_rfl) (fun _ _ _ h => h) (Or.inl ⟨by rfl, ?_⟩) ?_ ?_
    rotate_left
    · intro w'
      go_simp
      with_reducible rfl
    rotate_left
    · simp only [Act.put, List.setIfInBounds_toArray, List.set_cons_zero, List.set_cons_succ, i64_w, i32_w]
      rfl
    refine done_ (by kernel_rfl) ?_
    have hbr : (r3 == r4) = true := by
      have h : r3 = true ↔ r4 = true := HR3.out.trans HR4.out.symm
      cases r3 <;> cases r4 <;> simp_all
    go_wp2_with fail
    try rw [hbr]
    go_ret
    exact ⟨rfl, HB.out.trans (HK4.out.mono HB.out.size)⟩
end Go.Proofs.Ytgppnfnbihngnaa.Tiles
