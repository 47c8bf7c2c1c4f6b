import Derived.Test.YtgppnfnbihngnaaTText
import Derived.Test.YtgppnfnbihngnaaTLess
import Derived.Test.YtgppnfnbihngnaaTReads
import Derived.Test.YtgppnfnbihngnaaTBackP
set_option linter.unusedVariables false
set_option linter.unusedSimpArgs false
namespace Go.Proofs.Ytgppnfnbihngnaa.Tiles
open Go.RowKit Go.Proofs.YtgppnfnbihngnaaW.PrintWords Go.Proofs.YtgppnfnbihngnaaW.PrintLast Go.Proofs.YtgppnfnbihngnaaW.PrintMore Go.Proofs.Ytgppnfnbihngnaa.PTilesFree

theorem text_back {W H : Int} {ws : List Bool} {sp : List S39} (h : FormP W H ws sp) : tread (textF W W.toNat ws sp H.toNat) = (⟨W, H, ws, sp⟩, 0, 0) ∧ (textF W W.toNat ws sp H.toNat).size ≤ 1000000 := by
  obtain ⟨f1, f2, f3, f4, f5, f6, f7⟩ := id h
  have hl := h.few.2.2
  have hp := h.few.2.1
  obtain ⟨n, rfl⟩ : ∃ n : Nat, W = (n : Int) := ⟨W.toNat, by omega⟩
  obtain ⟨k, rfl⟩ : ∃ k : Nat, H = (k : Int) := ⟨H.toNat, by omega⟩
  show tread (textF (n : Int) n ws sp k) = _ ∧ (textF (n : Int) n ws sp k).size ≤ 1000000
  have hs := (spU_iff (sp := sp) (by omega) (by omega) hl).2 f7
  refine ⟨?_, ?_⟩
  · rw [tread_text rfl (by omega) (by omega) (by omega) (by omega) (len_nat f5), hs, if_neg (by omega)]
  · have := text_small (n : Int) n ws sp k (by omega) (by omega)
    omega
set_option maxHeartbeats 8000000 in
set_option maxRecDepth 100000 in
theorem back_walk (s : ByteArray) (W H : Int) (A : Option Addr) (c : Nat) (ws : List Bool) (A' : Option Addr) (c' : Nat) (sp : List S39) (w : World) (hC : Kd.C Kd.bool w A ws.length ws) (hc : ws.length ≤ c) (hC' : Kd.C k39 w A' sp.length sp) (hc' : sp.length ≤ c') :
    Calls Try.prog 8 #[.string s, .agg #[.int .i64 W, .int .i64 H, .slice A ws.length c, .slice A' sp.length c']] w fun e w' => e = .returned (.bool true) ∧ Below w.heap.size w w' := by
  have hu39 := Try.underlying39
  have hu26 := Try.underlying26
  have HB : Aside0 (Below w.heap.size w (w.alloc (.cells #[.int .i64 W, .int .i64 H, .slice A ws.length c, .slice A' sp.length c'] 26 (0, 0)))) := ⟨below_alloc (Below.refl _ _) _⟩
  have HM := Aside0.mk (blk_new w (.cells #[.int .i64 W, .int .i64 H, .slice A ws.length c, .slice A' sp.length c'] 26 (0, 0)))
  have HC := Aside0.mk (And.intro (Kd.C_alloc hC (.cells #[.int .i64 W, .int .i64 H, .slice A ws.length c, .slice A' sp.length c'] 26 (0, 0))) (And.intro (Kd.C_alloc hC' (.cells #[.int .i64 W, .int .i64 H, .slice A ws.length c, .slice A' sp.length c'] 26 (0, 0))) (And.intro hc hc')))
  clear hC hc hC' hc'
  go_enter Try.func8, Try.ntmps8
  go_upto_region 1 with fail
  generalize w.alloc (.cells #[.int .i64 W, .int .i64 H, .slice A ws.length c, .slice A' sp.length c'] 26 (0, 0)) = W1 at *
  obtain ⟨B, hB⟩ : ∃ X, w.heap.size = X := ⟨_, rfl⟩
  rw [hB] at HM
  rw [hB]
  have HBB := Aside0.mk hB
  clear hB
  have m0 : W1.cell? ⟨B, 0, none⟩ = some (.int .i64 W) := (blk_cell HM.out 0).trans rfl
  have m1 : W1.cell? ⟨B, 1, none⟩ = some (.int .i64 H) := (blk_cell HM.out 1).trans rfl
  have m2 : W1.cell? ⟨B, 2, none⟩ = some (.slice A ws.length c) := (blk_cell HM.out 2).trans rfl
  have m3 : W1.cell? ⟨B, 3, none⟩ = some (.slice A' sp.length c') := (blk_cell HM.out 3).trans rfl
  clear HM
  by_cases hs : (5000 : Int) < (s.size : Int)
  · go_wp2_with (go_at_call 10; (with_reducible refine (awake_any _).mono ?_); rintro e w2 ⟨he, hb2⟩; subst he; have m0 := (hb2.cell (World.block_lt_of_cell? _ _ m0)).trans m0; have m1 := (hb2.cell (World.block_lt_of_cell? _ _ m1)).trans m1; have m2 := (hb2.cell (World.block_lt_of_cell? _ _ m2)).trans m2; have m3 := (hb2.cell (World.block_lt_of_cell? _ _ m3)).trans m3; have HBn := Aside0.mk (HB.out.trans (hb2.mono HB.out.size)); have HCn := Aside0.mk (And.intro (Kd.C_below HC.out.1 hb2) (And.intro (Kd.C_below HC.out.2.1 hb2) HC.out.2.2)); clear HB HC; have HB := HBn; have HC := HCn; clear HBn HCn; clear hb2)
    go_ret
    exact ⟨rfl, HB.out⟩
  have HS : Aside0 (s.size ≤ 1000000) := ⟨by omega⟩
  have z5 : decide ((5000 : Int) < (s.size : Int)) = false := decide_eq_false hs
  by_cases hfew : (ws.length : Int) ≤ 1100 ∧ (sp.length : Int) ≤ 1100
  case neg =>
    have HFew := Aside0.mk (few_no (W := W) (H := H) hfew)
    clear hfew
    go_wp2_with (first | (go_at_call 10; (with_reducible refine (awake_any _).mono ?_); rintro e w2 ⟨he, hb2⟩; subst he; have m0 := (hb2.cell (World.block_lt_of_cell? _ _ m0)).trans m0; have m1 := (hb2.cell (World.block_lt_of_cell? _ _ m1)).trans m1; have m2 := (hb2.cell (World.block_lt_of_cell? _ _ m2)).trans m2; have m3 := (hb2.cell (World.block_lt_of_cell? _ _ m3)).trans m3; have HBn := Aside0.mk (HB.out.trans (hb2.mono HB.out.size)); have HCn := Aside0.mk (And.intro (Kd.C_below HC.out.1 hb2) (And.intro (Kd.C_below HC.out.2.1 hb2) HC.out.2.2)); clear HB HC; have HB := HBn; have HC := HCn; clear HBn HCn; clear hb2) | (go_at_call 14; (with_reducible refine (ricochetlaw11_few.calls W H A c ws A' c' sp false _ HC.out.1 HC.out.2.2.1 HC.out.2.1 HC.out.2.2.2 HFew.out).mono ?_); rintro e w3 ⟨he, hb2⟩; subst he; have m0 := (hb2.cell (World.block_lt_of_cell? _ _ m0)).trans m0; have m1 := (hb2.cell (World.block_lt_of_cell? _ _ m1)).trans m1; have m2 := (hb2.cell (World.block_lt_of_cell? _ _ m2)).trans m2; have m3 := (hb2.cell (World.block_lt_of_cell? _ _ m3)).trans m3; have HBn := Aside0.mk (HB.out.trans (hb2.mono HB.out.size)); have HCn := Aside0.mk (And.intro (Kd.C_below HC.out.1 hb2) (And.intro (Kd.C_below HC.out.2.1 hb2) HC.out.2.2)); clear HB HC; have HB := HBn; have HC := HCn; clear HBn HCn; clear hb2))
    go_ret
    exact ⟨rfl, HB.out⟩
  have HFew := Aside0.mk (few_yes (W := W) (H := H) hfew)
  have HSP : Aside0 (sp.length ≤ 1100) := ⟨by omega⟩
  have HWP : Aside0 (ws.length ≤ 1100) := ⟨by omega⟩
  clear hfew
  go_upto_region 3 with (first | (go_at_call 10; (with_reducible refine (awake_any _).mono ?_); rintro e w2 ⟨he, hb2⟩; subst he; have m0 := (hb2.cell (World.block_lt_of_cell? _ _ m0)).trans m0; have m1 := (hb2.cell (World.block_lt_of_cell? _ _ m1)).trans m1; have m2 := (hb2.cell (World.block_lt_of_cell? _ _ m2)).trans m2; have m3 := (hb2.cell (World.block_lt_of_cell? _ _ m3)).trans m3; have HBn := Aside0.mk (HB.out.trans (hb2.mono HB.out.size)); have HCn := Aside0.mk (And.intro (Kd.C_below HC.out.1 hb2) (And.intro (Kd.C_below HC.out.2.1 hb2) HC.out.2.2)); clear HB HC; have HB := HBn; have HC := HCn; clear HBn HCn; clear hb2) | (go_at_call 14; (with_reducible refine (ricochetlaw11_few.calls W H A c ws A' c' sp true _ HC.out.1 HC.out.2.2.1 HC.out.2.1 HC.out.2.2.2 HFew.out).mono ?_); rintro e w3 ⟨he, hb2⟩; subst he; have m0 := (hb2.cell (World.block_lt_of_cell? _ _ m0)).trans m0; have m1 := (hb2.cell (World.block_lt_of_cell? _ _ m1)).trans m1; have m2 := (hb2.cell (World.block_lt_of_cell? _ _ m2)).trans m2; have m3 := (hb2.cell (World.block_lt_of_cell? _ _ m3)).trans m3; have HBn := Aside0.mk (HB.out.trans (hb2.mono HB.out.size)); have HCn := Aside0.mk (And.intro (Kd.C_below HC.out.1 hb2) (And.intro (Kd.C_below HC.out.2.1 hb2) HC.out.2.2)); clear HB HC; have HB := HBn; have HC := HCn; clear HBn HCn; clear hb2))
  clear z5
  go_upto_region 4 with (go_at_call 11; (with_reducible refine (read_any s HS.out _).mono ?_); rintro e w4 ⟨vA, vS, he, hb2, hA, hS⟩; subst he; obtain ⟨A1, c1, rfl, hl1, hC1⟩ := Kd.R_reads hA; obtain ⟨A2, c2, rfl, hl2, hC2⟩ := Kd.R_reads hS; have HX := Aside0.mk (And.intro hC1 (And.intro hC2 (And.intro hl1 hl2))); have m0 := (hb2.cell (World.block_lt_of_cell? _ _ m0)).trans m0; have m1 := (hb2.cell (World.block_lt_of_cell? _ _ m1)).trans m1; have m2 := (hb2.cell (World.block_lt_of_cell? _ _ m2)).trans m2; have m3 := (hb2.cell (World.block_lt_of_cell? _ _ m3)).trans m3; have HBn := Aside0.mk (HB.out.trans (hb2.mono HB.out.size)); have HCn := Aside0.mk (And.intro (Kd.C_below HC.out.1 hb2) (And.intro (Kd.C_below HC.out.2.1 hb2) HC.out.2.2)); clear HB HC; have HB := HBn; have HC := HCn; clear HBn HCn; clear hb2 hA hS hC1 hC2 hl1 hl2)
  have hb2 := below_alloc (Below.refl w4.heap.size w4) (.cells #[.int .i64 (tread s).1.W, .int .i64 (tread s).1.H, .slice A1 (tread s).1.ws.length c1, .slice A2 (tread s).1.sp.length c2] 26 (0, 0))
  have HXb := Aside0.mk (blk_new w4 (.cells #[.int .i64 (tread s).1.W, .int .i64 (tread s).1.H, .slice A1 (tread s).1.ws.length c1, .slice A2 (tread s).1.sp.length c2] 26 (0, 0)))
  have m0 := (hb2.cell (World.block_lt_of_cell? _ _ m0)).trans m0
  have m1 := (hb2.cell (World.block_lt_of_cell? _ _ m1)).trans m1
  have m2 := (hb2.cell (World.block_lt_of_cell? _ _ m2)).trans m2
  have m3 := (hb2.cell (World.block_lt_of_cell? _ _ m3)).trans m3
  have HBn := Aside0.mk (HB.out.trans (hb2.mono HB.out.size))
  have HCn := Aside0.mk (And.intro (Kd.C_below HC.out.1 hb2) (And.intro (Kd.C_below HC.out.2.1 hb2) HC.out.2.2))
  clear HB HC
  have HB := HBn
  have HC := HCn
  clear HBn HCn
  have HXn := Aside0.mk (And.intro (Kd.C_below HX.out.1 hb2) (And.intro (Kd.C_below HX.out.2.1 hb2) HX.out.2.2))
  clear HX
  have HX := HXn
  clear HXn
  clear hb2
  generalize w4.alloc (.cells #[.int .i64 (tread s).1.W, .int .i64 (tread s).1.H, .slice A1 (tread s).1.ws.length c1, .slice A2 (tread s).1.sp.length c2] 26 (0, 0)) = w5 at *
  generalize w4.heap.size = D at *
  have d0 : w5.cell? ⟨D, 0, none⟩ = some (.int .i64 (tread s).1.W) := (blk_cell HXb.out 0).trans rfl
  have d1 : w5.cell? ⟨D, 1, none⟩ = some (.int .i64 (tread s).1.H) := (blk_cell HXb.out 1).trans rfl
  have d2 : w5.cell? ⟨D, 2, none⟩ = some (.slice A1 (tread s).1.ws.length c1) := (blk_cell HXb.out 2).trans rfl
  have d3 : w5.cell? ⟨D, 3, none⟩ = some (.slice A2 (tread s).1.sp.length c2) := (blk_cell HXb.out 3).trans rfl
  clear HXb
  by_cases he0 : (tread s).2.2 = 0
  · have HD := Aside0.mk (tread_back s he0)
    have HXs : Aside0 ((tread s).1.sp.length ≤ 1100) := ⟨by
      have h1 := HD.out.2.1.few.1
      have h2 := mul_small _ _ HD.out.2.1.1 HD.out.2.1.2.1 HD.out.2.1.2.2.1 HD.out.2.1.2.2.2.1
      omega⟩
    go_upto_region 8 with (first | (go_at_call 19; (with_reducible refine (text_any (tread s).1.W (tread s).1.H A1 c1 (tread s).1.ws A2 c2 (tread s).1.sp _ HXs.out HX.out.1 HX.out.2.2.1 HX.out.2.1 HX.out.2.2.2).mono ?_); rintro e w6 ⟨t, er, he, hw, hb2⟩; subst he; obtain ⟨hs, hE⟩ : s = t ∧ er = 0 := (by rcases hw with ⟨_, a, b⟩ | ⟨h, _, _⟩; exact ⟨(a.trans HD.out.2.2).symm, b⟩; exact absurd HD.out.2.1 h); subst hs; subst hE; have m0 := (hb2.cell (World.block_lt_of_cell? _ _ m0)).trans m0; have m1 := (hb2.cell (World.block_lt_of_cell? _ _ m1)).trans m1; have m2 := (hb2.cell (World.block_lt_of_cell? _ _ m2)).trans m2; have m3 := (hb2.cell (World.block_lt_of_cell? _ _ m3)).trans m3; have d0 := (hb2.cell (World.block_lt_of_cell? _ _ d0)).trans d0; have d1 := (hb2.cell (World.block_lt_of_cell? _ _ d1)).trans d1; have d2 := (hb2.cell (World.block_lt_of_cell? _ _ d2)).trans d2; have d3 := (hb2.cell (World.block_lt_of_cell? _ _ d3)).trans d3; have HBn := Aside0.mk (HB.out.trans (hb2.mono HB.out.size)); have HCn := Aside0.mk (And.intro (Kd.C_below HC.out.1 hb2) (And.intro (Kd.C_below HC.out.2.1 hb2) HC.out.2.2)); clear HB HC; have HB := HBn; have HC := HCn; clear HBn HCn; have HXn := Aside0.mk (And.intro (Kd.C_below HX.out.1 hb2) (And.intro (Kd.C_below HX.out.2.1 hb2) HX.out.2.2)); clear HX; have HX := HXn; clear HXn; clear hb2 hw) | (go_at_call 17; (with_reducible refine (formed_any (tread s).1.W (tread s).1.H A1 c1 (tread s).1.ws A2 c2 (tread s).1.sp _ HX.out.1 HX.out.2.2.1 HX.out.2.1 HX.out.2.2.2).mono ?_); rintro e w7 ⟨r, he, hr, hb2⟩; obtain rfl : r = true := hr.2 HD.out.2.1; subst he; have m0 := (hb2.cell (World.block_lt_of_cell? _ _ m0)).trans m0; have m1 := (hb2.cell (World.block_lt_of_cell? _ _ m1)).trans m1; have m2 := (hb2.cell (World.block_lt_of_cell? _ _ m2)).trans m2; have m3 := (hb2.cell (World.block_lt_of_cell? _ _ m3)).trans m3; have d0 := (hb2.cell (World.block_lt_of_cell? _ _ d0)).trans d0; have d1 := (hb2.cell (World.block_lt_of_cell? _ _ d1)).trans d1; have d2 := (hb2.cell (World.block_lt_of_cell? _ _ d2)).trans d2; have d3 := (hb2.cell (World.block_lt_of_cell? _ _ d3)).trans d3; have HBn := Aside0.mk (HB.out.trans (hb2.mono HB.out.size)); have HCn := Aside0.mk (And.intro (Kd.C_below HC.out.1 hb2) (And.intro (Kd.C_below HC.out.2.1 hb2) HC.out.2.2)); clear HB HC; have HB := HBn; have HC := HCn; clear HBn HCn; have HXn := Aside0.mk (And.intro (Kd.C_below HX.out.1 hb2) (And.intro (Kd.C_below HX.out.2.1 hb2) HX.out.2.2)); clear HX; have HX := HXn; clear HXn; clear hb2 hr))
    clear d0 d1 d2 d3
    by_cases hf : FormP W H ws sp
    · have HF := Aside0.mk hf
      obtain ⟨T, hT⟩ : ∃ T, textF W W.toNat ws sp H.toNat = T := ⟨_, rfl⟩
      have HT := Aside0.mk hT
      have hbk := text_back hf
      rw [hT] at hbk
      have HTR := Aside0.mk hbk.1
      have HTs := Aside0.mk hbk.2
      have HSm := Aside0.mk (same_refl W H ws sp (Nat.le_trans HWP.out (by decide)) (Nat.le_trans HSP.out (by decide)))
      clear hT hbk hf
      go_upto_region 12 with (first | (go_at_call 19; (with_reducible refine (text_any W H A c ws A' c' sp _ HSP.out HC.out.1 HC.out.2.2.1 HC.out.2.1 HC.out.2.2.2).mono ?_); rintro e w8 ⟨t, er, he, hw, hb2⟩; subst he; obtain ⟨hs, hE⟩ : T = t ∧ er = 0 := (by rcases hw with ⟨_, a, b⟩ | ⟨h, _, _⟩; exact ⟨(a.trans HT.out).symm, b⟩; exact absurd HF.out h); subst hs; subst hE; have m0 := (hb2.cell (World.block_lt_of_cell? _ _ m0)).trans m0; have m1 := (hb2.cell (World.block_lt_of_cell? _ _ m1)).trans m1; have m2 := (hb2.cell (World.block_lt_of_cell? _ _ m2)).trans m2; have m3 := (hb2.cell (World.block_lt_of_cell? _ _ m3)).trans m3; have HBn := Aside0.mk (HB.out.trans (hb2.mono HB.out.size)); have HCn := Aside0.mk (And.intro (Kd.C_below HC.out.1 hb2) (And.intro (Kd.C_below HC.out.2.1 hb2) HC.out.2.2)); clear HB HC; have HB := HBn; have HC := HCn; clear HBn HCn; clear hb2 hw) | (go_at_call 11; (with_reducible refine (read_any T HTs.out _).mono ?_); rintro e w9 ⟨vA, vS, he, hb2, hA, hS⟩; rw [HTR.out] at he hA hS; subst he; obtain ⟨A3, c3', rfl, hl1, hC1⟩ := Kd.R_reads hA; obtain ⟨A4, c4', rfl, hl2, hC2⟩ := Kd.R_reads hS; have HY := Aside0.mk (And.intro hC1 (And.intro hC2 (And.intro hl1 hl2))); have m0 := (hb2.cell (World.block_lt_of_cell? _ _ m0)).trans m0; have m1 := (hb2.cell (World.block_lt_of_cell? _ _ m1)).trans m1; have m2 := (hb2.cell (World.block_lt_of_cell? _ _ m2)).trans m2; have m3 := (hb2.cell (World.block_lt_of_cell? _ _ m3)).trans m3; have HBn := Aside0.mk (HB.out.trans (hb2.mono HB.out.size)); have HCn := Aside0.mk (And.intro (Kd.C_below HC.out.1 hb2) (And.intro (Kd.C_below HC.out.2.1 hb2) HC.out.2.2)); clear HB HC; have HB := HBn; have HC := HCn; clear HBn HCn; clear hb2 hA hS hC1 hC2 hl1 hl2))
      have hb2 := below_alloc (Below.refl w9.heap.size w9) (.cells #[.int .i64 W, .int .i64 H, .slice A3 ws.length c3', .slice A4 sp.length c4'] 26 (0, 0))
      have HYb := Aside0.mk (blk_new w9 (.cells #[.int .i64 W, .int .i64 H, .slice A3 ws.length c3', .slice A4 sp.length c4'] 26 (0, 0)))
      have HY2 := Aside0.mk (And.intro (Kd.C_below HY.out.1 hb2) (Kd.C_below HY.out.2.1 hb2))
      have m0 := (hb2.cell (World.block_lt_of_cell? _ _ m0)).trans m0
      have m1 := (hb2.cell (World.block_lt_of_cell? _ _ m1)).trans m1
      have m2 := (hb2.cell (World.block_lt_of_cell? _ _ m2)).trans m2
      have m3 := (hb2.cell (World.block_lt_of_cell? _ _ m3)).trans m3
      have HBn := Aside0.mk (HB.out.trans (hb2.mono HB.out.size))
      have HCn := Aside0.mk (And.intro (Kd.C_below HC.out.1 hb2) (And.intro (Kd.C_below HC.out.2.1 hb2) HC.out.2.2))
      clear HB HC
      have HB := HBn
      have HC := HCn
      clear HBn HCn
      clear hb2
      generalize w9.alloc (.cells #[.int .i64 W, .int .i64 H, .slice A3 ws.length c3', .slice A4 sp.length c4'] 26 (0, 0)) = w10 at *
      generalize w9.heap.size = E at *
      have e0 : w10.cell? ⟨E, 0, none⟩ = some (.int .i64 W) := (blk_cell HYb.out 0).trans rfl
      have e1 : w10.cell? ⟨E, 1, none⟩ = some (.int .i64 H) := (blk_cell HYb.out 1).trans rfl
      have e2 : w10.cell? ⟨E, 2, none⟩ = some (.slice A3 ws.length c3') := (blk_cell HYb.out 2).trans rfl
      have e3 : w10.cell? ⟨E, 3, none⟩ = some (.slice A4 sp.length c4') := (blk_cell HYb.out 3).trans rfl
      clear HYb
      go_wp2_with (go_at_call 13; (with_reducible refine (ricochetref11_Same.calls _ _ _ _ _ _ _ _ _ _ _ _ _ _ _ _ _ true _ HY2.out.1 HY.out.2.2.1 HY2.out.2 HY.out.2.2.2 HC.out.1 HC.out.2.2.1 HC.out.2.1 HC.out.2.2.2 HSm.out).mono ?_); rintro e w11 ⟨he, hb11⟩; subst he; have HB11 := Aside0.mk (HB.out.trans (hb11.mono HB.out.size)); clear hb11)
      go_ret
      exact ⟨rfl, HB11.out⟩
    · have HF := Aside0.mk hf
      obtain ⟨T, hT⟩ : ∃ T : ByteArray, (⟨#[]⟩ : ByteArray) = T := ⟨_, rfl⟩
      have HT := Aside0.mk hT
      have hTq : T.toList = [] := by rw [← hT, ByteArray.toList_eq]
      clear hf hT
      go_wp2_with (first | (go_at_call 19; (with_reducible refine (text_any W H A c ws A' c' sp _ HSP.out HC.out.1 HC.out.2.2.1 HC.out.2.1 HC.out.2.2.2).mono ?_); rintro e w8 ⟨t, er, he, hw, hb2⟩; subst he; obtain ⟨hs, hE⟩ : T = t ∧ er = 1 := (by rcases hw with ⟨h, _, _⟩ | ⟨_, a, b⟩; exact absurd h HF.out; exact ⟨(a.trans HT.out).symm, b⟩); subst hs; subst hE; have m0 := (hb2.cell (World.block_lt_of_cell? _ _ m0)).trans m0; have m1 := (hb2.cell (World.block_lt_of_cell? _ _ m1)).trans m1; have m2 := (hb2.cell (World.block_lt_of_cell? _ _ m2)).trans m2; have m3 := (hb2.cell (World.block_lt_of_cell? _ _ m3)).trans m3; have HBn := Aside0.mk (HB.out.trans (hb2.mono HB.out.size)); have HCn := Aside0.mk (And.intro (Kd.C_below HC.out.1 hb2) (And.intro (Kd.C_below HC.out.2.1 hb2) HC.out.2.2)); clear HB HC; have HB := HBn; have HC := HCn; clear HBn HCn; clear hb2 hw) | (go_at_call 17; (with_reducible refine (formed_any W H A c ws A' c' sp _ HC.out.1 HC.out.2.2.1 HC.out.2.1 HC.out.2.2.2).mono ?_); rintro e w9 ⟨r, he, hr, hb2⟩; obtain rfl : r = false := (by cases r <;> first | rfl | exact absurd (hr.1 rfl) HF.out); subst he; have m0 := (hb2.cell (World.block_lt_of_cell? _ _ m0)).trans m0; have m1 := (hb2.cell (World.block_lt_of_cell? _ _ m1)).trans m1; have m2 := (hb2.cell (World.block_lt_of_cell? _ _ m2)).trans m2; have m3 := (hb2.cell (World.block_lt_of_cell? _ _ m3)).trans m3; have HBn := Aside0.mk (HB.out.trans (hb2.mono HB.out.size)); have HCn := Aside0.mk (And.intro (Kd.C_below HC.out.1 hb2) (And.intro (Kd.C_below HC.out.2.1 hb2) HC.out.2.2)); clear HB HC; have HB := HBn; have HC := HCn; clear HBn HCn; clear hb2 hr))
      go_ret
      exact ⟨rfl, HB.out⟩
  · go_upto_region 8 with fail
    clear d0 d1 d2 d3
    by_cases hf : FormP W H ws sp
    · have HF := Aside0.mk hf
      obtain ⟨T, hT⟩ : ∃ T, textF W W.toNat ws sp H.toNat = T := ⟨_, rfl⟩
      have HT := Aside0.mk hT
      have hbk := text_back hf
      rw [hT] at hbk
      have HTR := Aside0.mk hbk.1
      have HTs := Aside0.mk hbk.2
      have HSm := Aside0.mk (same_refl W H ws sp (Nat.le_trans HWP.out (by decide)) (Nat.le_trans HSP.out (by decide)))
      clear hT hbk hf
      go_upto_region 12 with (first | (go_at_call 19; (with_reducible refine (text_any W H A c ws A' c' sp _ HSP.out HC.out.1 HC.out.2.2.1 HC.out.2.1 HC.out.2.2.2).mono ?_); rintro e w8 ⟨t, er, he, hw, hb2⟩; subst he; obtain ⟨hs, hE⟩ : T = t ∧ er = 0 := (by rcases hw with ⟨_, a, b⟩ | ⟨h, _, _⟩; exact ⟨(a.trans HT.out).symm, b⟩; exact absurd HF.out h); subst hs; subst hE; have m0 := (hb2.cell (World.block_lt_of_cell? _ _ m0)).trans m0; have m1 := (hb2.cell (World.block_lt_of_cell? _ _ m1)).trans m1; have m2 := (hb2.cell (World.block_lt_of_cell? _ _ m2)).trans m2; have m3 := (hb2.cell (World.block_lt_of_cell? _ _ m3)).trans m3; have HBn := Aside0.mk (HB.out.trans (hb2.mono HB.out.size)); have HCn := Aside0.mk (And.intro (Kd.C_below HC.out.1 hb2) (And.intro (Kd.C_below HC.out.2.1 hb2) HC.out.2.2)); clear HB HC; have HB := HBn; have HC := HCn; clear HBn HCn; clear hb2 hw) | (go_at_call 11; (with_reducible refine (read_any T HTs.out _).mono ?_); rintro e w9 ⟨vA, vS, he, hb2, hA, hS⟩; rw [HTR.out] at he hA hS; subst he; obtain ⟨A3, c3', rfl, hl1, hC1⟩ := Kd.R_reads hA; obtain ⟨A4, c4', rfl, hl2, hC2⟩ := Kd.R_reads hS; have HY := Aside0.mk (And.intro hC1 (And.intro hC2 (And.intro hl1 hl2))); have m0 := (hb2.cell (World.block_lt_of_cell? _ _ m0)).trans m0; have m1 := (hb2.cell (World.block_lt_of_cell? _ _ m1)).trans m1; have m2 := (hb2.cell (World.block_lt_of_cell? _ _ m2)).trans m2; have m3 := (hb2.cell (World.block_lt_of_cell? _ _ m3)).trans m3; have HBn := Aside0.mk (HB.out.trans (hb2.mono HB.out.size)); have HCn := Aside0.mk (And.intro (Kd.C_below HC.out.1 hb2) (And.intro (Kd.C_below HC.out.2.1 hb2) HC.out.2.2)); clear HB HC; have HB := HBn; have HC := HCn; clear HBn HCn; clear hb2 hA hS hC1 hC2 hl1 hl2))
      have hb2 := below_alloc (Below.refl w9.heap.size w9) (.cells #[.int .i64 W, .int .i64 H, .slice A3 ws.length c3', .slice A4 sp.length c4'] 26 (0, 0))
      have HYb := Aside0.mk (blk_new w9 (.cells #[.int .i64 W, .int .i64 H, .slice A3 ws.length c3', .slice A4 sp.length c4'] 26 (0, 0)))
      have HY2 := Aside0.mk (And.intro (Kd.C_below HY.out.1 hb2) (Kd.C_below HY.out.2.1 hb2))
      have m0 := (hb2.cell (World.block_lt_of_cell? _ _ m0)).trans m0
      have m1 := (hb2.cell (World.block_lt_of_cell? _ _ m1)).trans m1
      have m2 := (hb2.cell (World.block_lt_of_cell? _ _ m2)).trans m2
      have m3 := (hb2.cell (World.block_lt_of_cell? _ _ m3)).trans m3
      have HBn := Aside0.mk (HB.out.trans (hb2.mono HB.out.size))
      have HCn := Aside0.mk (And.intro (Kd.C_below HC.out.1 hb2) (And.intro (Kd.C_below HC.out.2.1 hb2) HC.out.2.2))
      clear HB HC
      have HB := HBn
      have HC := HCn
      clear HBn HCn
      clear hb2
      generalize w9.alloc (.cells #[.int .i64 W, .int .i64 H, .slice A3 ws.length c3', .slice A4 sp.length c4'] 26 (0, 0)) = w10 at *
      generalize w9.heap.size = E at *
      have e0 : w10.cell? ⟨E, 0, none⟩ = some (.int .i64 W) := (blk_cell HYb.out 0).trans rfl
      have e1 : w10.cell? ⟨E, 1, none⟩ = some (.int .i64 H) := (blk_cell HYb.out 1).trans rfl
      have e2 : w10.cell? ⟨E, 2, none⟩ = some (.slice A3 ws.length c3') := (blk_cell HYb.out 2).trans rfl
      have e3 : w10.cell? ⟨E, 3, none⟩ = some (.slice A4 sp.length c4') := (blk_cell HYb.out 3).trans rfl
      clear HYb
      go_wp2_with (go_at_call 13; (with_reducible refine (ricochetref11_Same.calls _ _ _ _ _ _ _ _ _ _ _ _ _ _ _ _ _ true _ HY2.out.1 HY.out.2.2.1 HY2.out.2 HY.out.2.2.2 HC.out.1 HC.out.2.2.1 HC.out.2.1 HC.out.2.2.2 HSm.out).mono ?_); rintro e w11 ⟨he, hb11⟩; subst he; have HB11 := Aside0.mk (HB.out.trans (hb11.mono HB.out.size)); clear hb11)
      go_ret
      exact ⟨rfl, HB11.out⟩
    · have HF := Aside0.mk hf
      obtain ⟨T, hT⟩ : ∃ T : ByteArray, (⟨#[]⟩ : ByteArray) = T := ⟨_, rfl⟩
      have HT := Aside0.mk hT
      have hTq : T.toList = [] := by rw [← hT, ByteArray.toList_eq]
      clear hf hT
      go_wp2_with (first | (go_at_call 19; (with_reducible refine (text_any W H A c ws A' c' sp _ HSP.out HC.out.1 HC.out.2.2.1 HC.out.2.1 HC.out.2.2.2).mono ?_); rintro e w8 ⟨t, er, he, hw, hb2⟩; subst he; obtain ⟨hs, hE⟩ : T = t ∧ er = 1 := (by rcases hw with ⟨h, _, _⟩ | ⟨_, a, b⟩; exact absurd h HF.out; exact ⟨(a.trans HT.out).symm, b⟩); subst hs; subst hE; have m0 := (hb2.cell (World.block_lt_of_cell? _ _ m0)).trans m0; have m1 := (hb2.cell (World.block_lt_of_cell? _ _ m1)).trans m1; have m2 := (hb2.cell (World.block_lt_of_cell? _ _ m2)).trans m2; have m3 := (hb2.cell (World.block_lt_of_cell? _ _ m3)).trans m3; have HBn := Aside0.mk (HB.out.trans (hb2.mono HB.out.size)); have HCn := Aside0.mk (And.intro (Kd.C_below HC.out.1 hb2) (And.intro (Kd.C_below HC.out.2.1 hb2) HC.out.2.2)); clear HB HC; have HB := HBn; have HC := HCn; clear HBn HCn; clear hb2 hw) | (go_at_call 17; (with_reducible refine (formed_any W H A c ws A' c' sp _ HC.out.1 HC.out.2.2.1 HC.out.2.1 HC.out.2.2.2).mono ?_); rintro e w9 ⟨r, he, hr, hb2⟩; obtain rfl : r = false := (by cases r <;> first | rfl | exact absurd (hr.1 rfl) HF.out); subst he; have m0 := (hb2.cell (World.block_lt_of_cell? _ _ m0)).trans m0; have m1 := (hb2.cell (World.block_lt_of_cell? _ _ m1)).trans m1; have m2 := (hb2.cell (World.block_lt_of_cell? _ _ m2)).trans m2; have m3 := (hb2.cell (World.block_lt_of_cell? _ _ m3)).trans m3; have HBn := Aside0.mk (HB.out.trans (hb2.mono HB.out.size)); have HCn := Aside0.mk (And.intro (Kd.C_below HC.out.1 hb2) (And.intro (Kd.C_below HC.out.2.1 hb2) HC.out.2.2)); clear HB HC; have HB := HBn; have HC := HCn; clear HBn HCn; clear hb2 hr))
      go_ret
      exact ⟨rfl, HB.out⟩
end Go.Proofs.Ytgppnfnbihngnaa.Tiles
