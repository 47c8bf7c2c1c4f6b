import Derived.Test.YtgppnfnbihngnaaTForm
import Derived.Test.YtgppnfnbihngnaaTFreeP
import Derived.Test.YtgppnfnbihngnaaPTilesFreex2
import Derived.Deep.LoopGhost
set_option linter.unusedVariables false
set_option linter.unusedSimpArgs false
namespace Go.Proofs.Ytgppnfnbihngnaa.Tiles
open Go.RowKit Go.Proofs.YtgppnfnbihngnaaW.PrintWords Go.Proofs.YtgppnfnbihngnaaW.PrintLast Go.Proofs.YtgppnfnbihngnaaW.PrintMore Go.Proofs.Ytgppnfnbihngnaa.PTilesFree

attribute [local go_sem] max2_int min2_int max_two min_two max_three min_three max_four min_four
set_option maxHeartbeats 8000000 in
set_option maxRecDepth 100000 in
theorem free_any (W H : Int) (A : Option Addr) (c : Nat) (ws : List Bool) (A' : Option Addr) (c' : Nat) (sp : List S39) (x0 y0 x1 y1 : Int) (w : World) (hC : Kd.C Kd.bool w A ws.length ws) (hc : ws.length ≤ c) (hC' : Kd.C k39 w A' sp.length sp) (hc' : sp.length ≤ c') :
    Calls Try.prog 15 #[.agg #[.int .i64 W, .int .i64 H, .slice A ws.length c, .slice A' sp.length c'], .agg #[.int .i64 x0, .int .i64 y0, .int .i64 x1, .int .i64 y1]] w (BoolP (FreeP W H ws sp x0 y0 x1 y1) w) := by
  have hu39 := Try.underlying39
  have hu41 := Try.underlying41
  have hu26 := Try.underlying26
  have hW1 : (w.alloc (.cells #[.int .i64 W, .int .i64 H, .slice A ws.length c, .slice A' sp.length c'] 26 (0, 0))).heap.size = w.heap.size + 1 := by simp
  have HB : Aside0 (Below w.heap.size w ((w.alloc (.cells #[.int .i64 W, .int .i64 H, .slice A ws.length c, .slice A' sp.length c'] 26 (0, 0))).alloc (.cells #[.int .i64 x0, .int .i64 y0, .int .i64 x1, .int .i64 y1] 41 (0, 0)))) := ⟨below_alloc (below_alloc (Below.refl _ _) _) _⟩
  have HM := Aside0.mk (blk_alloc (blk_new w (.cells #[.int .i64 W, .int .i64 H, .slice A ws.length c, .slice A' sp.length c'] 26 (0, 0))) (.cells #[.int .i64 x0, .int .i64 y0, .int .i64 x1, .int .i64 y1] 41 (0, 0)))
  have HD := Aside0.mk (blk_new (w.alloc (.cells #[.int .i64 W, .int .i64 H, .slice A ws.length c, .slice A' sp.length c'] 26 (0, 0))) (.cells #[.int .i64 x0, .int .i64 y0, .int .i64 x1, .int .i64 y1] 41 (0, 0)))
  rw [hW1] at HD
  have HC := Aside0.mk (And.intro (Kd.C_alloc (Kd.C_alloc hC (.cells #[.int .i64 W, .int .i64 H, .slice A ws.length c, .slice A' sp.length c'] 26 (0, 0))) (.cells #[.int .i64 x0, .int .i64 y0, .int .i64 x1, .int .i64 y1] 41 (0, 0))) (And.intro (Kd.C_alloc (Kd.C_alloc hC' (.cells #[.int .i64 W, .int .i64 H, .slice A ws.length c, .slice A' sp.length c'] 26 (0, 0))) (.cells #[.int .i64 x0, .int .i64 y0, .int .i64 x1, .int .i64 y1] 41 (0, 0))) (And.intro hc hc')))
  clear hC hc hC' hc'
  go_enter Try.func15, Try.ntmps15
  go_upto_region 1 with fail
  clear hW1
  generalize (w.alloc (.cells #[.int .i64 W, .int .i64 H, .slice A ws.length c, .slice A' sp.length c'] 26 (0, 0))).alloc (.cells #[.int .i64 x0, .int .i64 y0, .int .i64 x1, .int .i64 y1] 41 (0, 0)) = W1 at *
  obtain ⟨B, hB⟩ : ∃ X, w.heap.size = X := ⟨_, rfl⟩
  rw [hB] at HM HD
  rw [hB]
  have HBB := Aside0.mk hB
  clear hB
  have c0 : W1.cell? ⟨B, 0, none⟩ = some (.int .i64 W) := (blk_cell HM.out 0).trans rfl
  have c1 : W1.cell? ⟨B, 1, none⟩ = some (.int .i64 H) := (blk_cell HM.out 1).trans rfl
  have c2 : W1.cell? ⟨B, 2, none⟩ = some (.slice A ws.length c) := (blk_cell HM.out 2).trans rfl
  have c3 : W1.cell? ⟨B, 3, none⟩ = some (.slice A' sp.length c') := (blk_cell HM.out 3).trans rfl
  have d0 : W1.cell? ⟨B + 1, 0, none⟩ = some (.int .i64 x0) := (blk_cell HD.out 0).trans rfl
  have d1 : W1.cell? ⟨B + 1, 1, none⟩ = some (.int .i64 y0) := (blk_cell HD.out 1).trans rfl
  have d2 : W1.cell? ⟨B + 1, 2, none⟩ = some (.int .i64 x1) := (blk_cell HD.out 2).trans rfl
  have d3 : W1.cell? ⟨B + 1, 3, none⟩ = some (.int .i64 y1) := (blk_cell HD.out 3).trans rfl
  by_cases hx : BoxP x0 y0 x1 y1
  case neg =>
    have HX := Aside0.mk hx
    have HN : Aside0 (¬ FreeP W H ws sp x0 y0 x1 y1) := ⟨fun h => hx h.1⟩
    clear hx
    go_wp2_with (go_at_call 26; (with_reducible refine (box_Formed.calls x0 y0 x1 y1 false _ (box_no HX.out)).mono ?_); rintro e w2 ⟨he, hb2⟩; subst he; have HB2 := Aside0.mk hb2; clear hb2)
    go_ret
    exact BoolP.no HN.out (HB.out.trans (HB2.out.mono HB.out.size))
  have HX := Aside0.mk hx
  clear hx
  by_cases hf : FormP W H ws sp
  case neg =>
    have HF := Aside0.mk hf
    have HN : Aside0 (¬ FreeP W H ws sp x0 y0 x1 y1) := ⟨fun h => hf h.2.1⟩
    clear hf
    go_wp2_with (first | (go_at_call 26; (with_reducible refine (box_Formed.calls x0 y0 x1 y1 true _ (box_yes HX.out)).mono ?_); rintro e w2 ⟨he, hb2⟩; subst he; have HB2 := Aside0.mk hb2; have c0 := (hb2.cell (World.block_lt_of_cell? W1 _ c0)).trans c0; have c1 := (hb2.cell (World.block_lt_of_cell? W1 _ c1)).trans c1; have c2 := (hb2.cell (World.block_lt_of_cell? W1 _ c2)).trans c2; have c3 := (hb2.cell (World.block_lt_of_cell? W1 _ c3)).trans c3; clear hb2) | (go_at_call 17; (with_reducible refine (formed_any W H A c ws A' c' sp _ (Kd.C_below HC.out.1 HB2.out) HC.out.2.2.1 (Kd.C_below HC.out.2.1 HB2.out) HC.out.2.2.2).mono ?_); rintro e w3 ⟨r, he, hr, hb3⟩; obtain rfl : r = false := (by cases r <;> first | rfl | exact absurd (hr.1 rfl) HF.out); subst he; have HB3 := Aside0.mk (HB2.out.trans (hb3.mono HB2.out.size)); clear hb3 hr))
    go_ret
    exact BoolP.no HN.out (HB.out.trans (HB3.out.mono HB.out.size))
  have HF := Aside0.mk hf
  clear hf
  go_upto_region 4 with (first | (go_at_call 26; (with_reducible refine (box_Formed.calls x0 y0 x1 y1 true _ (box_yes HX.out)).mono ?_); rintro e w2 ⟨he, hb2⟩; subst he; have HB2 := Aside0.mk hb2; have c0 := (hb2.cell (World.block_lt_of_cell? W1 _ c0)).trans c0; have c1 := (hb2.cell (World.block_lt_of_cell? W1 _ c1)).trans c1; have c2 := (hb2.cell (World.block_lt_of_cell? W1 _ c2)).trans c2; have c3 := (hb2.cell (World.block_lt_of_cell? W1 _ c3)).trans c3; clear hb2) | (go_at_call 17; (with_reducible refine (formed_any W H A c ws A' c' sp _ (Kd.C_below HC.out.1 HB2.out) HC.out.2.2.1 (Kd.C_below HC.out.2.1 HB2.out) HC.out.2.2.2).mono ?_); rintro e w3 ⟨r, he, hr, hb3⟩; obtain rfl : r = true := hr.2 HF.out; subst he; have HB3 := Aside0.mk (HB2.out.trans (hb3.mono HB2.out.size)); clear hb3 hr))
  clear c0 c1 c2 c3 d0 d1 d2 d3
  have HB4 := Aside0.mk (HB.out.trans (HB3.out.mono HB.out.size))
  have HM3 := Aside0.mk (blk_below HM.out HB3.out)
  have HD3 := Aside0.mk (blk_below HD.out HB3.out)
  have c0 : w3.cell? ⟨B, 0, none⟩ = some (.int .i64 W) := (blk_cell HM3.out 0).trans rfl
  have c1 : w3.cell? ⟨B, 1, none⟩ = some (.int .i64 H) := (blk_cell HM3.out 1).trans rfl
  have d0 : w3.cell? ⟨B + 1, 0, none⟩ = some (.int .i64 x0) := (blk_cell HD3.out 0).trans rfl
  have d1 : w3.cell? ⟨B + 1, 1, none⟩ = some (.int .i64 y0) := (blk_cell HD3.out 1).trans rfl
  have d2 : w3.cell? ⟨B + 1, 2, none⟩ = some (.int .i64 x1) := (blk_cell HD3.out 2).trans rfl
  have d3 : w3.cell? ⟨B + 1, 3, none⟩ = some (.int .i64 y1) := (blk_cell HD3.out 3).trans rfl
  obtain ⟨f1, f2, f3, f4, f5', _, _⟩ := HF.out
  have F5 := Aside0.mk f5'
  clear f5'
  obtain ⟨b1, b2, b3, b4, b5, b6, b7, b8, b9, b10⟩ := HX.out
  by_cases h1 : x0 < 0
  · have HN : Aside0 (¬ FreeP W H ws sp x0 y0 x1 y1) := ⟨fun h => by have := h.2.2.1; omega⟩
    go_wp2_with fail
    go_ret
    exact BoolP.no HN.out HB4.out
  by_cases h2 : y0 < 0
  · have HN : Aside0 (¬ FreeP W H ws sp x0 y0 x1 y1) := ⟨fun h => by have := h.2.2.2.1; omega⟩
    go_wp2_with fail
    go_ret
    exact BoolP.no HN.out HB4.out
  by_cases h3 : W * 65536 < x1
  · have HN : Aside0 (¬ FreeP W H ws sp x0 y0 x1 y1) := ⟨fun h => by have := h.2.2.2.2.1; omega⟩
    go_wp2_with fail
    go_ret
    exact BoolP.no HN.out HB4.out
  by_cases h4 : H * 65536 < y1
  · have HN : Aside0 (¬ FreeP W H ws sp x0 y0 x1 y1) := ⟨fun h => by have := h.2.2.2.2.2.1; omega⟩
    go_wp2_with fail
    go_ret
    exact BoolP.no HN.out HB4.out
  have HP : Aside0 (FreeP W H ws sp x0 y0 x1 y1 ↔ ∀ x y : Int, 0 ≤ x → x < W → 0 ≤ y → y < H → tileB W ws x y = true → ¬ Ov x y x0 y0 x1 y1) := ⟨⟨fun h => h.2.2.2.2.2.2, fun h => ⟨HX.out, HF.out, by omega, by omega, by omega, by omega, h⟩⟩⟩
  go_wp2_with fail
  all_goals
    go_loopg [6] 40 (fun kq v6 w' => ∃ y : Int, v6 = .int .i64 y ∧ Aside0 (0 ≤ y ∧ y ≤ 4096 ∧ (H ≤ y + kq ∨ H ≤ y)) ∧ Aside0 (∀ x y' : Int, 0 ≤ x → x < W → 0 ≤ y' → y' < y → tileB W ws x y' = true → ¬ Ov x y' x0 y0 x1 y1) ∧ Aside0 (Below w3.heap.size w3 w'))
    case atStart => exact ⟨_, rfl, ⟨by omega⟩, ⟨fun x y' _ _ _ _ _ ho => by unfold Ov at ho; omega⟩, ⟨Below.refl _ _⟩⟩
    case round =>
      obtain ⟨y, rfl, HY, HL, HBr⟩ := hrel
      obtain ⟨hy1, hy2, hy3⟩ := HY.out
      clear c0 c1 d0 d1 d2 d3
      have c0 : wr.cell? ⟨B, 0, none⟩ = some (.int .i64 W) := (blk_cell (blk_below HM3.out HBr.out) 0).trans rfl
      have c1 : wr.cell? ⟨B, 1, none⟩ = some (.int .i64 H) := (blk_cell (blk_below HM3.out HBr.out) 1).trans rfl
      have d0 : wr.cell? ⟨B + 1, 0, none⟩ = some (.int .i64 x0) := (blk_cell (blk_below HD3.out HBr.out) 0).trans rfl
      have d3 : wr.cell? ⟨B + 1, 3, none⟩ = some (.int .i64 y1) := (blk_cell (blk_below HD3.out HBr.out) 3).trans rfl
      by_cases hyH : y < H
      · by_cases hyd : y * 65536 < y1
        · obtain ⟨G1, rfl⟩ : ∃ G, gk = G + 1 := ⟨gk - 1, by omega⟩
          have HB5 := Aside0.mk (HB4.out.trans (HBr.out.mono HB4.out.size))
          have HB6 := Aside0.mk (HB3.out.trans (HBr.out.mono HB3.out.size))
          have HM5 := Aside0.mk (blk_below HM3.out HBr.out)
          have HD5 := Aside0.mk (blk_below HD3.out HBr.out)
          obtain ⟨M, hM⟩ : ∃ M, y * W = M := ⟨_, rfl⟩
          have HMi : Aside0 (∀ x : Int, 0 ≤ x → x < W → 0 ≤ M ∧ M ≤ 1024 ∧ 0 ≤ M + x ∧ M + x < (ws.length : Int)) := ⟨fun x a1 a2 => by
            have h := idx_small a1 a2 hy1 hyH f2 f4
            rw [hM] at h
            have := F5.out
            omega⟩
          have HMw : Aside0 (∀ x, tileB W ws x y = rdOf false ws (M + x)) := ⟨fun x => by unfold tileB; rw [hM]⟩
          have HMy := Aside0.mk hM
          clear hM
          go_wp2_with fail
          all_goals
            generalize wr = W5 at *
            go_loopg [7] 40 (fun kq v7 w' => ∃ x : Int, v7 = .int .i64 x ∧ Aside0 (0 ≤ x ∧ x ≤ 4096 ∧ (W ≤ x + kq ∨ W ≤ x)) ∧ Aside0 (∀ x' : Int, 0 ≤ x' → x' < x → x' < W → tileB W ws x' y = true → ¬ Ov x' y x0 y0 x1 y1) ∧ Aside0 (Below W5.heap.size W5 w'))
            case atStart => exact ⟨_, rfl, ⟨by omega⟩, ⟨fun x' _ _ _ _ ho => by unfold Ov at ho; omega⟩, ⟨Below.refl _ _⟩⟩
            case round =>
              obtain ⟨x, rfl, HXx, HLx, HBx⟩ := hrel
              obtain ⟨hx1, hx2, hx3⟩ := HXx.out
              clear c0 c1 d0 d3
              have c0 : wr.cell? ⟨B, 0, none⟩ = some (.int .i64 W) := (blk_cell (blk_below HM5.out HBx.out) 0).trans rfl
              have d2 : wr.cell? ⟨B + 1, 2, none⟩ = some (.int .i64 x1) := (blk_cell (blk_below HD5.out HBx.out) 2).trans rfl
              have HBn := Aside0.mk (HBr.out.trans (HBx.out.mono HBr.out.size))
              by_cases hxW : x < W
              · by_cases hxd : x * 65536 < x1
                · obtain ⟨hm1, hm2, hm3, hm4⟩ := HMi.out x hx1 hxW
                  obtain ⟨G2, rfl⟩ : ∃ G, gk = G + 1 := ⟨gk - 1, by omega⟩
                  go_upto_region 13 with fail
                  have HBa := Aside0.mk (HBx.out.trans ((below_alloc (Below.refl wr.heap.size wr) (.cells #[.int .i64 (x * 65536), .int .i64 (y * 65536), .int .i64 ((x + 1) * 65536), .int .i64 ((y + 1) * 65536)] 41 (0, 0))).mono HBx.out.size))
                  have HT := Aside0.mk (blk_new wr (.cells #[.int .i64 (x * 65536), .int .i64 (y * 65536), .int .i64 ((x + 1) * 65536), .int .i64 ((y + 1) * 65536)] 41 (0, 0)))
                  generalize wr.alloc (.cells #[.int .i64 (x * 65536), .int .i64 (y * 65536), .int .i64 ((x + 1) * 65536), .int .i64 ((y + 1) * 65536)] 41 (0, 0)) = W7 at *
                  generalize wr.heap.size = P at *
                  have HBm := Aside0.mk (HBr.out.trans (HBa.out.mono HBr.out.size))
                  clear c0 d2
                  have c0 : W7.cell? ⟨B, 0, none⟩ = some (.int .i64 W) := (blk_cell (blk_below HM5.out HBa.out) 0).trans rfl
                  have c2 : W7.cell? ⟨B, 2, none⟩ = some (.slice A ws.length c) := (blk_cell (blk_below HM5.out HBa.out) 2).trans rfl
                  have d0 : W7.cell? ⟨B + 1, 0, none⟩ = some (.int .i64 x0) := (blk_cell (blk_below HD5.out HBa.out) 0).trans rfl
                  have d1 : W7.cell? ⟨B + 1, 1, none⟩ = some (.int .i64 y0) := (blk_cell (blk_below HD5.out HBa.out) 1).trans rfl
                  have d2 : W7.cell? ⟨B + 1, 2, none⟩ = some (.int .i64 x1) := (blk_cell (blk_below HD5.out HBa.out) 2).trans rfl
                  have d3 : W7.cell? ⟨B + 1, 3, none⟩ = some (.int .i64 y1) := (blk_cell (blk_below HD5.out HBa.out) 3).trans rfl
                  have t0 : W7.cell? ⟨P, 0, none⟩ = some (.int .i64 (x * 65536)) := (blk_cell HT.out 0).trans rfl
                  have t1 : W7.cell? ⟨P, 1, none⟩ = some (.int .i64 (y * 65536)) := (blk_cell HT.out 1).trans rfl
                  have t2 : W7.cell? ⟨P, 2, none⟩ = some (.int .i64 ((x + 1) * 65536)) := (blk_cell HT.out 2).trans rfl
                  have t3 : W7.cell? ⟨P, 3, none⟩ = some (.int .i64 ((y + 1) * 65536)) := (blk_cell HT.out 3).trans rfl
                  obtain ⟨adw, e, u0⟩ := Kd.at_bool (Kd.C_below HC.out.1 (HB6.out.trans (HBa.out.mono HB6.out.size))) (M + x) hm3 hm4
                  cases e
                  have HTB := Aside0.mk (HMw.out x)
                  obtain ⟨b, hb⟩ : ∃ b, rdOf false ws (M + x) = b := ⟨_, rfl⟩
                  rw [hb] at u0
                  have HTb : Aside0 (tileB W ws x y = b) := ⟨by rw [HTB.out]; exact hb⟩
                  clear hb HTB
                  have HG1 : Aside0 (G1 < G1 + 1) := ⟨by omega⟩
                  have HG2 : Aside0 (G2 < G2 + 1) := ⟨by omega⟩
                  have HX2 : Aside0 (0 ≤ x + 1 ∧ x + 1 ≤ 4096 ∧ (W ≤ x + 1 + G2 ∨ W ≤ x + 1)) := ⟨by omega⟩
                  have Hov1 : Aside0 (Ov x y x0 y0 x1 y1 → box_Overlap.f (x * 65536) (y * 65536) ((x + 1) * 65536) ((y + 1) * 65536) x0 y0 x1 y1 = some true) := ⟨fun h => by
                    rw [show (x + 1) * 65536 = x * 65536 + 65536 by omega, show (y + 1) * 65536 = y * 65536 + 65536 by omega]
                    exact ov_yes HX.out hx1 (by omega) hy1 (by omega) h⟩
                  have Hov0 : Aside0 (¬ Ov x y x0 y0 x1 y1 → box_Overlap.f (x * 65536) (y * 65536) ((x + 1) * 65536) ((y + 1) * 65536) x0 y0 x1 y1 = some false) := ⟨fun h => by
                    rw [show (x + 1) * 65536 = x * 65536 + 65536 by omega, show (y + 1) * 65536 = y * 65536 + 65536 by omega]
                    exact ov_no HX.out hx1 (by omega) hy1 (by omega) h⟩
                  have HLn : Aside0 ((tileB W ws x y = true → ¬ Ov x y x0 y0 x1 y1) → ∀ x' : Int, 0 ≤ x' → x' < x + 1 → x' < W → tileB W ws x' y = true → ¬ Ov x' y x0 y0 x1 y1) := ⟨fun hn x' a1 a2 a3 ht => by
                    by_cases h : x' < x
                    · exact HLx.out x' a1 h a3 ht
                    · obtain rfl : x' = x := by omega
                      exact hn ht⟩
                  have HNo : Aside0 (tileB W ws x y = true → Ov x y x0 y0 x1 y1 → ¬ FreeP W H ws sp x0 y0 x1 y1) := ⟨fun ht ho h => HP.out.1 h x y hx1 hxW hy1 hyH ht ho⟩
                  have hwm : IntKind.i64.wrap (y * W) = M := by rw [HMy.out, i64_w]; exact w64 M (by omega)
                  cases b with
                  | false =>
                    have HL2 := Aside0.mk (HLn.out (fun ht => by rw [HTb.out] at ht; cases ht))
                    go_wp2_with fail
                    go_roundg G2
                    case measure => exact HG2.out
                    case rel => exact ⟨x + 1, rfl, HX2, HL2, HBa⟩
                  | true =>
                    by_cases ho : Ov x y x0 y0 x1 y1
                    · have HO := Aside0.mk (Hov1.out ho)
                      have HN := Aside0.mk (HNo.out HTb.out ho)
                      clear ho
                      go_wp2_with (go_at_call 27; (with_reducible refine (box_Overlap.calls (x * 65536) (y * 65536) ((x + 1) * 65536) ((y + 1) * 65536) x0 y0 x1 y1 true _ HO.out).mono ?_); rintro e w9 ⟨he, hb9⟩; subst he; have HB9 := Aside0.mk (HBm.out.trans (hb9.mono HBm.out.size)); clear hb9)
                      go_ret
                      exact BoolP.no HN.out (HB4.out.trans (HB9.out.mono HB4.out.size))
                    · have HO := Aside0.mk (Hov0.out ho)
                      have HL2 := Aside0.mk (HLn.out (fun _ => ho))
                      clear ho
                      go_wp2_with (go_at_call 27; (with_reducible refine (box_Overlap.calls (x * 65536) (y * 65536) ((x + 1) * 65536) ((y + 1) * 65536) x0 y0 x1 y1 false _ HO.out).mono ?_); rintro e w9 ⟨he, hb9⟩; subst he; have HB9 := Aside0.mk (HBa.out.trans (hb9.mono HBa.out.size)); clear hb9)
                      go_roundg G2
                      case measure => exact HG2.out
                      case rel => exact ⟨x + 1, rfl, HX2, HL2, HB9⟩
                · have HL2 : Aside0 (∀ x y' : Int, 0 ≤ x → x < W → 0 ≤ y' → y' < y + 1 → tileB W ws x y' = true → ¬ Ov x y' x0 y0 x1 y1) := ⟨fun x' y' a1 a2 a3 a4 ht ho => by
                    by_cases h : y' < y
                    · exact HL.out x' y' a1 a2 a3 h ht ho
                    · obtain rfl : y' = y := by omega
                      by_cases h2 : x' < x
                      · exact HLx.out x' a1 h2 a2 ht ho
                      · unfold Ov at ho; omega⟩
                  go_wp2_with fail
                  go_roundg G1
                  case measure => omega
                  case rel => exact ⟨y + 1, rfl, ⟨by omega⟩, HL2, HBn⟩
              · have HL2 : Aside0 (∀ x y' : Int, 0 ≤ x → x < W → 0 ≤ y' → y' < y + 1 → tileB W ws x y' = true → ¬ Ov x y' x0 y0 x1 y1) := ⟨fun x' y' a1 a2 a3 a4 ht ho => by
                  by_cases h : y' < y
                  · exact HL.out x' y' a1 a2 a3 h ht ho
                  · obtain rfl : y' = y := by omega
                    exact HLx.out x' a1 (by omega) a2 ht ho⟩
                go_wp2_with fail
                go_roundg G1
                case measure => omega
                case rel => exact ⟨y + 1, rfl, ⟨by omega⟩, HL2, HBn⟩
        · have HR : Aside0 (FreeP W H ws sp x0 y0 x1 y1) := ⟨HP.out.2 (fun x y' a1 a2 a3 a4 ht ho => by
            by_cases h : y' < y
            · exact HL.out x y' a1 a2 a3 h ht ho
            · unfold Ov at ho; omega)⟩
          go_wp2_with fail
          go_ret
          exact BoolP.yes HR.out (HB4.out.trans (HBr.out.mono HB4.out.size))
      · have HR : Aside0 (FreeP W H ws sp x0 y0 x1 y1) := ⟨HP.out.2 (fun x y' a1 a2 a3 a4 ht ho => HL.out x y' a1 a2 a3 (by omega) ht ho)⟩
        go_wp2_with fail
        go_ret
        exact BoolP.yes HR.out (HB4.out.trans (HBr.out.mono HB4.out.size))
end Go.Proofs.Ytgppnfnbihngnaa.Tiles
