import Derived.Test.YtgppnfnbihngnaaTIndex
import Derived.Test.YtgppnfnbihngnaaPTilesFreex1
set_option linter.unusedVariables false
set_option linter.unusedSimpArgs false
namespace Go.Proofs.Ytgppnfnbihngnaa.Tiles
open Go.RowKit Go.Proofs.YtgppnfnbihngnaaW.PrintWords Go.Proofs.YtgppnfnbihngnaaW.PrintLast Go.Proofs.YtgppnfnbihngnaaW.PrintMore Go.Proofs.Ytgppnfnbihngnaa.PTilesFree

theorem S39_eq {p q : S39} (h1 : p.f0 = q.f0) (h2 : p.f1 = q.f1) : p = q := by cases p; cases q; simp only [S39.mk.injEq]; exact ⟨h1, h2⟩
/-- It answers whether P holds. -/
def BoolP (P : Prop) (w : World) (e : Ending) (w' : World) : Prop := ∃ r, e = .returned (.bool r) ∧ (r = true ↔ P) ∧ Below w.heap.size w w'
theorem BoolP.no {P : Prop} {w w' : World} (h : ¬ P) (hb : Below w.heap.size w w') : BoolP P w (.returned (.bool false)) w' := ⟨false, rfl, ⟨fun e => (nomatch e), fun e => absurd e h⟩, hb⟩
theorem BoolP.yes {P : Prop} {w w' : World} (h : P) (hb : Below w.heap.size w w') : BoolP P w (.returned (.bool true)) w' := ⟨true, rfl, ⟨fun _ => h, fun _ => rfl⟩, hb⟩
attribute [local go_sem high] eqA39
set_option maxHeartbeats 8000000 in
set_option maxRecDepth 100000 in
theorem formed_any (W H : Int) (A : Option Addr) (c : Nat) (ws : List Bool) (A' : Option Addr) (c' : Nat) (sp : List S39) (w : World) (hC : Kd.C Kd.bool w A ws.length ws) (hc : ws.length ≤ c) (hC' : Kd.C k39 w A' sp.length sp) (hc' : sp.length ≤ c') :
    Calls Try.prog 17 #[.agg #[.int .i64 W, .int .i64 H, .slice A ws.length c, .slice A' sp.length c']] w (BoolP (FormP W H ws sp) w) := by
  have hu39 := Try.underlying39
  have HB : Aside0 (Below w.heap.size w (w.alloc (.cells #[.int .i64 W, .int .i64 H, .slice A ws.length c, .slice A' sp.length c'] 26 (0, 0)))) := ⟨below_alloc (Below.refl _ _) _⟩
  have HM := Aside0.mk (blk_new w (.cells #[.int .i64 W, .int .i64 H, .slice A ws.length c, .slice A' sp.length c'] 26 (0, 0)))
  have HC := Aside0.mk (And.intro (Kd.C_alloc hC (.cells #[.int .i64 W, .int .i64 H, .slice A ws.length c, .slice A' sp.length c'] 26 (0, 0))) (And.intro (Kd.C_alloc hC' (.cells #[.int .i64 W, .int .i64 H, .slice A ws.length c, .slice A' sp.length c'] 26 (0, 0))) (And.intro hc hc')))
  clear hC hc hC' hc'
  go_enter Try.func17, Try.ntmps17
  go_upto_region 1 with fail
  generalize w.alloc (.cells #[.int .i64 W, .int .i64 H, .slice A ws.length c, .slice A' sp.length c'] 26 (0, 0)) = W1 at *
  obtain ⟨B, hB⟩ : ∃ X, w.heap.size = X := ⟨_, rfl⟩
  rw [hB] at HM
  rw [hB]
  have HBB := Aside0.mk hB
  clear hB
  have c0 : W1.cell? ⟨B, 0, none⟩ = some (.int .i64 W) := (blk_cell HM.out 0).trans rfl
  have c1 : W1.cell? ⟨B, 1, none⟩ = some (.int .i64 H) := (blk_cell HM.out 1).trans rfl
  have c2 : W1.cell? ⟨B, 2, none⟩ = some (.slice A ws.length c) := (blk_cell HM.out 2).trans rfl
  have c3 : W1.cell? ⟨B, 3, none⟩ = some (.slice A' sp.length c') := (blk_cell HM.out 3).trans rfl
  by_cases h1 : W < 1
  · have HN : Aside0 (¬ FormP W H ws sp) := ⟨fun h => by have := h.1; omega⟩
    (go_wp2_with fail; go_ret; exact BoolP.no HN.out HB.out)
  by_cases h2 : 32 < W
  · have HN : Aside0 (¬ FormP W H ws sp) := ⟨fun h => by have := h.2.1; omega⟩
    (go_wp2_with fail; go_ret; exact BoolP.no HN.out HB.out)
  by_cases h3 : H < 1
  · have HN : Aside0 (¬ FormP W H ws sp) := ⟨fun h => by have := h.2.2.1; omega⟩
    (go_wp2_with fail; go_ret; exact BoolP.no HN.out HB.out)
  by_cases h4 : 32 < H
  · have HN : Aside0 (¬ FormP W H ws sp) := ⟨fun h => by have := h.2.2.2.1; omega⟩
    (go_wp2_with fail; go_ret; exact BoolP.no HN.out HB.out)
  obtain ⟨hm1, hm2⟩ := mul_small W H (by omega) (by omega) (by omega) (by omega)
  obtain ⟨N, hN⟩ : ∃ N, W * H = N := ⟨_, rfl⟩
  rw [hN] at hm1 hm2
  have hw : IntKind.i64.wrap (W * H) = N := by rw [hN, i64_w]; exact w64 N (by omega)
  have HNN := Aside0.mk hN
  clear hN
  by_cases h5 : (ws.length : Int) = N
  case neg =>
    have HN : Aside0 (¬ FormP W H ws sp) := ⟨fun h => by have := h.2.2.2.2.1; have := HNN.out; omega⟩
    (go_wp2_with fail; go_ret; exact BoolP.no HN.out HB.out)
  by_cases h6 : (sp.length : Int) = 0
  · have HN : Aside0 (¬ FormP W H ws sp) := ⟨fun h => by have := h.few.2.1; omega⟩
    (go_wp2_with fail; go_ret; exact BoolP.no HN.out HB.out)
  have q6 : ((sp.length : Int) == 0) = false := by simpa using h6
  by_cases h7 : N < (sp.length : Int)
  · have HN : Aside0 (¬ FormP W H ws sp) := ⟨fun h => by have := h.few.1; have := HNN.out; omega⟩
    (go_wp2_with fail; go_ret; exact BoolP.no HN.out HB.out)
  have HP : Aside0 (FormP W H ws sp ↔ Spawn W ws 0 sp) := ⟨⟨fun h => h.2.2.2.2.2.2, fun h => ⟨by omega, by omega, by omega, by omega, h5.trans HNN.out.symm, fun e => by subst e; simp at h6, h⟩⟩⟩
  clear HNN
  have hws : ws.length ≤ 1024 := by omega
  have hsp : sp.length ≤ 1024 := by omega
  go_wp2_with fail
  obtain ⟨i4, hi4, hz1, hz2, hz3⟩ := info_parts info4
  go_loopg [3, 56] sp.length (fun kq v3 v56 w' => ∃ (k nx : Nat), v3 = .int .i64 ((nx : Int) - 1) ∧ v56 = .int .i64 (k : Int) ∧ Aside0 (kq + k = sp.length) ∧ Aside0 (nx ≤ ws.length) ∧ Aside0 (FormP W H ws sp ↔ Spawn W ws nx (sp.drop k)) ∧ Aside0 (Below w.heap.size w w') ∧ Aside0 (Below W1.heap.size W1 w'))
  case atStart => exact ⟨0, 0, rfl, rfl, ⟨by omega⟩, ⟨by omega⟩, HP, HB, ⟨Below.refl _ _⟩⟩
  case round =>
    obtain ⟨k, nx, rfl, rfl, HK, HNX, HD, HB1, HB2⟩ := hrel
    by_cases hi : (k : Int) < (sp.length : Int)
    · obtain ⟨ad, e, x0, x1⟩ := at_T39 (Kd.C_below HC.out.2.1 HB2.out) (k : Int) (by omega) hi
      cases e
      simp only [Int.toNat_natCast] at x0 x1
      have HDR := Aside0.mk (show sp.drop k = rd_T39 sp (k : Int) :: sp.drop (k + 1) by rw [List.drop_eq_getElem_cons (show k < sp.length by omega)]; simp [rd_T39, List.getD, List.getElem?_eq_getElem (show k < sp.length by omega)])
      generalize rd_T39 sp (k : Int) = p at *
      have hnx : nx ≤ ws.length := HNX.out
      have hw1 : IntKind.i64.wrap ((nx : Int) - 1 + 1) = (nx : Int) := by rw [i64_w, w64 _ (by omega)]; omega
      obtain ⟨A2, hcut, hrd, hlc⟩ := print_drop_of (P := Try.prog) Value.bool false 23 4 .i64 Try.underlying23 hi4 hz2 A c ws (nx : Int) (by omega) (by omega) HC.out.2.2.1
      simp only [Int.toNat_natCast, List.length_drop] at hcut hrd hlc
      have HCd : Aside0 (∀ W', Below W1.heap.size W1 W' → Kd.C Kd.bool W' A2 (ws.length - nx) (ws.drop nx)) := ⟨fun W' hb => Kd.C_of_reads (hrd W' (Kd.reads_of_C (d := false) (Kd.C_below HC.out.1 hb)))⟩
      have hdl : (ws.drop nx).length ≤ 1100 := by rw [List.length_drop]; omega
      clear hrd
      go_upto_region 7 with fail
      clear c0 c1 c2 c3 x0 x1
      have HB3 := Aside0.mk (below_alloc HB1.out (.cells #[.int .i64 p.f0, .int .i64 p.f1] 39 (0, 0)))
      have HB4 := Aside0.mk (below_alloc HB2.out (.cells #[.int .i64 p.f0, .int .i64 p.f1] 39 (0, 0)))
      have HPB := Aside0.mk (blk_new wr (.cells #[.int .i64 p.f0, .int .i64 p.f1] 39 (0, 0)))
      have HMB := Aside0.mk (blk_below HM.out HB4.out)
      clear HB1 HB2
      generalize wr.alloc (.cells #[.int .i64 p.f0, .int .i64 p.f1] 39 (0, 0)) = W2 at *
      generalize wr.heap.size = P at *
      have d2 : W2.cell? ⟨B, 2, none⟩ = some (.slice A ws.length c) := (blk_cell HMB.out 2).trans rfl
      go_wp2_with (go_at_call 30; (with_reducible refine (index_any A2 _ _ (ws.drop nx) _ (HCd.out _ HB4.out) hdl).mono ?_); rintro e w3 ⟨he, hb3⟩; subst he; have HPB3 := Aside0.mk (blk_below HPB.out hb3); have HMB3 := Aside0.mk (blk_below HMB.out hb3); have HB5 := Aside0.mk (HB3.out.trans (hb3.mono HB3.out.size)); have HB6 := Aside0.mk (HB4.out.trans (hb3.mono HB4.out.size)); clear hb3)
      clear d2 HB3 HB4 HPB HMB
      rcases findB_ways (ws.drop nx) 0 with ⟨hf, hno⟩ | ⟨i0, hf, hfl, hno⟩
      · rw [hf]
        have HN : Aside0 (¬ FormP W H ws sp) := ⟨fun h => by
          have h2 := HD.out.1 h
          rw [HDR.out] at h2
          exact spawn_none (fun j hj => by have := hno (j - nx); rw [List.getElem?_drop, show nx + (j - nx) = j by omega] at this; exact this) h2⟩
        go_loopg [6] 0 (fun kq v6 w' => v6 = .int .i64 (-1) ∧ Aside0 (Below w.heap.size w w'))
        case atStart => exact ⟨rfl, HB5⟩
        case round =>
          obtain ⟨rfl, HBr⟩ := hrel
          go_upto_region 8 with fail
          go_quiet (fail)
          go_wp2_with fail
          go_ret
          exact BoolP.no HN.out (by repeat (first | exact HBr.out | apply below_drew | apply pw_below_drewN))
      · rw [hf, Nat.zero_add]
        have hlt : nx + i0 < ws.length := by
          rw [List.getElem?_drop, List.getElem?_eq_some_iff] at hfl
          exact hfl.1
        have HNO : Aside0 (∀ j, nx ≤ j → j < nx + i0 → ws[j]? ≠ some false) := ⟨fun j a b => by have := hno (j - nx) (by omega); rw [List.getElem?_drop, show nx + (j - nx) = j by omega] at this; exact this⟩
        clear hno hfl hf hcut
        obtain ⟨G1, rfl⟩ : ∃ G, gk = G + 1 := ⟨gk - 1, by have := HK.out; omega⟩
        go_loopg [6] ws.length (fun kq v6 w' => ∃ i : Nat, v6 = .int .i64 (i : Int) ∧ Aside0 (ws.length ≤ nx + i + kq) ∧ Aside0 (nx + i < ws.length ∧ i0 ≤ i) ∧ Aside0 (∀ j, nx + i0 ≤ j → j < nx + i → p ≠ midJ W j) ∧ Aside0 (Below w.heap.size w w') ∧ Aside0 (Below w3.heap.size w3 w'))
        case atStart => exact ⟨i0, rfl, ⟨by omega⟩, ⟨hlt, Nat.le_refl _⟩, ⟨fun j a b => by omega⟩, HB5, ⟨Below.refl _ _⟩⟩
        case round =>
          obtain ⟨i, rfl, HKi, HI, HMs, HBr, HBs⟩ := hrel
          obtain ⟨hI1, hI2⟩ := HI.out
          obtain ⟨j, hj⟩ : ∃ j, nx + i = j := ⟨_, rfl⟩
          rw [hj] at hI1
          have hj0 : (0 : Int) ≤ (j : Int) := by omega
          have hjl : (j : Int) < (ws.length : Int) := by omega
          have hi0 : (0 : Int) ≤ (i : Int) := by omega
          have HwBx : Aside0 (IntKind.i64.wrap ((nx : Int) + (i : Int)) = (j : Int)) := ⟨by rw [i64_w, w64 _ (by omega)]; omega⟩
          have HwCx : Aside0 (IntKind.i64.wrap (1 + (i : Int)) = (i : Int) + 1) := ⟨by rw [i64_w, w64 _ (by omega)]; omega⟩
          have HwDx : Aside0 (IntKind.i64.wrap ((nx : Int) - 1 + ((i : Int) + 1)) = (j : Int)) := ⟨by rw [i64_w, w64 _ (by omega)]; omega⟩
          have HwEx : Aside0 (IntKind.i64.wrap ((nx : Int) - 1 + 2) = (nx : Int) + 1) := ⟨by rw [i64_w, w64 _ (by omega)]; omega⟩
          have HwFx : Aside0 (IntKind.i64.wrap ((nx : Int) + 1 + (i : Int)) = (j : Int) + 1) := ⟨by rw [i64_w, w64 _ (by omega)]; omega⟩
          obtain ⟨m1, m2, m3, m4⟩ := mod_small W j (by omega) (by omega) (by omega)
          obtain ⟨xr, hxr⟩ : ∃ x, (j : Int) % W = x := ⟨_, rfl⟩
          obtain ⟨yr, hyr⟩ : ∃ y, (j : Int) / W = y := ⟨_, rfl⟩
          rw [hxr] at m1 m2
          rw [hyr] at m3 m4
          have Ht1x : Aside0 ((j : Int).tmod W = xr) := ⟨by rw [Int.tmod_eq_emod_of_nonneg hj0]; exact hxr⟩
          have Ht2x : Aside0 ((j : Int).tdiv W = yr) := ⟨by rw [Int.tdiv_eq_ediv_of_nonneg hj0]; exact hyr⟩
          have Hwqx : Aside0 (IntKind.i64.wrap yr = yr) := ⟨by rw [i64_w]; exact w64 _ (by omega)⟩
          have hW0 : ¬ W = 0 := by omega
          have Hv1x : Aside0 (wrap64 (nx : Int) = (nx : Int)) := ⟨w64 _ (by omega)⟩
          have Hv2x : Aside0 (wrap64 ((nx : Int) + (i : Int)) = (j : Int)) := ⟨by rw [w64 _ (by omega)]; omega⟩
          have Hv3x : Aside0 (wrap64 yr = yr) := ⟨w64 _ (by omega)⟩
          obtain ⟨q, hq⟩ : ∃ q, midJ W j = q := ⟨_, rfl⟩
          have hqf : tiles_middle.f xr yr = some (q.f0, q.f1) := by rw [← hq]; unfold midJ; rw [hxr, hyr]; rfl
          have HQ := Aside0.mk hqf
          have HQ2 := Aside0.mk hq
          clear hqf hq hxr hyr
          have HPr := Aside0.mk (blk_below HPB3.out HBs.out)
          have HMr := Aside0.mk (blk_below HMB3.out HBs.out)
          have HK1 : Aside0 (G1 + (k + 1) = sp.length) := ⟨by have := HK.out; omega⟩
          have HJ1 : Aside0 (j + 1 ≤ ws.length) := ⟨by omega⟩
          have HKi1 : Aside0 (ws.length ≤ nx + (i + 1) + (gk - 1)) := ⟨by have := HKi.out; omega⟩
          have HKi2 : Aside0 (gk - 1 < gk) := ⟨by have := HKi.out; omega⟩
          have HG1 : Aside0 (G1 < G1 + 1) := ⟨by omega⟩
          obtain ⟨adw, e, y0⟩ := Kd.at_bool (Kd.C_below HC.out.1 (HB6.out.trans (HBs.out.mono HB6.out.size))) (j : Int) hj0 hjl
          cases e
          simp only [Int.toNat_natCast] at y0
          have HG : Aside0 (ws[j]? = some (rdOf false ws (j : Int))) := ⟨by simp [rdOf, List.getD, List.getElem?_eq_getElem (show j < ws.length by omega)]⟩
          obtain ⟨b, hb⟩ : ∃ b, rdOf false ws (j : Int) = b := ⟨_, rfl⟩
          rw [hb] at y0
          have HG2 : Aside0 (ws[j]? = some b) := ⟨by rw [← hb]; exact HG.out⟩
          clear hb HG
          by_cases hpq : p.f0 = q.f0 ∧ p.f1 = q.f1
          · have hpb : (p.f0 == q.f0 && (p.f1 == q.f1)) = true := by rw [hpq.1, hpq.2]; simp
            have HE : Aside0 (p = midJ W j) := ⟨by rw [HQ2.out]; exact S39_eq hpq.1 hpq.2⟩
            have HSp := Aside0.mk (spawn_hit (ps := sp.drop (k + 1)) (n := nx) (show 1 ≤ W by omega) (show W ≤ 32 by omega) hws (show nx ≤ j by omega) (show j < ws.length by omega) HE.out)
            have HNb : Aside0 (b = true → ¬ FormP W H ws sp) := ⟨fun hbt h => by
              have h2 := HD.out.1 h
              rw [HDR.out] at h2
              exact HSp.out.2 (by rw [HG2.out, hbt]; decide) h2⟩
            have HDb : Aside0 (b = false → (FormP W H ws sp ↔ Spawn W ws (j + 1) (sp.drop (k + 1)))) := ⟨fun hbf => by rw [HD.out, HDR.out]; exact HSp.out.1 (by rw [HG2.out, hbf])⟩
            clear HSp HD hpq
            have hwB := HwBx.out; have hwC := HwCx.out; have hwD := HwDx.out; have hwE := HwEx.out; have hwF := HwFx.out; have ht1 := Ht1x.out; have ht2 := Ht2x.out; have hwq := Hwqx.out; have hv1 := Hv1x.out; have hv2 := Hv2x.out; have hv3 := Hv3x.out
            go_upto_region 8 with fail
            refine start_ (n := 21) (S := fun w' => w'.cell? ⟨P, 0, none⟩ = some (.int .i64 p.f0) ∧ w'.cell? ⟨P, 1, none⟩ = some (.int .i64 p.f1) ∧ w'.cell? ⟨B, 0, none⟩ = some (.int .i64 W)) (ds := []) #[false, false, false, false, false, false, false, false, false, false, false, false, false, false, false, false, false, false, false, false, false] (by kernel_rfl) rfl rfl ⟨((blk_cell (blk_below HPr.out (below_drew (Below.refl _ _))) 0).trans rfl), ((blk_cell (blk_below HPr.out (below_drew (Below.refl _ _))) 1).trans rfl), ((blk_cell (blk_below HMr.out (below_drew (Below.refl _ _))) 0).trans rfl)⟩ (fun hHeld => ?_)
            refine pure_ (i := 0) (N := some 66) (v := ?_) (a' := ?_) #[true, false, false, false, false, false, false, false, false, false, false, false, false, false, false, false, false, false, false, false, false] rfl rfl (by kernel_rfl) (fun _ _ _ h => h) (Or.inl ⟨by rfl, ?_⟩) ?_ ?_
            rotate_left
            · intro w'
              go_simp
              with_reducible rfl
            rotate_left
            · simp only [Act.put, List.setIfInBounds_toArray, List.set_cons_zero, List.set_cons_succ, i64_w, hv1, hv2, hv3, ht1, ht2]
              rfl
            refine pure_ (i := 1) (N := some 67) (v := ?_) (a' := ?_) #[true, true, false, false, false, false, false, false, false, false, false, false, false, false, false, false, false, false, false, false, false] rfl rfl (by kernel_rfl) (fun _ _ _ h => h) (Or.inl ⟨by rfl, ?_⟩) ?_ ?_
            rotate_left
            · intro w'
              go_simp
              with_reducible rfl
            rotate_left
            · simp only [Act.put, List.setIfInBounds_toArray, List.set_cons_zero, List.set_cons_succ, i64_w, hv1, hv2, hv3, ht1, ht2]
              rfl
            refine pure_ (i := 2) (N := some 68) (v := ?_) (a' := ?_) #[true, true, true, false, false, false, false, false, false, false, false, false, false, false, false, false, false, false, false, false, false] rfl rfl (by kernel_rfl) (fun _ _ _ h => h) (Or.inl ⟨by rfl, ?_⟩) ?_ ?_
            rotate_left
            · intro w'
              go_simp
              with_reducible rfl
            rotate_left
            · simp only [Act.put, List.setIfInBounds_toArray, List.set_cons_zero, List.set_cons_succ, i64_w, hv1, hv2, hv3, ht1, ht2]
              rfl
            refine pure_ (i := 4) (N := some 70) (v := ?_) (a' := ?_) #[true, true, true, false, true, false, false, false, false, false, false, false, false, false, false, false, false, false, false, false, false] rfl rfl (by kernel_rfl) (fun _ _ _ h => h) (Or.inl ⟨by rfl, ?_⟩) ?_ ?_
            rotate_left
            · intro w'
              go_simp
              with_reducible rfl
            rotate_left
            · simp only [Act.put, List.setIfInBounds_toArray, List.set_cons_zero, List.set_cons_succ, i64_w, hv1, hv2, hv3, ht1, ht2]
              rfl
            refine pure_ (i := 5) (N := some 71) (v := ?_) (a' := ?_) #[true, true, true, false, true, true, false, false, false, false, false, false, false, false, false, false, false, false, false, false, false] rfl rfl (by kernel_rfl) (fun _ _ _ h => h) (Or.inl ⟨by rfl, ?_⟩) ?_ ?_
            rotate_left
            · intro w'
              go_simp
              with_reducible rfl
            rotate_left
            · simp only [Act.put, List.setIfInBounds_toArray, List.set_cons_zero, List.set_cons_succ, i64_w, hv1, hv2, hv3, ht1, ht2]
              rfl
            refine pure_ (i := 6) (N := some 72) (v := ?_) (a' := ?_) #[true, true, true, false, true, true, true, false, false, false, false, false, false, false, false, false, false, false, false, false, false] rfl rfl (by kernel_rfl) (fun _ _ _ h => h) (Or.inl ⟨by rfl, ?_⟩) ?_ ?_
            rotate_left
            · intro w'
              go_simp
              with_reducible rfl
            rotate_left
            · simp only [Act.put, List.setIfInBounds_toArray, List.set_cons_zero, List.set_cons_succ, i64_w, hv1, hv2, hv3, ht1, ht2]
              rfl
            refine pure_ (i := 7) (N := some 73) (v := ?_) (a' := ?_) #[true, true, true, false, true, true, true, true, false, false, false, false, false, false, false, false, false, false, false, false, false] rfl rfl (by kernel_rfl) (fun _ _ _ h => h) (Or.inl ⟨by rfl, ?_⟩) ?_ ?_
            rotate_left
            · intro w'
              go_simp
              with_reducible rfl
            rotate_left
            · simp only [Act.put, List.setIfInBounds_toArray, List.set_cons_zero, List.set_cons_succ, i64_w, hv1, hv2, hv3, ht1, ht2]
              rfl
            refine pure_ (i := 8) (N := some 74) (v := ?_) (a' := ?_) #[true, true, true, false, true, true, true, true, true, false, false, false, false, false, false, false, false, false, false, false, false] rfl rfl (by kernel_rfl) (fun _ _ _ h => h) (Or.inl ⟨by rfl, ?_⟩) ?_ ?_
            rotate_left
            · intro w'
              go_simp
              with_reducible rfl
            rotate_left
            · simp only [Act.put, List.setIfInBounds_toArray, List.set_cons_zero, List.set_cons_succ, i64_w, hv1, hv2, hv3, ht1, ht2]
              rfl
            refine pure_ (i := 11) (N := some 77) (v := ?_) (a' := ?_) #[true, true, true, false, true, true, true, true, true, false, false, true, false, false, false, false, false, false, false, false, false] rfl rfl (by kernel_rfl) (fun _ _ _ h => h) (Or.inl ⟨by rfl, ?_⟩) ?_ ?_
            rotate_left
            · intro w'
              go_simp
              with_reducible rfl
            rotate_left
            · simp only [Act.put, List.setIfInBounds_toArray, List.set_cons_zero, List.set_cons_succ, i64_w, hv1, hv2, hv3, ht1, ht2]
              rfl
            refine pure_ (i := 12) (N := some 78) (v := ?_) (a' := ?_) #[true, true, true, false, true, true, true, true, true, false, false, true, true, false, false, false, false, false, false, false, false] rfl rfl (by kernel_rfl) (fun _ _ _ h => h) (Or.inl ⟨by rfl, ?_⟩) ?_ ?_
            rotate_left
            · intro w'
              go_simp
              with_reducible rfl
            rotate_left
            · simp only [Act.put, List.setIfInBounds_toArray, List.set_cons_zero, List.set_cons_succ, i64_w, hv1, hv2, hv3, ht1, ht2]
              rfl
            refine pure_ (i := 13) (N := some 79) (v := ?_) (a' := ?_) #[true, true, true, false, true, true, true, true, true, false, false, true, true, true, false, false, false, false, false, false, false] rfl rfl (by kernel_rfl) (fun _ _ _ h => h) (Or.inl ⟨by rfl, ?_⟩) ?_ ?_
            rotate_left
            · intro w'
              go_simp
              with_reducible rfl
            rotate_left
            · simp only [Act.put, List.setIfInBounds_toArray, List.set_cons_zero, List.set_cons_succ, i64_w, hv1, hv2, hv3, ht1, ht2]
              rfl
            refine pure_ (i := 14) (N := some 80) (v := ?_) (a' := ?_) #[true, true, true, false, true, true, true, true, true, false, false, true, true, true, true, false, false, false, false, false, false] rfl rfl (by kernel_rfl) (fun _ _ _ h => h) (Or.inl ⟨by rfl, ?_⟩) ?_ ?_
            rotate_left
            · intro w'
              go_simp
              with_reducible rfl
            rotate_left
            · simp only [Act.put, List.setIfInBounds_toArray, List.set_cons_zero, List.set_cons_succ, i64_w, hv1, hv2, hv3, ht1, ht2]
              rfl
            refine pure_ (i := 15) (N := some 81) (v := ?_) (a' := ?_) #[true, true, true, false, true, true, true, true, true, false, false, true, true, true, true, true, false, false, false, false, false] rfl rfl (by kernel_rfl) (fun _ _ _ h => h) (Or.inl ⟨by rfl, ?_⟩) ?_ ?_
            rotate_left
            · intro w'
              go_simp
              with_reducible rfl
            rotate_left
            · simp only [Act.put, List.setIfInBounds_toArray, List.set_cons_zero, List.set_cons_succ, i64_w, hv1, hv2, hv3, ht1, ht2]
              rfl
            refine take_ (i := 3) (N := some 69) (v := ?_) (a' := ?_) #[true, true, true, true, true, true, true, true, true, false, false, true, true, true, true, true, false, false, false, false, false] rfl rfl (by kernel_rfl) (fun _ _ _ h => h) (Or.inl ⟨by rfl, ?_⟩) hHeld ?_ ?_
            rotate_left
            · rintro w' ⟨s0, s1, s2⟩
              go_simp
              with_reducible rfl
            rotate_left
            · simp only [Act.put, List.setIfInBounds_toArray, List.set_cons_zero, List.set_cons_succ, i64_w, hv1, hv2, hv3, ht1, ht2]
              rfl
            refine take_ (i := 9) (N := some 75) (v := ?_) (a' := ?_) #[true, true, true, true, true, true, true, true, true, true, false, true, true, true, true, true, false, false, false, false, false] rfl rfl (by kernel_rfl) (fun _ _ _ h => h) (Or.inl ⟨by rfl, ?_⟩) hHeld ?_ ?_
            rotate_left
            · rintro w' ⟨s0, s1, s2⟩
              go_simp
              with_reducible rfl
            rotate_left
            · simp only [Act.put, List.setIfInBounds_toArray, List.set_cons_zero, List.set_cons_succ, i64_w, hv1, hv2, hv3, ht1, ht2]
              rfl
            refine pure_ (i := 10) (N := some 76) (v := ?_) (a' := ?_) #[true, true, true, true, true, true, true, true, true, true, true, true, true, true, true, true, false, false, false, false, false] rfl rfl (by kernel_rfl) (fun _ _ _ h => h) (Or.inl ⟨by rfl, ?_⟩) ?_ ?_
            rotate_left
            · intro w'
              go_simp
              with_reducible rfl
            rotate_left
            · simp only [Act.put, List.setIfInBounds_toArray, List.set_cons_zero, List.set_cons_succ, i64_w, hv1, hv2, hv3, ht1, ht2]
              rfl
            refine take_ (i := 16) (N := some 82) (v := ?_) (a' := ?_) #[true, true, true, true, true, true, true, true, true, true, true, true, true, true, true, true, true, false, false, false, false] rfl rfl (by kernel_rfl) (fun _ _ _ h => h) (Or.inl ⟨by rfl, ?_⟩) hHeld ?_ ?_
            rotate_left
            · rintro w' ⟨s0, s1, s2⟩
              go_simp
              with_reducible rfl
            rotate_left
            · simp only [Act.put, List.setIfInBounds_toArray, List.set_cons_zero, List.set_cons_succ, i64_w, hv1, hv2, hv3, ht1, ht2]
              rfl
            refine pure_ (i := 17) (N := some 83) (v := ?_) (a' := ?_) #[true, true, true, true, true, true, true, true, true, true, true, true, true, true, true, true, true, true, false, false, false] rfl rfl (by kernel_rfl) (fun _ _ _ h => h) (Or.inl ⟨by rfl, ?_⟩) ?_ ?_
            rotate_left
            · intro w'
              go_simp
              with_reducible rfl
            rotate_left
            · simp only [Act.put, List.setIfInBounds_toArray, List.set_cons_zero, List.set_cons_succ, i64_w, hv1, hv2, hv3, ht1, ht2]
              rfl
            refine one_ (i := 18) (N := some 84) #[true, true, true, true, true, true, true, true, true, true, true, true, true, true, true, true, true, true, true, false, false] rfl rfl (by kernel_rfl) (by decide) (fun K hK => ?_)
            refine goes_ Try.func23 (by kernel_rfl) rfl #[.int .i64 xr, .int .i64 yr] (by rfl) rfl rfl (by simp only [List.map_toArray, List.map_cons, List.map_nil]; rfl) ?_
            with_reducible refine (tiles_middle.calls xr yr q.f0 q.f1 _ HQ.out).mono ?_
            rintro e w4 ⟨rfl, hb4⟩
            refine ⟨_, rfl, ?_⟩
            have HB4 := Aside0.mk (below_step (below_drew (Below.refl wr.heap.size wr)) hb4)
            clear hb4
            refine hK.out _ _ ⟨((blk_cell (blk_below HPr.out HB4.out) 0).trans rfl), ((blk_cell (blk_below HPr.out HB4.out) 1).trans rfl), ((blk_cell (blk_below HMr.out HB4.out) 0).trans rfl)⟩ (fun hHeld => ?_)
            clear hK K
            refine norm_ (a' := ?_) ?_ ?_
            rotate_left
            · show Act.put _ (some 84) _ = _
              simp only [Act.put, List.setIfInBounds_toArray, List.set_cons_zero, List.set_cons_succ, i64_w, hv1, hv2, hv3, ht1, ht2]
              rfl
            refine pure_ (i := 19) (N := some 85) (v := ?_) (a' := ?_) #[true, true, true, true, true, true, true, true, true, true, true, true, true, true, true, true, true, true, true, true, false] rfl rfl (by kernel_rfl) (fun _ _ _ h => h) (Or.inl ⟨by rfl, ?_⟩) ?_ ?_
            rotate_left
            · intro w'
              go_simp
              with_reducible rfl
            rotate_left
            · simp only [Act.put, List.setIfInBounds_toArray, List.set_cons_zero, List.set_cons_succ, i64_w, hv1, hv2, hv3, ht1, ht2]
              rfl
            refine pure_ (i := 20) (N := some 86) (v := ?_) (a' := ?_) #[true, true, true, true, true, true, true, true, true, true, true, true, true, true, true, true, true, true, true, true, true] rfl rfl (by kernel_rfl) (fun _ _ _ h => h) (Or.inl ⟨by rfl, ?_⟩) ?_ ?_
            rotate_left
            · intro w'
              go_simp
              with_reducible rfl
            rotate_left
            · simp only [Act.put, List.setIfInBounds_toArray, List.set_cons_zero, List.set_cons_succ, i64_w, hv1, hv2, hv3, ht1, ht2]
              rfl
            refine done_ (by kernel_rfl) ?_
            have HBw := Aside0.mk (HBr.out.trans (HB4.out.mono HBr.out.size))
            have HBv := Aside0.mk (HB6.out.trans ((HBs.out.trans (HB4.out.mono HBs.out.size)).mono HB6.out.size))
            have d2 : w4.cell? ⟨B, 2, none⟩ = some (.slice (some adw) ws.length c) := (blk_cell (blk_below HM.out HBv.out) 2).trans rfl
            clear ht1 ht2 hwq hv1 hv2 hv3 hwE hwF
            have y1 := (HB4.out.cell (World.block_lt_of_cell? wr _ y0)).trans y0
            clear y0
            cases b with
            | true =>
              clear hwC hwD
              go_wp2_with fail
              go_ret
              exact BoolP.no (HNb.out (by trivial)) HBw.out
            | false =>
              go_upto_region 14 with fail
              clear hwB hw1
              go_upto_region 15 with fail
              clear hwC hwD
              go_wp2_with fail
              go_roundg G1
              case measure => exact HG1.out
              case rel => exact ⟨k + 1, j + 1, by simp, by simp, HK1, HJ1, ⟨HDb.out (by trivial)⟩, HBw, HBv⟩
          · have hpb : (p.f0 == q.f0 && (p.f1 == q.f1)) = false := by
              rw [Bool.and_eq_false_iff]
              by_cases h : p.f0 = q.f0
              · right; simpa using fun h2 => hpq ⟨h, h2⟩
              · left; simpa using h
            have HM3 : Aside0 (∀ j', nx + i0 ≤ j' → j' < nx + (i + 1) → p ≠ midJ W j') := ⟨fun j' a b => by
              by_cases hjj : j' = j
              · subst hjj
                intro e
                rw [HQ2.out] at e
                exact hpq (by rw [e]; exact ⟨rfl, rfl⟩)
              · exact HMs.out j' a (by omega)⟩
            clear hpq
            by_cases hend : (ws.length : Int) ≤ (j : Int) + 1
            · have HN : Aside0 (¬ FormP W H ws sp) := ⟨fun h => by
                have h2 := HD.out.1 h
                rw [HDR.out] at h2
                exact spawn_miss HNO.out (fun j' a b => HM3.out j' a (by omega)) h2⟩
              clear HM3 HMs HD
              have hwB := HwBx.out; have hwC := HwCx.out; have hwD := HwDx.out; have hwE := HwEx.out; have hwF := HwFx.out; have ht1 := Ht1x.out; have ht2 := Ht2x.out; have hwq := Hwqx.out; have hv1 := Hv1x.out; have hv2 := Hv2x.out; have hv3 := Hv3x.out
              go_upto_region 8 with fail
              refine start_ (n := 21) (S := fun w' => w'.cell? ⟨P, 0, none⟩ = some (.int .i64 p.f0) ∧ w'.cell? ⟨P, 1, none⟩ = some (.int .i64 p.f1) ∧ w'.cell? ⟨B, 0, none⟩ = some (.int .i64 W)) (ds := []) #[false, false, false, false, false, false, false, false, false, false, false, false, false, false, false, false, false, false, false, false, false] (by kernel_rfl) rfl rfl ⟨((blk_cell (blk_below HPr.out (below_drew (Below.refl _ _))) 0).trans rfl), ((blk_cell (blk_below HPr.out (below_drew (Below.refl _ _))) 1).trans rfl), ((blk_cell (blk_below HMr.out (below_drew (Below.refl _ _))) 0).trans rfl)⟩ (fun hHeld => ?_)
              refine pure_ (i := 0) (N := some 66) (v := ?_) (a' := ?_) #[true, false, false, false, false, false, false, false, false, false, false, false, false, false, false, false, false, false, false, false, false] rfl rfl (by kernel_rfl) (fun _ _ _ h => h) (Or.inl ⟨by rfl, ?_⟩) ?_ ?_
              rotate_left
              · intro w'
                go_simp
                with_reducible rfl
              rotate_left
              · simp only [Act.put, List.setIfInBounds_toArray, List.set_cons_zero, List.set_cons_succ, i64_w, hv1, hv2, hv3, ht1, ht2]
                rfl
              refine pure_ (i := 1) (N := some 67) (v := ?_) (a' := ?_) #[true, true, false, false, false, false, false, false, false, false, false, false, false, false, false, false, false, false, false, false, false] rfl rfl (by kernel_rfl) (fun _ _ _ h => h) (Or.inl ⟨by rfl, ?_⟩) ?_ ?_
              rotate_left
              · intro w'
                go_simp
                with_reducible rfl
              rotate_left
              · simp only [Act.put, List.setIfInBounds_toArray, List.set_cons_zero, List.set_cons_succ, i64_w, hv1, hv2, hv3, ht1, ht2]
                rfl
              refine pure_ (i := 2) (N := some 68) (v := ?_) (a' := ?_) #[true, true, true, false, false, false, false, false, false, false, false, false, false, false, false, false, false, false, false, false, false] rfl rfl (by kernel_rfl) (fun _ _ _ h => h) (Or.inl ⟨by rfl, ?_⟩) ?_ ?_
              rotate_left
              · intro w'
                go_simp
                with_reducible rfl
              rotate_left
              · simp only [Act.put, List.setIfInBounds_toArray, List.set_cons_zero, List.set_cons_succ, i64_w, hv1, hv2, hv3, ht1, ht2]
                rfl
              refine pure_ (i := 4) (N := some 70) (v := ?_) (a' := ?_) #[true, true, true, false, true, false, false, false, false, false, false, false, false, false, false, false, false, false, false, false, false] rfl rfl (by kernel_rfl) (fun _ _ _ h => h) (Or.inl ⟨by rfl, ?_⟩) ?_ ?_
              rotate_left
              · intro w'
                go_simp
                with_reducible rfl
              rotate_left
              · simp only [Act.put, List.setIfInBounds_toArray, List.set_cons_zero, List.set_cons_succ, i64_w, hv1, hv2, hv3, ht1, ht2]
                rfl
              refine pure_ (i := 5) (N := some 71) (v := ?_) (a' := ?_) #[true, true, true, false, true, true, false, false, false, false, false, false, false, false, false, false, false, false, false, false, false] rfl rfl (by kernel_rfl) (fun _ _ _ h => h) (Or.inl ⟨by rfl, ?_⟩) ?_ ?_
              rotate_left
              · intro w'
                go_simp
                with_reducible rfl
              rotate_left
              · simp only [Act.put, List.setIfInBounds_toArray, List.set_cons_zero, List.set_cons_succ, i64_w, hv1, hv2, hv3, ht1, ht2]
                rfl
              refine pure_ (i := 6) (N := some 72) (v := ?_) (a' := ?_) #[true, true, true, false, true, true, true, false, false, false, false, false, false, false, false, false, false, false, false, false, false] rfl rfl (by kernel_rfl) (fun _ _ _ h => h) (Or.inl ⟨by rfl, ?_⟩) ?_ ?_
              rotate_left
              · intro w'
                go_simp
                with_reducible rfl
              rotate_left
              · simp only [Act.put, List.setIfInBounds_toArray, List.set_cons_zero, List.set_cons_succ, i64_w, hv1, hv2, hv3, ht1, ht2]
                rfl
              refine pure_ (i := 7) (N := some 73) (v := ?_) (a' := ?_) #[true, true, true, false, true, true, true, true, false, false, false, false, false, false, false, false, false, false, false, false, false] rfl rfl (by kernel_rfl) (fun _ _ _ h => h) (Or.inl ⟨by rfl, ?_⟩) ?_ ?_
              rotate_left
              · intro w'
                go_simp
                with_reducible rfl
              rotate_left
              · simp only [Act.put, List.setIfInBounds_toArray, List.set_cons_zero, List.set_cons_succ, i64_w, hv1, hv2, hv3, ht1, ht2]
                rfl
              refine pure_ (i := 8) (N := some 74) (v := ?_) (a' := ?_) #[true, true, true, false, true, true, true, true, true, false, false, false, false, false, false, false, false, false, false, false, false] rfl rfl (by kernel_rfl) (fun _ _ _ h => h) (Or.inl ⟨by rfl, ?_⟩) ?_ ?_
              rotate_left
              · intro w'
                go_simp
                with_reducible rfl
              rotate_left
              · simp only [Act.put, List.setIfInBounds_toArray, List.set_cons_zero, List.set_cons_succ, i64_w, hv1, hv2, hv3, ht1, ht2]
                rfl
              refine pure_ (i := 11) (N := some 77) (v := ?_) (a' := ?_) #[true, true, true, false, true, true, true, true, true, false, false, true, false, false, false, false, false, false, false, false, false] rfl rfl (by kernel_rfl) (fun _ _ _ h => h) (Or.inl ⟨by rfl, ?_⟩) ?_ ?_
              rotate_left
              · intro w'
                go_simp
                with_reducible rfl
              rotate_left
              · simp only [Act.put, List.setIfInBounds_toArray, List.set_cons_zero, List.set_cons_succ, i64_w, hv1, hv2, hv3, ht1, ht2]
                rfl
              refine pure_ (i := 12) (N := some 78) (v := ?_) (a' := ?_) #[true, true, true, false, true, true, true, true, true, false, false, true, true, false, false, false, false, false, false, false, false] rfl rfl (by kernel_rfl) (fun _ _ _ h => h) (Or.inl ⟨by rfl, ?_⟩) ?_ ?_
              rotate_left
              · intro w'
                go_simp
                with_reducible rfl
              rotate_left
              · simp only [Act.put, List.setIfInBounds_toArray, List.set_cons_zero, List.set_cons_succ, i64_w, hv1, hv2, hv3, ht1, ht2]
                rfl
              refine pure_ (i := 13) (N := some 79) (v := ?_) (a' := ?_) #[true, true, true, false, true, true, true, true, true, false, false, true, true, true, false, false, false, false, false, false, false] rfl rfl (by kernel_rfl) (fun _ _ _ h => h) (Or.inl ⟨by rfl, ?_⟩) ?_ ?_
              rotate_left
              · intro w'
                go_simp
                with_reducible rfl
              rotate_left
              · simp only [Act.put, List.setIfInBounds_toArray, List.set_cons_zero, List.set_cons_succ, i64_w, hv1, hv2, hv3, ht1, ht2]
                rfl
              refine pure_ (i := 14) (N := some 80) (v := ?_) (a' := ?_) #[true, true, true, false, true, true, true, true, true, false, false, true, true, true, true, false, false, false, false, false, false] rfl rfl (by kernel_rfl) (fun _ _ _ h => h) (Or.inl ⟨by rfl, ?_⟩) ?_ ?_
              rotate_left
              · intro w'
                go_simp
                with_reducible rfl
              rotate_left
              · simp only [Act.put, List.setIfInBounds_toArray, List.set_cons_zero, List.set_cons_succ, i64_w, hv1, hv2, hv3, ht1, ht2]
                rfl
              refine pure_ (i := 15) (N := some 81) (v := ?_) (a' := ?_) #[true, true, true, false, true, true, true, true, true, false, false, true, true, true, true, true, false, false, false, false, false] rfl rfl (by kernel_rfl) (fun _ _ _ h => h) (Or.inl ⟨by rfl, ?_⟩) ?_ ?_
              rotate_left
              · intro w'
                go_simp
                with_reducible rfl
              rotate_left
              · simp only [Act.put, List.setIfInBounds_toArray, List.set_cons_zero, List.set_cons_succ, i64_w, hv1, hv2, hv3, ht1, ht2]
                rfl
              refine take_ (i := 3) (N := some 69) (v := ?_) (a' := ?_) #[true, true, true, true, true, true, true, true, true, false, false, true, true, true, true, true, false, false, false, false, false] rfl rfl (by kernel_rfl) (fun _ _ _ h => h) (Or.inl ⟨by rfl, ?_⟩) hHeld ?_ ?_
              rotate_left
              · rintro w' ⟨s0, s1, s2⟩
                go_simp
                with_reducible rfl
              rotate_left
              · simp only [Act.put, List.setIfInBounds_toArray, List.set_cons_zero, List.set_cons_succ, i64_w, hv1, hv2, hv3, ht1, ht2]
                rfl
              refine take_ (i := 9) (N := some 75) (v := ?_) (a' := ?_) #[true, true, true, true, true, true, true, true, true, true, false, true, true, true, true, true, false, false, false, false, false] rfl rfl (by kernel_rfl) (fun _ _ _ h => h) (Or.inl ⟨by rfl, ?_⟩) hHeld ?_ ?_
              rotate_left
              · rintro w' ⟨s0, s1, s2⟩
                go_simp
                with_reducible rfl
              rotate_left
              · simp only [Act.put, List.setIfInBounds_toArray, List.set_cons_zero, List.set_cons_succ, i64_w, hv1, hv2, hv3, ht1, ht2]
                rfl
              refine pure_ (i := 10) (N := some 76) (v := ?_) (a' := ?_) #[true, true, true, true, true, true, true, true, true, true, true, true, true, true, true, true, false, false, false, false, false] rfl rfl (by kernel_rfl) (fun _ _ _ h => h) (Or.inl ⟨by rfl, ?_⟩) ?_ ?_
              rotate_left
              · intro w'
                go_simp
                with_reducible rfl
              rotate_left
              · simp only [Act.put, List.setIfInBounds_toArray, List.set_cons_zero, List.set_cons_succ, i64_w, hv1, hv2, hv3, ht1, ht2]
                rfl
              refine take_ (i := 16) (N := some 82) (v := ?_) (a' := ?_) #[true, true, true, true, true, true, true, true, true, true, true, true, true, true, true, true, true, false, false, false, false] rfl rfl (by kernel_rfl) (fun _ _ _ h => h) (Or.inl ⟨by rfl, ?_⟩) hHeld ?_ ?_
              rotate_left
              · rintro w' ⟨s0, s1, s2⟩
                go_simp
                with_reducible rfl
              rotate_left
              · simp only [Act.put, List.setIfInBounds_toArray, List.set_cons_zero, List.set_cons_succ, i64_w, hv1, hv2, hv3, ht1, ht2]
                rfl
              refine pure_ (i := 17) (N := some 83) (v := ?_) (a' := ?_) #[true, true, true, true, true, true, true, true, true, true, true, true, true, true, true, true, true, true, false, false, false] rfl rfl (by kernel_rfl) (fun _ _ _ h => h) (Or.inl ⟨by rfl, ?_⟩) ?_ ?_
              rotate_left
              · intro w'
                go_simp
                with_reducible rfl
              rotate_left
              · simp only [Act.put, List.setIfInBounds_toArray, List.set_cons_zero, List.set_cons_succ, i64_w, hv1, hv2, hv3, ht1, ht2]
                rfl
              refine one_ (i := 18) (N := some 84) #[true, true, true, true, true, true, true, true, true, true, true, true, true, true, true, true, true, true, true, false, false] rfl rfl (by kernel_rfl) (by decide) (fun K hK => ?_)
              refine goes_ Try.func23 (by kernel_rfl) rfl #[.int .i64 xr, .int .i64 yr] (by rfl) rfl rfl (by simp only [List.map_toArray, List.map_cons, List.map_nil]; rfl) ?_
              with_reducible refine (tiles_middle.calls xr yr q.f0 q.f1 _ HQ.out).mono ?_
              rintro e w4 ⟨rfl, hb4⟩
              refine ⟨_, rfl, ?_⟩
              have HB4 := Aside0.mk (below_step (below_drew (Below.refl wr.heap.size wr)) hb4)
              clear hb4
              refine hK.out _ _ ⟨((blk_cell (blk_below HPr.out HB4.out) 0).trans rfl), ((blk_cell (blk_below HPr.out HB4.out) 1).trans rfl), ((blk_cell (blk_below HMr.out HB4.out) 0).trans rfl)⟩ (fun hHeld => ?_)
              clear hK K
              refine norm_ (a' := ?_) ?_ ?_
              rotate_left
              · show Act.put _ (some 84) _ = _
                simp only [Act.put, List.setIfInBounds_toArray, List.set_cons_zero, List.set_cons_succ, i64_w, hv1, hv2, hv3, ht1, ht2]
                rfl
              refine pure_ (i := 19) (N := some 85) (v := ?_) (a' := ?_) #[true, true, true, true, true, true, true, true, true, true, true, true, true, true, true, true, true, true, true, true, false] rfl rfl (by kernel_rfl) (fun _ _ _ h => h) (Or.inl ⟨by rfl, ?_⟩) ?_ ?_
              rotate_left
              · intro w'
                go_simp
                with_reducible rfl
              rotate_left
              · simp only [Act.put, List.setIfInBounds_toArray, List.set_cons_zero, List.set_cons_succ, i64_w, hv1, hv2, hv3, ht1, ht2]
                rfl
              refine pure_ (i := 20) (N := some 86) (v := ?_) (a' := ?_) #[true, true, true, true, true, true, true, true, true, true, true, true, true, true, true, true, true, true, true, true, true] rfl rfl (by kernel_rfl) (fun _ _ _ h => h) (Or.inl ⟨by rfl, ?_⟩) ?_ ?_
              rotate_left
              · intro w'
                go_simp
                with_reducible rfl
              rotate_left
              · simp only [Act.put, List.setIfInBounds_toArray, List.set_cons_zero, List.set_cons_succ, i64_w, hv1, hv2, hv3, ht1, ht2]
                rfl
              refine done_ (by kernel_rfl) ?_
              have HBw := Aside0.mk (HBr.out.trans (HB4.out.mono HBr.out.size))
              have HBv := Aside0.mk (HB6.out.trans ((HBs.out.trans (HB4.out.mono HBs.out.size)).mono HB6.out.size))
              have d2 : w4.cell? ⟨B, 2, none⟩ = some (.slice (some adw) ws.length c) := (blk_cell (blk_below HM.out HBv.out) 2).trans rfl
              go_wp2_with fail
              go_ret
              exact BoolP.no HN.out HBw.out
            · have HI2 : Aside0 (nx + (i + 1) < ws.length ∧ i0 ≤ i + 1) := ⟨by omega, by omega⟩
              have hwB := HwBx.out; have hwC := HwCx.out; have hwD := HwDx.out; have hwE := HwEx.out; have hwF := HwFx.out; have ht1 := Ht1x.out; have ht2 := Ht2x.out; have hwq := Hwqx.out; have hv1 := Hv1x.out; have hv2 := Hv2x.out; have hv3 := Hv3x.out
              go_upto_region 8 with fail
              refine start_ (n := 21) (S := fun w' => w'.cell? ⟨P, 0, none⟩ = some (.int .i64 p.f0) ∧ w'.cell? ⟨P, 1, none⟩ = some (.int .i64 p.f1) ∧ w'.cell? ⟨B, 0, none⟩ = some (.int .i64 W)) (ds := []) #[false, false, false, false, false, false, false, false, false, false, false, false, false, false, false, false, false, false, false, false, false] (by kernel_rfl) rfl rfl ⟨((blk_cell (blk_below HPr.out (below_drew (Below.refl _ _))) 0).trans rfl), ((blk_cell (blk_below HPr.out (below_drew (Below.refl _ _))) 1).trans rfl), ((blk_cell (blk_below HMr.out (below_drew (Below.refl _ _))) 0).trans rfl)⟩ (fun hHeld => ?_)
              refine pure_ (i := 0) (N := some 66) (v := ?_) (a' := ?_) #[true, false, false, false, false, false, false, false, false, false, false, false, false, false, false, false, false, false, false, false, false] rfl rfl (by kernel_rfl) (fun _ _ _ h => h) (Or.inl ⟨by rfl, ?_⟩) ?_ ?_
              rotate_left
              · intro w'
                go_simp
                with_reducible rfl
              rotate_left
              · simp only [Act.put, List.setIfInBounds_toArray, List.set_cons_zero, List.set_cons_succ, i64_w, hv1, hv2, hv3, ht1, ht2]
                rfl
              refine pure_ (i := 1) (N := some 67) (v := ?_) (a' := ?_) #[true, true, false, false, false, false, false, false, false, false, false, false, false, false, false, false, false, false, false, false, false] rfl rfl (by kernel_rfl) (fun _ _ _ h => h) (Or.inl ⟨by rfl, ?_⟩) ?_ ?_
              rotate_left
              · intro w'
                go_simp
                with_reducible rfl
              rotate_left
              · simp only [Act.put, List.setIfInBounds_toArray, List.set_cons_zero, List.set_cons_succ, i64_w, hv1, hv2, hv3, ht1, ht2]
                rfl
              refine pure_ (i := 2) (N := some 68) (v := ?_) (a' := ?_) #[true, true, true, false, false, false, false, false, false, false, false, false, false, false, false, false, false, false, false, false, false] rfl rfl (by kernel_rfl) (fun _ _ _ h => h) (Or.inl ⟨by rfl, ?_⟩) ?_ ?_
              rotate_left
              · intro w'
                go_simp
                with_reducible rfl
              rotate_left
              · simp only [Act.put, List.setIfInBounds_toArray, List.set_cons_zero, List.set_cons_succ, i64_w, hv1, hv2, hv3, ht1, ht2]
                rfl
              refine pure_ (i := 4) (N := some 70) (v := ?_) (a' := ?_) #[true, true, true, false, true, false, false, false, false, false, false, false, false, false, false, false, false, false, false, false, false] rfl rfl (by kernel_rfl) (fun _ _ _ h => h) (Or.inl ⟨by rfl, ?_⟩) ?_ ?_
              rotate_left
              · intro w'
                go_simp
                with_reducible rfl
              rotate_left
              · simp only [Act.put, List.setIfInBounds_toArray, List.set_cons_zero, List.set_cons_succ, i64_w, hv1, hv2, hv3, ht1, ht2]
                rfl
              refine pure_ (i := 5) (N := some 71) (v := ?_) (a' := ?_) #[true, true, true, false, true, true, false, false, false, false, false, false, false, false, false, false, false, false, false, false, false] rfl rfl (by kernel_rfl) (fun _ _ _ h => h) (Or.inl ⟨by rfl, ?_⟩) ?_ ?_
              rotate_left
              · intro w'
                go_simp
                with_reducible rfl
              rotate_left
              · simp only [Act.put, List.setIfInBounds_toArray, List.set_cons_zero, List.set_cons_succ, i64_w, hv1, hv2, hv3, ht1, ht2]
                rfl
              refine pure_ (i := 6) (N := some 72) (v := ?_) (a' := ?_) #[true, true, true, false, true, true, true, false, false, false, false, false, false, false, false, false, false, false, false, false, false] rfl rfl (by kernel_rfl) (fun _ _ _ h => h) (Or.inl ⟨by rfl, ?_⟩) ?_ ?_
              rotate_left
              · intro w'
                go_simp
                with_reducible rfl
              rotate_left
              · simp only [Act.put, List.setIfInBounds_toArray, List.set_cons_zero, List.set_cons_succ, i64_w, hv1, hv2, hv3, ht1, ht2]
                rfl
              refine pure_ (i := 7) (N := some 73) (v := ?_) (a' := ?_) #[true, true, true, false, true, true, true, true, false, false, false, false, false, false, false, false, false, false, false, false, false] rfl rfl (by kernel_rfl) (fun _ _ _ h => h) (Or.inl ⟨by rfl, ?_⟩) ?_ ?_
              rotate_left
              · intro w'
                go_simp
                with_reducible rfl
              rotate_left
              · simp only [Act.put, List.setIfInBounds_toArray, List.set_cons_zero, List.set_cons_succ, i64_w, hv1, hv2, hv3, ht1, ht2]
                rfl
              refine pure_ (i := 8) (N := some 74) (v := ?_) (a' := ?_) #[true, true, true, false, true, true, true, true, true, false, false, false, false, false, false, false, false, false, false, false, false] rfl rfl (by kernel_rfl) (fun _ _ _ h => h) (Or.inl ⟨by rfl, ?_⟩) ?_ ?_
              rotate_left
              · intro w'
                go_simp
                with_reducible rfl
              rotate_left
              · simp only [Act.put, List.setIfInBounds_toArray, List.set_cons_zero, List.set_cons_succ, i64_w, hv1, hv2, hv3, ht1, ht2]
                rfl
              refine pure_ (i := 11) (N := some 77) (v := ?_) (a' := ?_) #[true, true, true, false, true, true, true, true, true, false, false, true, false, false, false, false, false, false, false, false, false] rfl rfl (by kernel_rfl) (fun _ _ _ h => h) (Or.inl ⟨by rfl, ?_⟩) ?_ ?_
              rotate_left
              · intro w'
                go_simp
                with_reducible rfl
              rotate_left
              · simp only [Act.put, List.setIfInBounds_toArray, List.set_cons_zero, List.set_cons_succ, i64_w, hv1, hv2, hv3, ht1, ht2]
                rfl
              refine pure_ (i := 12) (N := some 78) (v := ?_) (a' := ?_) #[true, true, true, false, true, true, true, true, true, false, false, true, true, false, false, false, false, false, false, false, false] rfl rfl (by kernel_rfl) (fun _ _ _ h => h) (Or.inl ⟨by rfl, ?_⟩) ?_ ?_
              rotate_left
              · intro w'
                go_simp
                with_reducible rfl
              rotate_left
              · simp only [Act.put, List.setIfInBounds_toArray, List.set_cons_zero, List.set_cons_succ, i64_w, hv1, hv2, hv3, ht1, ht2]
                rfl
              refine pure_ (i := 13) (N := some 79) (v := ?_) (a' := ?_) #[true, true, true, false, true, true, true, true, true, false, false, true, true, true, false, false, false, false, false, false, false] rfl rfl (by kernel_rfl) (fun _ _ _ h => h) (Or.inl ⟨by rfl, ?_⟩) ?_ ?_
              rotate_left
              · intro w'
                go_simp
                with_reducible rfl
              rotate_left
              · simp only [Act.put, List.setIfInBounds_toArray, List.set_cons_zero, List.set_cons_succ, i64_w, hv1, hv2, hv3, ht1, ht2]
                rfl
              refine pure_ (i := 14) (N := some 80) (v := ?_) (a' := ?_) #[true, true, true, false, true, true, true, true, true, false, false, true, true, true, true, false, false, false, false, false, false] rfl rfl (by kernel_rfl) (fun _ _ _ h => h) (Or.inl ⟨by rfl, ?_⟩) ?_ ?_
              rotate_left
              · intro w'
                go_simp
                with_reducible rfl
              rotate_left
              · simp only [Act.put, List.setIfInBounds_toArray, List.set_cons_zero, List.set_cons_succ, i64_w, hv1, hv2, hv3, ht1, ht2]
                rfl
              refine pure_ (i := 15) (N := some 81) (v := ?_) (a' := ?_) #[true, true, true, false, true, true, true, true, true, false, false, true, true, true, true, true, false, false, false, false, false] rfl rfl (by kernel_rfl) (fun _ _ _ h => h) (Or.inl ⟨by rfl, ?_⟩) ?_ ?_
              rotate_left
              · intro w'
                go_simp
                with_reducible rfl
              rotate_left
              · simp only [Act.put, List.setIfInBounds_toArray, List.set_cons_zero, List.set_cons_succ, i64_w, hv1, hv2, hv3, ht1, ht2]
                rfl
              refine take_ (i := 3) (N := some 69) (v := ?_) (a' := ?_) #[true, true, true, true, true, true, true, true, true, false, false, true, true, true, true, true, false, false, false, false, false] rfl rfl (by kernel_rfl) (fun _ _ _ h => h) (Or.inl ⟨by rfl, ?_⟩) hHeld ?_ ?_
              rotate_left
              · rintro w' ⟨s0, s1, s2⟩
                go_simp
                with_reducible rfl
              rotate_left
              · simp only [Act.put, List.setIfInBounds_toArray, List.set_cons_zero, List.set_cons_succ, i64_w, hv1, hv2, hv3, ht1, ht2]
                rfl
              refine take_ (i := 9) (N := some 75) (v := ?_) (a' := ?_) #[true, true, true, true, true, true, true, true, true, true, false, true, true, true, true, true, false, false, false, false, false] rfl rfl (by kernel_rfl) (fun _ _ _ h => h) (Or.inl ⟨by rfl, ?_⟩) hHeld ?_ ?_
              rotate_left
              · rintro w' ⟨s0, s1, s2⟩
                go_simp
                with_reducible rfl
              rotate_left
              · simp only [Act.put, List.setIfInBounds_toArray, List.set_cons_zero, List.set_cons_succ, i64_w, hv1, hv2, hv3, ht1, ht2]
                rfl
              refine pure_ (i := 10) (N := some 76) (v := ?_) (a' := ?_) #[true, true, true, true, true, true, true, true, true, true, true, true, true, true, true, true, false, false, false, false, false] rfl rfl (by kernel_rfl) (fun _ _ _ h => h) (Or.inl ⟨by rfl, ?_⟩) ?_ ?_
              rotate_left
              · intro w'
                go_simp
                with_reducible rfl
              rotate_left
              · simp only [Act.put, List.setIfInBounds_toArray, List.set_cons_zero, List.set_cons_succ, i64_w, hv1, hv2, hv3, ht1, ht2]
                rfl
              refine take_ (i := 16) (N := some 82) (v := ?_) (a' := ?_) #[true, true, true, true, true, true, true, true, true, true, true, true, true, true, true, true, true, false, false, false, false] rfl rfl (by kernel_rfl) (fun _ _ _ h => h) (Or.inl ⟨by rfl, ?_⟩) hHeld ?_ ?_
              rotate_left
              · rintro w' ⟨s0, s1, s2⟩
                go_simp
                with_reducible rfl
              rotate_left
              · simp only [Act.put, List.setIfInBounds_toArray, List.set_cons_zero, List.set_cons_succ, i64_w, hv1, hv2, hv3, ht1, ht2]
                rfl
              refine pure_ (i := 17) (N := some 83) (v := ?_) (a' := ?_) #[true, true, true, true, true, true, true, true, true, true, true, true, true, true, true, true, true, true, false, false, false] rfl rfl (by kernel_rfl) (fun _ _ _ h => h) (Or.inl ⟨by rfl, ?_⟩) ?_ ?_
              rotate_left
              · intro w'
                go_simp
                with_reducible rfl
              rotate_left
              · simp only [Act.put, List.setIfInBounds_toArray, List.set_cons_zero, List.set_cons_succ, i64_w, hv1, hv2, hv3, ht1, ht2]
                rfl
              refine one_ (i := 18) (N := some 84) #[true, true, true, true, true, true, true, true, true, true, true, true, true, true, true, true, true, true, true, false, false] rfl rfl (by kernel_rfl) (by decide) (fun K hK => ?_)
              refine goes_ Try.func23 (by kernel_rfl) rfl #[.int .i64 xr, .int .i64 yr] (by rfl) rfl rfl (by simp only [List.map_toArray, List.map_cons, List.map_nil]; rfl) ?_
              with_reducible refine (tiles_middle.calls xr yr q.f0 q.f1 _ HQ.out).mono ?_
              rintro e w4 ⟨rfl, hb4⟩
              refine ⟨_, rfl, ?_⟩
              have HB4 := Aside0.mk (below_step (below_drew (Below.refl wr.heap.size wr)) hb4)
              clear hb4
              refine hK.out _ _ ⟨((blk_cell (blk_below HPr.out HB4.out) 0).trans rfl), ((blk_cell (blk_below HPr.out HB4.out) 1).trans rfl), ((blk_cell (blk_below HMr.out HB4.out) 0).trans rfl)⟩ (fun hHeld => ?_)
              clear hK K
              refine norm_ (a' := ?_) ?_ ?_
              rotate_left
              · show Act.put _ (some 84) _ = _
                simp only [Act.put, List.setIfInBounds_toArray, List.set_cons_zero, List.set_cons_succ, i64_w, hv1, hv2, hv3, ht1, ht2]
                rfl
              refine pure_ (i := 19) (N := some 85) (v := ?_) (a' := ?_) #[true, true, true, true, true, true, true, true, true, true, true, true, true, true, true, true, true, true, true, true, false] rfl rfl (by kernel_rfl) (fun _ _ _ h => h) (Or.inl ⟨by rfl, ?_⟩) ?_ ?_
              rotate_left
              · intro w'
                go_simp
                with_reducible rfl
              rotate_left
              · simp only [Act.put, List.setIfInBounds_toArray, List.set_cons_zero, List.set_cons_succ, i64_w, hv1, hv2, hv3, ht1, ht2]
                rfl
              refine pure_ (i := 20) (N := some 86) (v := ?_) (a' := ?_) #[true, true, true, true, true, true, true, true, true, true, true, true, true, true, true, true, true, true, true, true, true] rfl rfl (by kernel_rfl) (fun _ _ _ h => h) (Or.inl ⟨by rfl, ?_⟩) ?_ ?_
              rotate_left
              · intro w'
                go_simp
                with_reducible rfl
              rotate_left
              · simp only [Act.put, List.setIfInBounds_toArray, List.set_cons_zero, List.set_cons_succ, i64_w, hv1, hv2, hv3, ht1, ht2]
                rfl
              refine done_ (by kernel_rfl) ?_
              have HBw := Aside0.mk (HBr.out.trans (HB4.out.mono HBr.out.size))
              have HBv := Aside0.mk (HB6.out.trans ((HBs.out.trans (HB4.out.mono HBs.out.size)).mono HB6.out.size))
              have HBs2 := Aside0.mk (HBs.out.trans (HB4.out.mono HBs.out.size))
              have d2 : w4.cell? ⟨B, 2, none⟩ = some (.slice (some adw) ws.length c) := (blk_cell (blk_below HM.out HBv.out) 2).trans rfl
              clear ht1 ht2 hwq hv1 hv2 hv3 hwB hwC hwD hw1
              go_upto_region 9 with fail
              clear hwE hwF
              go_wp2_with fail
              go_roundg (gk - 1)
              case measure => exact HKi2.out
              case rel => exact ⟨i + 1, by simp, HKi1, HI2, HM3, HBw, HBs2⟩
    · go_wp2_with fail
      go_ret
      exact BoolP.yes (HD.out.2 (by rw [List.drop_eq_nil_of_le (by omega)]; trivial)) HB1.out
end Go.Proofs.Ytgppnfnbihngnaa.Tiles
