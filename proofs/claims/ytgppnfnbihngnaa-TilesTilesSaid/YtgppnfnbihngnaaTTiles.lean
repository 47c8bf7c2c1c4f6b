import Derived.Test.YtgppnfnbihngnaaTLess
import Derived.Test.YtgppnfnbihngnaaTWall
set_option linter.unusedVariables false
set_option linter.unusedSimpArgs false
namespace Go.Proofs.Ytgppnfnbihngnaa.Tiles
open Go.RowKit Go.Proofs.YtgppnfnbihngnaaW.PrintWords Go.Proofs.YtgppnfnbihngnaaW.PrintLast Go.Proofs.YtgppnfnbihngnaaW.PrintMore Go.Proofs.Ytgppnfnbihngnaa.PTilesFree

theorem tile_free {W H : Int} {ws : List Bool} {sp : List S39} {a b : Int} (h : FormP W H ws sp) (a0 : 0 ≤ a) (a1 : a < W) (b0 : 0 ≤ b) (b1 : b < H) :
    FreeP W H ws sp (a * 65536) (b * 65536) (a * 65536 + 65536) (b * 65536 + 65536) ↔ tileB W ws a b = false := by
  obtain ⟨f1, f2, f3, f4, _, _, _⟩ := id h
  constructor
  · intro g
    cases ht : tileB W ws a b with
    | false => rfl
    | true => exact absurd (show Ov a b (a * 65536) (b * 65536) (a * 65536 + 65536) (b * 65536 + 65536) by unfold Ov; omega) (g.2.2.2.2.2.2 a b a0 a1 b0 b1 ht)
  · intro ht
    refine ⟨by unfold BoxP; omega, h, by omega, by omega, by omega, by omega, fun x y _ _ _ _ hx ho => ?_⟩
    unfold Ov at ho
    obtain rfl : x = a := by omega
    obtain rfl : y = b := by omega
    rw [ht] at hx
    cases hx
theorem point_free {W H : Int} {ws : List Bool} {sp : List S39} {a b : Int} (h : FormP W H ws sp) (a0 : 0 ≤ a) (a1 : a < W) (b0 : 0 ≤ b) (b1 : b < H) :
    FreeP W H ws sp (a * 65536) (b * 65536) (a * 65536) (b * 65536) := by
  obtain ⟨f1, f2, f3, f4, _, _, _⟩ := id h
  refine ⟨by unfold BoxP; omega, h, by omega, by omega, by omega, by omega, fun x y _ _ _ _ hx ho => ?_⟩
  unfold Ov at ho
  omega
set_option maxHeartbeats 8000000 in
set_option maxRecDepth 100000 in
theorem tiles_walk (W H : Int) (A : Option Addr) (c : Nat) (ws : List Bool) (A' : Option Addr) (c' : Nat) (sp : List S39) (x y : Int) (hx : 0 ≤ x ∧ x ≤ 255) (hy : 0 ≤ y ∧ y ≤ 255) (w : World) (hC : Kd.C Kd.bool w A ws.length ws) (hc : ws.length ≤ c) (hC' : Kd.C k39 w A' sp.length sp) (hc' : sp.length ≤ c') :
    Calls Try.prog 7 #[.agg #[.int .i64 W, .int .i64 H, .slice A ws.length c, .slice A' sp.length c'], .int .u8 x, .int .u8 y] w fun e w' => e = .returned (.bool true) ∧ Below w.heap.size w w' := by
  have hu39 := Try.underlying39
  have hu41 := Try.underlying41
  have hu26 := Try.underlying26
  have HB : Aside0 (Below w.heap.size w (w.alloc (.cells #[.int .i64 W, .int .i64 H, .slice A ws.length c, .slice A' sp.length c'] 26 (0, 0)))) := ⟨below_alloc (Below.refl _ _) _⟩
  have HM := Aside0.mk (blk_new w (.cells #[.int .i64 W, .int .i64 H, .slice A ws.length c, .slice A' sp.length c'] 26 (0, 0)))
  have HC := Aside0.mk (And.intro (Kd.C_alloc hC (.cells #[.int .i64 W, .int .i64 H, .slice A ws.length c, .slice A' sp.length c'] 26 (0, 0))) (And.intro (Kd.C_alloc hC' (.cells #[.int .i64 W, .int .i64 H, .slice A ws.length c, .slice A' sp.length c'] 26 (0, 0))) (And.intro hc hc')))
  clear hC hc hC' hc'
  go_enter Try.func7, Try.ntmps7
  go_upto_region 1 with fail
  generalize w.alloc (.cells #[.int .i64 W, .int .i64 H, .slice A ws.length c, .slice A' sp.length c'] 26 (0, 0)) = W1 at *
  obtain ⟨B, hB⟩ : ∃ X, w.heap.size = X := ⟨_, rfl⟩
  rw [hB] at HM
  rw [hB]
  have HBB := Aside0.mk hB
  clear hB
  have c0 : W1.cell? ⟨B, 0, none⟩ = some (.int .i64 W) := (blk_cell HM.out 0).trans rfl
  have c1 : W1.cell? ⟨B, 1, none⟩ = some (.int .i64 H) := (blk_cell HM.out 1).trans rfl
  have c2 : W1.cell? ⟨B, 2, none⟩ = some (.slice A ws.length c) := (blk_cell HM.out 2).trans rfl
  have c3 : W1.cell? ⟨B, 3, none⟩ = some (.slice A' sp.length c') := (blk_cell HM.out 3).trans rfl
  clear HM
  by_cases hfew : (ws.length : Int) ≤ 1100 ∧ (sp.length : Int) ≤ 1100
  case neg =>
    have HFew := Aside0.mk (few_no (W := W) (H := H) hfew)
    clear hfew
    go_wp2_with (first | (go_at_call 10; (with_reducible refine (awake_any _).mono ?_); rintro e w2 ⟨he, hb2⟩; subst he; have c0 := (hb2.cell (World.block_lt_of_cell? _ _ c0)).trans c0; have c1 := (hb2.cell (World.block_lt_of_cell? _ _ c1)).trans c1; have c2 := (hb2.cell (World.block_lt_of_cell? _ _ c2)).trans c2; have c3 := (hb2.cell (World.block_lt_of_cell? _ _ c3)).trans c3; have HBn := Aside0.mk (HB.out.trans (hb2.mono HB.out.size)); have HCn := Aside0.mk (And.intro (Kd.C_below HC.out.1 hb2) (And.intro (Kd.C_below HC.out.2.1 hb2) HC.out.2.2)); clear HB HC hb2; have HB := HBn; have HC := HCn; clear HBn HCn) | (go_at_call 14; (with_reducible refine (ricochetlaw11_few.calls W H A c ws A' c' sp false _ HC.out.1 HC.out.2.2.1 HC.out.2.1 HC.out.2.2.2 HFew.out).mono ?_); rintro e w3 ⟨he, hb2⟩; subst he; have c0 := (hb2.cell (World.block_lt_of_cell? _ _ c0)).trans c0; have c1 := (hb2.cell (World.block_lt_of_cell? _ _ c1)).trans c1; have c2 := (hb2.cell (World.block_lt_of_cell? _ _ c2)).trans c2; have c3 := (hb2.cell (World.block_lt_of_cell? _ _ c3)).trans c3; have HBn := Aside0.mk (HB.out.trans (hb2.mono HB.out.size)); have HCn := Aside0.mk (And.intro (Kd.C_below HC.out.1 hb2) (And.intro (Kd.C_below HC.out.2.1 hb2) HC.out.2.2)); clear HB HC hb2; have HB := HBn; have HC := HCn; clear HBn HCn))
    go_ret
    exact ⟨rfl, HB.out⟩
  have HFew := Aside0.mk (few_yes (W := W) (H := H) hfew)
  clear hfew
  by_cases hf : FormP W H ws sp
  case neg =>
    have HF := Aside0.mk hf
    clear hf
    go_wp2_with (first | (go_at_call 10; (with_reducible refine (awake_any _).mono ?_); rintro e w2 ⟨he, hb2⟩; subst he; have c0 := (hb2.cell (World.block_lt_of_cell? _ _ c0)).trans c0; have c1 := (hb2.cell (World.block_lt_of_cell? _ _ c1)).trans c1; have c2 := (hb2.cell (World.block_lt_of_cell? _ _ c2)).trans c2; have c3 := (hb2.cell (World.block_lt_of_cell? _ _ c3)).trans c3; have HBn := Aside0.mk (HB.out.trans (hb2.mono HB.out.size)); have HCn := Aside0.mk (And.intro (Kd.C_below HC.out.1 hb2) (And.intro (Kd.C_below HC.out.2.1 hb2) HC.out.2.2)); clear HB HC hb2; have HB := HBn; have HC := HCn; clear HBn HCn) | (go_at_call 14; (with_reducible refine (ricochetlaw11_few.calls W H A c ws A' c' sp true _ HC.out.1 HC.out.2.2.1 HC.out.2.1 HC.out.2.2.2 HFew.out).mono ?_); rintro e w3 ⟨he, hb2⟩; subst he; have c0 := (hb2.cell (World.block_lt_of_cell? _ _ c0)).trans c0; have c1 := (hb2.cell (World.block_lt_of_cell? _ _ c1)).trans c1; have c2 := (hb2.cell (World.block_lt_of_cell? _ _ c2)).trans c2; have c3 := (hb2.cell (World.block_lt_of_cell? _ _ c3)).trans c3; have HBn := Aside0.mk (HB.out.trans (hb2.mono HB.out.size)); have HCn := Aside0.mk (And.intro (Kd.C_below HC.out.1 hb2) (And.intro (Kd.C_below HC.out.2.1 hb2) HC.out.2.2)); clear HB HC hb2; have HB := HBn; have HC := HCn; clear HBn HCn) | (go_at_call 17; (with_reducible refine (formed_any W H A c ws A' c' sp _ HC.out.1 HC.out.2.2.1 HC.out.2.1 HC.out.2.2.2).mono ?_); rintro e w4 ⟨r, he, hr, hb2⟩; obtain rfl : r = false := (by cases r <;> first | rfl | exact absurd (hr.1 rfl) HF.out); subst he; have c0 := (hb2.cell (World.block_lt_of_cell? _ _ c0)).trans c0; have c1 := (hb2.cell (World.block_lt_of_cell? _ _ c1)).trans c1; have c2 := (hb2.cell (World.block_lt_of_cell? _ _ c2)).trans c2; have c3 := (hb2.cell (World.block_lt_of_cell? _ _ c3)).trans c3; have HBn := Aside0.mk (HB.out.trans (hb2.mono HB.out.size)); have HCn := Aside0.mk (And.intro (Kd.C_below HC.out.1 hb2) (And.intro (Kd.C_below HC.out.2.1 hb2) HC.out.2.2)); clear HB HC hb2; have HB := HBn; have HC := HCn; clear HBn HCn; clear hr))
    go_ret
    exact ⟨rfl, HB.out⟩
  have HF := Aside0.mk hf
  clear hf
  go_upto_region 3 with (first | (go_at_call 10; (with_reducible refine (awake_any _).mono ?_); rintro e w2 ⟨he, hb2⟩; subst he; have c0 := (hb2.cell (World.block_lt_of_cell? _ _ c0)).trans c0; have c1 := (hb2.cell (World.block_lt_of_cell? _ _ c1)).trans c1; have c2 := (hb2.cell (World.block_lt_of_cell? _ _ c2)).trans c2; have c3 := (hb2.cell (World.block_lt_of_cell? _ _ c3)).trans c3; have HBn := Aside0.mk (HB.out.trans (hb2.mono HB.out.size)); have HCn := Aside0.mk (And.intro (Kd.C_below HC.out.1 hb2) (And.intro (Kd.C_below HC.out.2.1 hb2) HC.out.2.2)); clear HB HC hb2; have HB := HBn; have HC := HCn; clear HBn HCn) | (go_at_call 14; (with_reducible refine (ricochetlaw11_few.calls W H A c ws A' c' sp true _ HC.out.1 HC.out.2.2.1 HC.out.2.1 HC.out.2.2.2 HFew.out).mono ?_); rintro e w3 ⟨he, hb2⟩; subst he; have c0 := (hb2.cell (World.block_lt_of_cell? _ _ c0)).trans c0; have c1 := (hb2.cell (World.block_lt_of_cell? _ _ c1)).trans c1; have c2 := (hb2.cell (World.block_lt_of_cell? _ _ c2)).trans c2; have c3 := (hb2.cell (World.block_lt_of_cell? _ _ c3)).trans c3; have HBn := Aside0.mk (HB.out.trans (hb2.mono HB.out.size)); have HCn := Aside0.mk (And.intro (Kd.C_below HC.out.1 hb2) (And.intro (Kd.C_below HC.out.2.1 hb2) HC.out.2.2)); clear HB HC hb2; have HB := HBn; have HC := HCn; clear HBn HCn) | (go_at_call 17; (with_reducible refine (formed_any W H A c ws A' c' sp _ HC.out.1 HC.out.2.2.1 HC.out.2.1 HC.out.2.2.2).mono ?_); rintro e w4 ⟨r, he, hr, hb2⟩; obtain rfl : r = true := hr.2 HF.out; subst he; have c0 := (hb2.cell (World.block_lt_of_cell? _ _ c0)).trans c0; have c1 := (hb2.cell (World.block_lt_of_cell? _ _ c1)).trans c1; have c2 := (hb2.cell (World.block_lt_of_cell? _ _ c2)).trans c2; have c3 := (hb2.cell (World.block_lt_of_cell? _ _ c3)).trans c3; have HBn := Aside0.mk (HB.out.trans (hb2.mono HB.out.size)); have HCn := Aside0.mk (And.intro (Kd.C_below HC.out.1 hb2) (And.intro (Kd.C_below HC.out.2.1 hb2) HC.out.2.2)); clear HB HC hb2; have HB := HBn; have HC := HCn; clear HBn HCn; clear hr))
  obtain ⟨f1, f2, f3, f4, _, _, _⟩ := HF.out
  obtain ⟨x1, x2⟩ := hx
  obtain ⟨y1, y2⟩ := hy
  have hW0 : ¬ W = 0 := by omega
  have hH0 : ¬ H = 0 := by omega
  have a0 : 0 ≤ x.tmod W := Int.tmod_nonneg _ x1
  have a1 : x.tmod W < W := Int.tmod_lt_of_pos x (by omega)
  have b0 : 0 ≤ y.tmod H := Int.tmod_nonneg _ y1
  have b1 : y.tmod H < H := Int.tmod_lt_of_pos y (by omega)
  obtain ⟨a, ha⟩ : ∃ a, x.tmod W = a := ⟨_, rfl⟩
  obtain ⟨b, hb⟩ : ∃ b, y.tmod H = b := ⟨_, rfl⟩
  rw [ha] at a0 a1
  rw [hb] at b0 b1
  go_quiet (fail)
  have hb2 := pw_below_drewN (Below.refl w4.heap.size w4) nq
  have c0 := (hb2.cell (World.block_lt_of_cell? _ _ c0)).trans c0
  have c1 := (hb2.cell (World.block_lt_of_cell? _ _ c1)).trans c1
  have c2 := (hb2.cell (World.block_lt_of_cell? _ _ c2)).trans c2
  have c3 := (hb2.cell (World.block_lt_of_cell? _ _ c3)).trans c3
  have HBn := Aside0.mk (HB.out.trans (hb2.mono HB.out.size))
  have HCn := Aside0.mk (And.intro (Kd.C_below HC.out.1 hb2) (And.intro (Kd.C_below HC.out.2.1 hb2) HC.out.2.2))
  clear HB HC hb2
  have HB := HBn
  have HC := HCn
  clear HBn HCn
  generalize w4.drewN nq = w5 at *
  have hW0 : (w5.alloc (.cells #[.int .i64 (a * 65536), .int .i64 (b * 65536)] 39 (0, 0))).heap.size = w5.heap.size + 1 := by simp
  have hb2 := below_alloc (below_alloc (Below.refl w5.heap.size w5) (.cells #[.int .i64 (a * 65536), .int .i64 (b * 65536)] 39 (0, 0))) (.cells #[.int .i64 (a * 65536 + 65536), .int .i64 (b * 65536 + 65536)] 39 (0, 0))
  have HP9 := Aside0.mk (blk_alloc (blk_new w5 (.cells #[.int .i64 (a * 65536), .int .i64 (b * 65536)] 39 (0, 0))) (.cells #[.int .i64 (a * 65536 + 65536), .int .i64 (b * 65536 + 65536)] 39 (0, 0)))
  have HQ9 := Aside0.mk (blk_new (w5.alloc (.cells #[.int .i64 (a * 65536), .int .i64 (b * 65536)] 39 (0, 0))) (.cells #[.int .i64 (a * 65536 + 65536), .int .i64 (b * 65536 + 65536)] 39 (0, 0)))
  rw [hW0] at HQ9
  clear hW0
  go_upto_region 6 with fail
  have c0 := (hb2.cell (World.block_lt_of_cell? _ _ c0)).trans c0
  have c1 := (hb2.cell (World.block_lt_of_cell? _ _ c1)).trans c1
  have c2 := (hb2.cell (World.block_lt_of_cell? _ _ c2)).trans c2
  have c3 := (hb2.cell (World.block_lt_of_cell? _ _ c3)).trans c3
  have HBn := Aside0.mk (HB.out.trans (hb2.mono HB.out.size))
  have HCn := Aside0.mk (And.intro (Kd.C_below HC.out.1 hb2) (And.intro (Kd.C_below HC.out.2.1 hb2) HC.out.2.2))
  clear HB HC hb2
  have HB := HBn
  have HC := HCn
  clear HBn HCn
  generalize (w5.alloc (.cells #[.int .i64 (a * 65536), .int .i64 (b * 65536)] 39 (0, 0))).alloc (.cells #[.int .i64 (a * 65536 + 65536), .int .i64 (b * 65536 + 65536)] 39 (0, 0)) = w6 at *
  generalize w5.heap.size = P at *
  have p0 : w6.cell? ⟨P, 0, none⟩ = some (.int .i64 (a * 65536)) := (blk_cell HP9.out 0).trans rfl
  have p1 : w6.cell? ⟨P, 1, none⟩ = some (.int .i64 (b * 65536)) := (blk_cell HP9.out 1).trans rfl
  have q0 : w6.cell? ⟨P + 1, 0, none⟩ = some (.int .i64 (a * 65536 + 65536)) := (blk_cell HQ9.out 0).trans rfl
  have q1 : w6.cell? ⟨P + 1, 1, none⟩ = some (.int .i64 (b * 65536 + 65536)) := (blk_cell HQ9.out 1).trans rfl
  clear HP9 HQ9 ha hb
  have HPt := Aside0.mk (point_free HF.out a0 a1 b0 b1)
  have HTf := Aside0.mk (tile_free HF.out a0 a1 b0 b1)
  have HW1 : Aside0 (WallP W H ws sp (-1) b) := ⟨.inr (.inl (by decide))⟩
  have HW2 : Aside0 (WallP W H ws sp a H) := ⟨.inr (.inr (.inr (.inr (.inl (Int.le_refl H)))))⟩
  have HK0 := Aside0.mk (below_drew (Below.refl w6.heap.size w6))
  cases htb : tileB W ws a b with
  | false =>
    have HT1 := Aside0.mk (HTf.out.2 htb)
    have HT2 : Aside0 (¬ WallP W H ws sp a b) := ⟨fun h => by
      rcases h with h | h | h | h | h | h
      · exact h HF.out
      · omega
      · omega
      · omega
      · omega
      · rw [htb] at h; cases h⟩
    clear HTf htb
    refine start_ (n := 30) (S := fun w' => w'.cell? ⟨B, 0, none⟩ = some (.int .i64 W) ∧ w'.cell? ⟨B, 1, none⟩ = some (.int .i64 H) ∧ w'.cell? ⟨B, 2, none⟩ = some (.slice A ws.length c) ∧ w'.cell? ⟨B, 3, none⟩ = some (.slice A' sp.length c') ∧ w'.cell? ⟨P, 0, none⟩ = some (.int .i64 (a * 65536)) ∧ w'.cell? ⟨P, 1, none⟩ = some (.int .i64 (b * 65536)) ∧ w'.cell? ⟨P + 1, 0, none⟩ = some (.int .i64 (a * 65536 + 65536)) ∧ w'.cell? ⟨P + 1, 1, none⟩ = some (.int .i64 (b * 65536 + 65536))) (ds := []) #[false, false, false, false, false, false, false, false, false, false, false, false, false, false, false, false, false, false, false, false, false, false, false, false, false, false, false, false, false, false] (by kernel_rfl) rfl rfl ⟨((HK0.out.cell (World.block_lt_of_cell? w6 _ c0)).trans c0), ((HK0.out.cell (World.block_lt_of_cell? w6 _ c1)).trans c1), ((HK0.out.cell (World.block_lt_of_cell? w6 _ c2)).trans c2), ((HK0.out.cell (World.block_lt_of_cell? w6 _ c3)).trans c3), ((HK0.out.cell (World.block_lt_of_cell? w6 _ p0)).trans p0), ((HK0.out.cell (World.block_lt_of_cell? w6 _ p1)).trans p1), ((HK0.out.cell (World.block_lt_of_cell? w6 _ q0)).trans q0), ((HK0.out.cell (World.block_lt_of_cell? w6 _ q1)).trans q1)⟩ (fun hHeld => ?_)
    refine pure_ (i := 6) (N := some 52) (v := ?_) (a' := ?_) #[false, false, false, false, false, false, true, false, false, false, false, false, false, false, false, false, false, false, false, false, false, false, false, false, false, false, false, false, false, false] rfl rfl (by kernel_rfl) (fun _ _ _ h => h) (Or.inl ⟨by rfl, ?_⟩) ?_ ?_
    rotate_left
    · intro w'
      go_simp
      with_reducible rfl
    rotate_left
    · simp only [Act.put, List.setIfInBounds_toArray, List.set_cons_zero, List.set_cons_succ, i64_w, i32_w]
      rfl
    refine pure_ (i := 7) (N := some 53) (v := ?_) (a' := ?_) #[false, false, false, false, false, false, true, true, false, false, false, false, false, false, false, false, false, false, false, false, false, false, false, false, false, false, false, false, false, false] rfl rfl (by kernel_rfl) (fun _ _ _ h => h) (Or.inl ⟨by rfl, ?_⟩) ?_ ?_
    rotate_left
    · intro w'
      go_simp
      with_reducible rfl
    rotate_left
    · simp only [Act.put, List.setIfInBounds_toArray, List.set_cons_zero, List.set_cons_succ, i64_w, i32_w]
      rfl
    refine take_ (i := 0) (N := some 46) (v := ?_) (a' := ?_) #[true, false, false, false, false, false, true, true, false, false, false, false, false, false, false, false, false, false, false, false, false, false, false, false, false, false, false, false, false, false] rfl rfl (by kernel_rfl) (fun _ _ _ h => h) (Or.inl ⟨by rfl, ?_⟩) hHeld ?_ ?_
    rotate_left
    · rintro w' ⟨s0, s1, s2, s3, s4, s5, s6, s7⟩
      go_simp
      with_reducible rfl
    rotate_left
    · simp only [Act.put, List.setIfInBounds_toArray, List.set_cons_zero, List.set_cons_succ, i64_w, i32_w]
      rfl
    refine take_ (i := 1) (N := some 47) (v := ?_) (a' := ?_) #[true, true, false, false, false, false, true, true, false, false, false, false, false, false, false, false, false, false, false, false, false, false, false, false, false, false, false, false, false, false] rfl rfl (by kernel_rfl) (fun _ _ _ h => h) (Or.inl ⟨by rfl, ?_⟩) hHeld ?_ ?_
    rotate_left
    · rintro w' ⟨s0, s1, s2, s3, s4, s5, s6, s7⟩
      go_simp
      with_reducible rfl
    rotate_left
    · simp only [Act.put, List.setIfInBounds_toArray, List.set_cons_zero, List.set_cons_succ, i64_w, i32_w]
      rfl
    refine take_ (i := 2) (N := some 48) (v := ?_) (a' := ?_) #[true, true, true, false, false, false, true, true, false, false, false, false, false, false, false, false, false, false, false, false, false, false, false, false, false, false, false, false, false, false] rfl rfl (by kernel_rfl) (fun _ _ _ h => h) (Or.inl ⟨by rfl, ?_⟩) hHeld ?_ ?_
    rotate_left
    · rintro w' ⟨s0, s1, s2, s3, s4, s5, s6, s7⟩
      go_simp
      with_reducible rfl
    rotate_left
    · simp only [Act.put, List.setIfInBounds_toArray, List.set_cons_zero, List.set_cons_succ, i64_w, i32_w]
      rfl
    refine pure_ (i := 3) (N := some 49) (v := ?_) (a' := ?_) #[true, true, true, true, false, false, true, true, false, false, false, false, false, false, false, false, false, false, false, false, false, false, false, false, false, false, false, false, false, false] rfl rfl (by kernel_rfl) (fun _ _ _ h => h) (Or.inl ⟨by rfl, ?_⟩) ?_ ?_
    rotate_left
    · intro w'
      go_simp
      with_reducible rfl
    rotate_left
    · simp only [Act.put, List.setIfInBounds_toArray, List.set_cons_zero, List.set_cons_succ, i64_w, i32_w]
      rfl
    refine take_ (i := 5) (N := some 51) (v := ?_) (a' := ?_) #[true, true, true, true, false, true, true, true, false, false, false, false, false, false, false, false, false, false, false, false, false, false, false, false, false, false, false, false, false, false] rfl rfl (by kernel_rfl) (fun _ _ _ h => h) (Or.inl ⟨by rfl, ?_⟩) hHeld ?_ ?_
    rotate_left
    · rintro w' ⟨s0, s1, s2, s3, s4, s5, s6, s7⟩
      go_simp
      with_reducible rfl
    rotate_left
    · simp only [Act.put, List.setIfInBounds_toArray, List.set_cons_zero, List.set_cons_succ, i64_w, i32_w]
      rfl
    refine one_ (i := 4) (N := some 50) #[true, true, true, true, true, true, true, true, false, false, false, false, false, false, false, false, false, false, false, false, false, false, false, false, false, false, false, false, false, false] rfl rfl (by kernel_rfl) (by decide) (fun K hK => ?_)
    refine goes_ Try.func15 (by kernel_rfl) rfl #[.agg #[.int .i64 W, .int .i64 H, .slice A ws.length c, .slice A' sp.length c'], .agg #[.int .i64 (a * 65536), .int .i64 (b * 65536), .int .i64 (a * 65536 + 65536), .int .i64 (b * 65536 + 65536)]] (by rfl) rfl rfl (by simp only [List.map_toArray, List.map_cons, List.map_nil]; rfl) ?_
    with_reducible refine (free_any W H A c ws A' c' sp (a * 65536) (b * 65536) (a * 65536 + 65536) (b * 65536 + 65536) _ (Kd.C_below HC.out.1 HK0.out) HC.out.2.2.1 (Kd.C_below HC.out.2.1 HK0.out) HC.out.2.2.2).mono ?_
    rintro e w21 ⟨r1, rfl, hr1, hb1⟩
    refine ⟨_, rfl, ?_⟩
    obtain rfl : r1 = true := hr1.2 HT1.out
    have HK1 := Aside0.mk (HK0.out.trans (hb1.mono HK0.out.size))
    clear hr1 hb1
    refine hK.out _ _ ⟨((HK1.out.cell (World.block_lt_of_cell? w6 _ c0)).trans c0), ((HK1.out.cell (World.block_lt_of_cell? w6 _ c1)).trans c1), ((HK1.out.cell (World.block_lt_of_cell? w6 _ c2)).trans c2), ((HK1.out.cell (World.block_lt_of_cell? w6 _ c3)).trans c3), ((HK1.out.cell (World.block_lt_of_cell? w6 _ p0)).trans p0), ((HK1.out.cell (World.block_lt_of_cell? w6 _ p1)).trans p1), ((HK1.out.cell (World.block_lt_of_cell? w6 _ q0)).trans q0), ((HK1.out.cell (World.block_lt_of_cell? w6 _ q1)).trans q1)⟩ (fun hHeld => ?_)
    clear hK K
    refine norm_ (a' := ?_) ?_ ?_
    rotate_left
    · show Act.put _ (some 50) _ = _
      simp only [Act.put, List.setIfInBounds_toArray, List.set_cons_zero, List.set_cons_succ, i64_w, i32_w]
      rfl
    refine one_ (i := 8) (N := some 54) #[true, true, true, true, true, true, true, true, true, false, false, false, false, false, false, false, false, false, false, false, false, false, false, false, false, false, false, false, false, false] rfl rfl (by kernel_rfl) (by decide) (fun K hK => ?_)
    refine goes_ Try.func18 (by kernel_rfl) rfl #[.agg #[.int .i64 W, .int .i64 H, .slice A ws.length c, .slice A' sp.length c'], .int .i64 a, .int .i64 b] (by rfl) rfl rfl (by simp only [List.map_toArray, List.map_cons, List.map_nil]; rfl) ?_
    with_reducible refine (wall_any W H A c ws A' c' sp a b _ (Kd.C_below HC.out.1 HK1.out) HC.out.2.2.1 (Kd.C_below HC.out.2.1 HK1.out) HC.out.2.2.2).mono ?_
    rintro e w22 ⟨r2, rfl, hr2, hb2⟩
    refine ⟨_, rfl, ?_⟩
    obtain rfl : r2 = false := (by cases r2 <;> first | rfl | exact absurd (hr2.1 rfl) HT2.out)
    have HK2 := Aside0.mk (HK1.out.trans (hb2.mono HK1.out.size))
    clear hr2 hb2
    refine hK.out _ _ ⟨((HK2.out.cell (World.block_lt_of_cell? w6 _ c0)).trans c0), ((HK2.out.cell (World.block_lt_of_cell? w6 _ c1)).trans c1), ((HK2.out.cell (World.block_lt_of_cell? w6 _ c2)).trans c2), ((HK2.out.cell (World.block_lt_of_cell? w6 _ c3)).trans c3), ((HK2.out.cell (World.block_lt_of_cell? w6 _ p0)).trans p0), ((HK2.out.cell (World.block_lt_of_cell? w6 _ p1)).trans p1), ((HK2.out.cell (World.block_lt_of_cell? w6 _ q0)).trans q0), ((HK2.out.cell (World.block_lt_of_cell? w6 _ q1)).trans q1)⟩ (fun hHeld => ?_)
    clear hK K
    refine norm_ (a' := ?_) ?_ ?_
    rotate_left
    · show Act.put _ (some 54) _ = _
      simp only [Act.put, List.setIfInBounds_toArray, List.set_cons_zero, List.set_cons_succ, i64_w, i32_w]
      rfl
    refine pure_ (i := 9) (N := some 55) (v := ?_) (a' := ?_) #[true, true, true, true, true, true, true, true, true, true, false, false, false, false, false, false, false, false, false, false, false, false, false, false, false, false, false, false, false, false] rfl rfl (by kernel_rfl) (fun _ _ _ h => h) (Or.inl ⟨by rfl, ?_⟩) ?_ ?_
    rotate_left
    · intro w'
      go_simp
      with_reducible rfl
    rotate_left
    · simp only [Act.put, List.setIfInBounds_toArray, List.set_cons_zero, List.set_cons_succ, i64_w, i32_w]
      rfl
    refine pure_ (i := 10) (N := some 56) (v := ?_) (a' := ?_) #[true, true, true, true, true, true, true, true, true, true, true, false, false, false, false, false, false, false, false, false, false, false, false, false, false, false, false, false, false, false] rfl rfl (by kernel_rfl) (fun _ _ _ h => h) (Or.inl ⟨by rfl, ?_⟩) ?_ ?_
    rotate_left
    · intro w'
      go_simp
      with_reducible rfl
    rotate_left
    · simp only [Act.put, List.setIfInBounds_toArray, List.set_cons_zero, List.set_cons_succ, i64_w, i32_w]
      rfl
    refine take_ (i := 11) (N := some 57) (v := ?_) (a' := ?_) #[true, true, true, true, true, true, true, true, true, true, true, true, false, false, false, false, false, false, false, false, false, false, false, false, false, false, false, false, false, false] rfl rfl (by kernel_rfl) (fun _ _ _ h => h) (Or.inl ⟨by rfl, ?_⟩) hHeld ?_ ?_
    rotate_left
    · rintro w' ⟨s0, s1, s2, s3, s4, s5, s6, s7⟩
      go_simp
      with_reducible rfl
    rotate_left
    · simp only [Act.put, List.setIfInBounds_toArray, List.set_cons_zero, List.set_cons_succ, i64_w, i32_w]
      rfl
    refine take_ (i := 12) (N := some 58) (v := ?_) (a' := ?_) #[true, true, true, true, true, true, true, true, true, true, true, true, true, false, false, false, false, false, false, false, false, false, false, false, false, false, false, false, false, false] rfl rfl (by kernel_rfl) (fun _ _ _ h => h) (Or.inl ⟨by rfl, ?_⟩) hHeld ?_ ?_
    rotate_left
    · rintro w' ⟨s0, s1, s2, s3, s4, s5, s6, s7⟩
      go_simp
      with_reducible rfl
    rotate_left
    · simp only [Act.put, List.setIfInBounds_toArray, List.set_cons_zero, List.set_cons_succ, i64_w, i32_w]
      rfl
    refine take_ (i := 13) (N := some 59) (v := ?_) (a' := ?_) #[true, true, true, true, true, true, true, true, true, true, true, true, true, true, false, false, false, false, false, false, false, false, false, false, false, false, false, false, false, false] rfl rfl (by kernel_rfl) (fun _ _ _ h => h) (Or.inl ⟨by rfl, ?_⟩) hHeld ?_ ?_
    rotate_left
    · rintro w' ⟨s0, s1, s2, s3, s4, s5, s6, s7⟩
      go_simp
      with_reducible rfl
    rotate_left
    · simp only [Act.put, List.setIfInBounds_toArray, List.set_cons_zero, List.set_cons_succ, i64_w, i32_w]
      rfl
    refine pure_ (i := 14) (N := some 60) (v := ?_) (a' := ?_) #[true, true, true, true, true, true, true, true, true, true, true, true, true, true, true, false, false, false, false, false, false, false, false, false, false, false, false, false, false, false] rfl rfl (by kernel_rfl) (fun _ _ _ h => h) (Or.inl ⟨by rfl, ?_⟩) ?_ ?_
    rotate_left
    · intro w'
      go_simp
      with_reducible rfl
    rotate_left
    · simp only [Act.put, List.setIfInBounds_toArray, List.set_cons_zero, List.set_cons_succ, i64_w, i32_w]
      rfl
    refine one_ (i := 15) (N := some 61) #[true, true, true, true, true, true, true, true, true, true, true, true, true, true, true, true, false, false, false, false, false, false, false, false, false, false, false, false, false, false] rfl rfl (by kernel_rfl) (by decide) (fun K hK => ?_)
    refine goes_ Try.func15 (by kernel_rfl) rfl #[.agg #[.int .i64 W, .int .i64 H, .slice A ws.length c, .slice A' sp.length c'], .agg #[.int .i64 (a * 65536), .int .i64 (b * 65536), .int .i64 (a * 65536), .int .i64 (b * 65536)]] (by rfl) rfl rfl (by simp only [List.map_toArray, List.map_cons, List.map_nil]; rfl) ?_
    with_reducible refine (free_any W H A c ws A' c' sp (a * 65536) (b * 65536) (a * 65536) (b * 65536) _ (Kd.C_below HC.out.1 HK2.out) HC.out.2.2.1 (Kd.C_below HC.out.2.1 HK2.out) HC.out.2.2.2).mono ?_
    rintro e w23 ⟨r3, rfl, hr3, hb3⟩
    refine ⟨_, rfl, ?_⟩
    obtain rfl : r3 = true := hr3.2 HPt.out
    have HK3 := Aside0.mk (HK2.out.trans (hb3.mono HK2.out.size))
    clear hr3 hb3
    refine hK.out _ _ ⟨((HK3.out.cell (World.block_lt_of_cell? w6 _ c0)).trans c0), ((HK3.out.cell (World.block_lt_of_cell? w6 _ c1)).trans c1), ((HK3.out.cell (World.block_lt_of_cell? w6 _ c2)).trans c2), ((HK3.out.cell (World.block_lt_of_cell? w6 _ c3)).trans c3), ((HK3.out.cell (World.block_lt_of_cell? w6 _ p0)).trans p0), ((HK3.out.cell (World.block_lt_of_cell? w6 _ p1)).trans p1), ((HK3.out.cell (World.block_lt_of_cell? w6 _ q0)).trans q0), ((HK3.out.cell (World.block_lt_of_cell? w6 _ q1)).trans q1)⟩ (fun hHeld => ?_)
    clear hK K
    refine norm_ (a' := ?_) ?_ ?_
    rotate_left
    · show Act.put _ (some 61) _ = _
      simp only [Act.put, List.setIfInBounds_toArray, List.set_cons_zero, List.set_cons_succ, i64_w, i32_w]
      rfl
    refine pure_ (i := 16) (N := some 62) (v := ?_) (a' := ?_) #[true, true, true, true, true, true, true, true, true, true, true, true, true, true, true, true, true, false, false, false, false, false, false, false, false, false, false, false, false, false] rfl rfl (by kernel_rfl) (fun _ _ _ h => h) (Or.inl ⟨by rfl, ?_⟩) ?_ ?_
    rotate_left
    · intro w'
      go_simp
      with_reducible rfl
    rotate_left
    · simp only [Act.put, List.setIfInBounds_toArray, List.set_cons_zero, List.set_cons_succ, i64_w, i32_w]
      rfl
    refine pure_ (i := 17) (N := some 63) (v := ?_) (a' := ?_) #[true, true, true, true, true, true, true, true, true, true, true, true, true, true, true, true, true, true, false, false, false, false, false, false, false, false, false, false, false, false] rfl rfl (by kernel_rfl) (fun _ _ _ h => h) (Or.inl ⟨by rfl, ?_⟩) ?_ ?_
    rotate_left
    · intro w'
      go_simp
      with_reducible rfl
    rotate_left
    · simp only [Act.put, List.setIfInBounds_toArray, List.set_cons_zero, List.set_cons_succ, i64_w, i32_w]
      rfl
    refine pure_ (i := 19) (N := some 65) (v := ?_) (a' := ?_) #[true, true, true, true, true, true, true, true, true, true, true, true, true, true, true, true, true, true, false, true, false, false, false, false, false, false, false, false, false, false] rfl rfl (by kernel_rfl) (fun _ _ _ h => h) (Or.inl ⟨by rfl, ?_⟩) ?_ ?_
    rotate_left
    · intro w'
      go_simp
      with_reducible rfl
    rotate_left
    · simp only [Act.put, List.setIfInBounds_toArray, List.set_cons_zero, List.set_cons_succ, i64_w, i32_w]
      rfl
    refine take_ (i := 18) (N := some 64) (v := ?_) (a' := ?_) #[true, true, true, true, true, true, true, true, true, true, true, true, true, true, true, true, true, true, true, true, false, false, false, false, false, false, false, false, false, false] rfl rfl (by kernel_rfl) (fun _ _ _ h => h) (Or.inl ⟨by rfl, ?_⟩) hHeld ?_ ?_
    rotate_left
    · rintro w' ⟨s0, s1, s2, s3, s4, s5, s6, s7⟩
      go_simp
      with_reducible rfl
    rotate_left
    · simp only [Act.put, List.setIfInBounds_toArray, List.set_cons_zero, List.set_cons_succ, i64_w, i32_w]
      rfl
    refine one_ (i := 20) (N := some 66) #[true, true, true, true, true, true, true, true, true, true, true, true, true, true, true, true, true, true, true, true, true, false, false, false, false, false, false, false, false, false] rfl rfl (by kernel_rfl) (by decide) (fun K hK => ?_)
    refine goes_ Try.func18 (by kernel_rfl) rfl #[.agg #[.int .i64 W, .int .i64 H, .slice A ws.length c, .slice A' sp.length c'], .int .i64 (-1), .int .i64 b] (by rfl) rfl rfl (by simp only [List.map_toArray, List.map_cons, List.map_nil]; rfl) ?_
    with_reducible refine (wall_any W H A c ws A' c' sp (-1) b _ (Kd.C_below HC.out.1 HK3.out) HC.out.2.2.1 (Kd.C_below HC.out.2.1 HK3.out) HC.out.2.2.2).mono ?_
    rintro e w24 ⟨r4, rfl, hr4, hb4⟩
    refine ⟨_, rfl, ?_⟩
    obtain rfl : r4 = true := hr4.2 HW1.out
    have HK4 := Aside0.mk (HK3.out.trans (hb4.mono HK3.out.size))
    clear hr4 hb4
    refine hK.out _ _ ⟨((HK4.out.cell (World.block_lt_of_cell? w6 _ c0)).trans c0), ((HK4.out.cell (World.block_lt_of_cell? w6 _ c1)).trans c1), ((HK4.out.cell (World.block_lt_of_cell? w6 _ c2)).trans c2), ((HK4.out.cell (World.block_lt_of_cell? w6 _ c3)).trans c3), ((HK4.out.cell (World.block_lt_of_cell? w6 _ p0)).trans p0), ((HK4.out.cell (World.block_lt_of_cell? w6 _ p1)).trans p1), ((HK4.out.cell (World.block_lt_of_cell? w6 _ q0)).trans q0), ((HK4.out.cell (World.block_lt_of_cell? w6 _ q1)).trans q1)⟩ (fun hHeld => ?_)
    clear hK K
    refine norm_ (a' := ?_) ?_ ?_
    rotate_left
    · show Act.put _ (some 66) _ = _
      simp only [Act.put, List.setIfInBounds_toArray, List.set_cons_zero, List.set_cons_succ, i64_w, i32_w]
      rfl
    refine pure_ (i := 21) (N := some 67) (v := ?_) (a' := ?_) #[true, true, true, true, true, true, true, true, true, true, true, true, true, true, true, true, true, true, true, true, true, true, false, false, false, false, false, false, false, false] rfl rfl (by kernel_rfl) (fun _ _ _ h => h) (Or.inl ⟨by rfl, ?_⟩) ?_ ?_
    rotate_left
    · intro w'
      go_simp
      with_reducible rfl
    rotate_left
    · simp only [Act.put, List.setIfInBounds_toArray, List.set_cons_zero, List.set_cons_succ, i64_w, i32_w]
      rfl
    refine pure_ (i := 22) (N := some 68) (v := ?_) (a' := ?_) #[true, true, true, true, true, true, true, true, true, true, true, true, true, true, true, true, true, true, true, true, true, true, true, false, false, false, false, false, false, false] rfl rfl (by kernel_rfl) (fun _ _ _ h => h) (Or.inl ⟨by rfl, ?_⟩) ?_ ?_
    rotate_left
    · intro w'
      go_simp
      with_reducible rfl
    rotate_left
    · simp only [Act.put, List.setIfInBounds_toArray, List.set_cons_zero, List.set_cons_succ, i64_w, i32_w]
      rfl
    refine pure_ (i := 24) (N := some 70) (v := ?_) (a' := ?_) #[true, true, true, true, true, true, true, true, true, true, true, true, true, true, true, true, true, true, true, true, true, true, true, false, true, false, false, false, false, false] rfl rfl (by kernel_rfl) (fun _ _ _ h => h) (Or.inl ⟨by rfl, ?_⟩) ?_ ?_
    rotate_left
    · intro w'
      go_simp
      with_reducible rfl
    rotate_left
    · simp only [Act.put, List.setIfInBounds_toArray, List.set_cons_zero, List.set_cons_succ, i64_w, i32_w]
      rfl
    refine pure_ (i := 25) (N := some 71) (v := ?_) (a' := ?_) #[true, true, true, true, true, true, true, true, true, true, true, true, true, true, true, true, true, true, true, true, true, true, true, false, true, true, false, false, false, false] rfl rfl (by kernel_rfl) (fun _ _ _ h => h) (Or.inl ⟨by rfl, ?_⟩) ?_ ?_
    rotate_left
    · intro w'
      go_simp
      with_reducible rfl
    rotate_left
    · simp only [Act.put, List.setIfInBounds_toArray, List.set_cons_zero, List.set_cons_succ, i64_w, i32_w]
      rfl
    refine take_ (i := 23) (N := some 69) (v := ?_) (a' := ?_) #[true, true, true, true, true, true, true, true, true, true, true, true, true, true, true, true, true, true, true, true, true, true, true, true, true, true, false, false, false, false] rfl rfl (by kernel_rfl) (fun _ _ _ h => h) (Or.inl ⟨by rfl, ?_⟩) hHeld ?_ ?_
    rotate_left
    · rintro w' ⟨s0, s1, s2, s3, s4, s5, s6, s7⟩
      go_simp
      with_reducible rfl
    rotate_left
    · simp only [Act.put, List.setIfInBounds_toArray, List.set_cons_zero, List.set_cons_succ, i64_w, i32_w]
      rfl
    refine take_ (i := 26) (N := some 72) (v := ?_) (a' := ?_) #[true, true, true, true, true, true, true, true, true, true, true, true, true, true, true, true, true, true, true, true, true, true, true, true, true, true, true, false, false, false] rfl rfl (by kernel_rfl) (fun _ _ _ h => h) (Or.inl ⟨by rfl, ?_⟩) hHeld ?_ ?_
    rotate_left
    · rintro w' ⟨s0, s1, s2, s3, s4, s5, s6, s7⟩
      go_simp
      with_reducible rfl
    rotate_left
    · simp only [Act.put, List.setIfInBounds_toArray, List.set_cons_zero, List.set_cons_succ, i64_w, i32_w]
      rfl
    refine one_ (i := 27) (N := some 73) #[true, true, true, true, true, true, true, true, true, true, true, true, true, true, true, true, true, true, true, true, true, true, true, true, true, true, true, true, false, false] rfl rfl (by kernel_rfl) (by decide) (fun K hK => ?_)
    refine goes_ Try.func18 (by kernel_rfl) rfl #[.agg #[.int .i64 W, .int .i64 H, .slice A ws.length c, .slice A' sp.length c'], .int .i64 a, .int .i64 H] (by rfl) rfl rfl (by simp only [List.map_toArray, List.map_cons, List.map_nil]; rfl) ?_
    with_reducible refine (wall_any W H A c ws A' c' sp a H _ (Kd.C_below HC.out.1 HK4.out) HC.out.2.2.1 (Kd.C_below HC.out.2.1 HK4.out) HC.out.2.2.2).mono ?_
    rintro e w25 ⟨r5, rfl, hr5, hb5⟩
    refine ⟨_, rfl, ?_⟩
    obtain rfl : r5 = true := hr5.2 HW2.out
    have HK5 := Aside0.mk (HK4.out.trans (hb5.mono HK4.out.size))
    clear hr5 hb5
    refine hK.out _ _ ⟨((HK5.out.cell (World.block_lt_of_cell? w6 _ c0)).trans c0), ((HK5.out.cell (World.block_lt_of_cell? w6 _ c1)).trans c1), ((HK5.out.cell (World.block_lt_of_cell? w6 _ c2)).trans c2), ((HK5.out.cell (World.block_lt_of_cell? w6 _ c3)).trans c3), ((HK5.out.cell (World.block_lt_of_cell? w6 _ p0)).trans p0), ((HK5.out.cell (World.block_lt_of_cell? w6 _ p1)).trans p1), ((HK5.out.cell (World.block_lt_of_cell? w6 _ q0)).trans q0), ((HK5.out.cell (World.block_lt_of_cell? w6 _ q1)).trans q1)⟩ (fun hHeld => ?_)
    clear hK K
    refine norm_ (a' := ?_) ?_ ?_
    rotate_left
    · show Act.put _ (some 73) _ = _
      simp only [Act.put, List.setIfInBounds_toArray, List.set_cons_zero, List.set_cons_succ, i64_w, i32_w]
      rfl
    refine pure_ (i := 28) (N := some 74) (v := ?_) (a' := ?_) #[true, true, true, true, true, true, true, true, true, true, true, true, true, true, true, true, true, true, true, true, true, true, true, true, true, true, true, true, true, false] rfl rfl (by kernel_rfl) (fun _ _ _ h => h) (Or.inl ⟨by rfl, ?_⟩) ?_ ?_
    rotate_left
    · intro w'
      go_simp
      with_reducible rfl
    rotate_left
    · simp only [Act.put, List.setIfInBounds_toArray, List.set_cons_zero, List.set_cons_succ, i64_w, i32_w]
      rfl
    refine pure_ (i := 29) (N := some 6) (v := ?_) (a' := ?_) #[true, true, true, true, true, true, true, true, true, true, true, true, true, true, true, true, true, true, true, true, true, true, true, true, true, true, true, true, true, true] rfl rfl (by kernel_rfl) (fun _ _ _ h => h) (Or.inl ⟨by rfl, ?_⟩) ?_ ?_
    rotate_left
    · intro w'
      go_simp
      with_reducible rfl
    rotate_left
    · simp only [Act.put, List.setIfInBounds_toArray, List.set_cons_zero, List.set_cons_succ, i64_w, i32_w]
      rfl
    refine done_ (by kernel_rfl) ?_
    go_wp2_with fail
    go_ret
    exact ⟨rfl, HB.out.trans (HK5.out.mono HB.out.size)⟩
  | true =>
    have HT1 : Aside0 (¬ FreeP W H ws sp (a * 65536) (b * 65536) (a * 65536 + 65536) (b * 65536 + 65536)) := ⟨fun h => by rw [HTf.out.1 h] at htb; cases htb⟩
    have HT2 : Aside0 (WallP W H ws sp a b) := ⟨.inr (.inr (.inr (.inr (.inr htb))))⟩
    clear HTf htb
    refine start_ (n := 30) (S := fun w' => w'.cell? ⟨B, 0, none⟩ = some (.int .i64 W) ∧ w'.cell? ⟨B, 1, none⟩ = some (.int .i64 H) ∧ w'.cell? ⟨B, 2, none⟩ = some (.slice A ws.length c) ∧ w'.cell? ⟨B, 3, none⟩ = some (.slice A' sp.length c') ∧ w'.cell? ⟨P, 0, none⟩ = some (.int .i64 (a * 65536)) ∧ w'.cell? ⟨P, 1, none⟩ = some (.int .i64 (b * 65536)) ∧ w'.cell? ⟨P + 1, 0, none⟩ = some (.int .i64 (a * 65536 + 65536)) ∧ w'.cell? ⟨P + 1, 1, none⟩ = some (.int .i64 (b * 65536 + 65536))) (ds := []) #[false, false, false, false, false, false, false, false, false, false, false, false, false, false, false, false, false, false, false, false, false, false, false, false, false, false, false, false, false, false] (by kernel_rfl) rfl rfl ⟨((HK0.out.cell (World.block_lt_of_cell? w6 _ c0)).trans c0), ((HK0.out.cell (World.block_lt_of_cell? w6 _ c1)).trans c1), ((HK0.out.cell (World.block_lt_of_cell? w6 _ c2)).trans c2), ((HK0.out.cell (World.block_lt_of_cell? w6 _ c3)).trans c3), ((HK0.out.cell (World.block_lt_of_cell? w6 _ p0)).trans p0), ((HK0.out.cell (World.block_lt_of_cell? w6 _ p1)).trans p1), ((HK0.out.cell (World.block_lt_of_cell? w6 _ q0)).trans q0), ((HK0.out.cell (World.block_lt_of_cell? w6 _ q1)).trans q1)⟩ (fun hHeld => ?_)
    refine pure_ (i := 6) (N := some 52) (v := ?_) (a' := ?_) #[false, false, false, false, false, false, true, false, false, false, false, false, false, false, false, false, false, false, false, false, false, false, false, false, false, false, false, false, false, false] rfl rfl (by kernel_rfl) (fun _ _ _ h => h) (Or.inl ⟨by rfl, ?_⟩) ?_ ?_
    rotate_left
    · intro w'
      go_simp
      with_reducible rfl
    rotate_left
    · simp only [Act.put, List.setIfInBounds_toArray, List.set_cons_zero, List.set_cons_succ, i64_w, i32_w]
      rfl
    refine pure_ (i := 7) (N := some 53) (v := ?_) (a' := ?_) #[false, false, false, false, false, false, true, true, false, false, false, false, false, false, false, false, false, false, false, false, false, false, false, false, false, false, false, false, false, false] rfl rfl (by kernel_rfl) (fun _ _ _ h => h) (Or.inl ⟨by rfl, ?_⟩) ?_ ?_
    rotate_left
    · intro w'
      go_simp
      with_reducible rfl
    rotate_left
    · simp only [Act.put, List.setIfInBounds_toArray, List.set_cons_zero, List.set_cons_succ, i64_w, i32_w]
      rfl
    refine take_ (i := 0) (N := some 46) (v := ?_) (a' := ?_) #[true, false, false, false, false, false, true, true, false, false, false, false, false, false, false, false, false, false, false, false, false, false, false, false, false, false, false, false, false, false] rfl rfl (by kernel_rfl) (fun _ _ _ h => h) (Or.inl ⟨by rfl, ?_⟩) hHeld ?_ ?_
    rotate_left
    · rintro w' ⟨s0, s1, s2, s3, s4, s5, s6, s7⟩
      go_simp
      with_reducible rfl
    rotate_left
    · simp only [Act.put, List.setIfInBounds_toArray, List.set_cons_zero, List.set_cons_succ, i64_w, i32_w]
      rfl
    refine take_ (i := 1) (N := some 47) (v := ?_) (a' := ?_) #[true, true, false, false, false, false, true, true, false, false, false, false, false, false, false, false, false, false, false, false, false, false, false, false, false, false, false, false, false, false] rfl rfl (by kernel_rfl) (fun _ _ _ h => h) (Or.inl ⟨by rfl, ?_⟩) hHeld ?_ ?_
    rotate_left
    · rintro w' ⟨s0, s1, s2, s3, s4, s5, s6, s7⟩
      go_simp
      with_reducible rfl
    rotate_left
    · simp only [Act.put, List.setIfInBounds_toArray, List.set_cons_zero, List.set_cons_succ, i64_w, i32_w]
      rfl
    refine take_ (i := 2) (N := some 48) (v := ?_) (a' := ?_) #[true, true, true, false, false, false, true, true, false, false, false, false, false, false, false, false, false, false, false, false, false, false, false, false, false, false, false, false, false, false] rfl rfl (by kernel_rfl) (fun _ _ _ h => h) (Or.inl ⟨by rfl, ?_⟩) hHeld ?_ ?_
    rotate_left
    · rintro w' ⟨s0, s1, s2, s3, s4, s5, s6, s7⟩
      go_simp
      with_reducible rfl
    rotate_left
    · simp only [Act.put, List.setIfInBounds_toArray, List.set_cons_zero, List.set_cons_succ, i64_w, i32_w]
      rfl
    refine pure_ (i := 3) (N := some 49) (v := ?_) (a' := ?_) #[true, true, true, true, false, false, true, true, false, false, false, false, false, false, false, false, false, false, false, false, false, false, false, false, false, false, false, false, false, false] rfl rfl (by kernel_rfl) (fun _ _ _ h => h) (Or.inl ⟨by rfl, ?_⟩) ?_ ?_
    rotate_left
    · intro w'
      go_simp
      with_reducible rfl
    rotate_left
    · simp only [Act.put, List.setIfInBounds_toArray, List.set_cons_zero, List.set_cons_succ, i64_w, i32_w]
      rfl
    refine take_ (i := 5) (N := some 51) (v := ?_) (a' := ?_) #[true, true, true, true, false, true, true, true, false, false, false, false, false, false, false, false, false, false, false, false, false, false, false, false, false, false, false, false, false, false] rfl rfl (by kernel_rfl) (fun _ _ _ h => h) (Or.inl ⟨by rfl, ?_⟩) hHeld ?_ ?_
    rotate_left
    · rintro w' ⟨s0, s1, s2, s3, s4, s5, s6, s7⟩
      go_simp
      with_reducible rfl
    rotate_left
    · simp only [Act.put, List.setIfInBounds_toArray, List.set_cons_zero, List.set_cons_succ, i64_w, i32_w]
      rfl
    refine one_ (i := 4) (N := some 50) #[true, true, true, true, true, true, true, true, false, false, false, false, false, false, false, false, false, false, false, false, false, false, false, false, false, false, false, false, false, false] rfl rfl (by kernel_rfl) (by decide) (fun K hK => ?_)
    refine goes_ Try.func15 (by kernel_rfl) rfl #[.agg #[.int .i64 W, .int .i64 H, .slice A ws.length c, .slice A' sp.length c'], .agg #[.int .i64 (a * 65536), .int .i64 (b * 65536), .int .i64 (a * 65536 + 65536), .int .i64 (b * 65536 + 65536)]] (by rfl) rfl rfl (by simp only [List.map_toArray, List.map_cons, List.map_nil]; rfl) ?_
    with_reducible refine (free_any W H A c ws A' c' sp (a * 65536) (b * 65536) (a * 65536 + 65536) (b * 65536 + 65536) _ (Kd.C_below HC.out.1 HK0.out) HC.out.2.2.1 (Kd.C_below HC.out.2.1 HK0.out) HC.out.2.2.2).mono ?_
    rintro e w21 ⟨r1, rfl, hr1, hb1⟩
    refine ⟨_, rfl, ?_⟩
    obtain rfl : r1 = false := (by cases r1 <;> first | rfl | exact absurd (hr1.1 rfl) HT1.out)
    have HK1 := Aside0.mk (HK0.out.trans (hb1.mono HK0.out.size))
    clear hr1 hb1
    refine hK.out _ _ ⟨((HK1.out.cell (World.block_lt_of_cell? w6 _ c0)).trans c0), ((HK1.out.cell (World.block_lt_of_cell? w6 _ c1)).trans c1), ((HK1.out.cell (World.block_lt_of_cell? w6 _ c2)).trans c2), ((HK1.out.cell (World.block_lt_of_cell? w6 _ c3)).trans c3), ((HK1.out.cell (World.block_lt_of_cell? w6 _ p0)).trans p0), ((HK1.out.cell (World.block_lt_of_cell? w6 _ p1)).trans p1), ((HK1.out.cell (World.block_lt_of_cell? w6 _ q0)).trans q0), ((HK1.out.cell (World.block_lt_of_cell? w6 _ q1)).trans q1)⟩ (fun hHeld => ?_)
    clear hK K
    refine norm_ (a' := ?_) ?_ ?_
    rotate_left
    · show Act.put _ (some 50) _ = _
      simp only [Act.put, List.setIfInBounds_toArray, List.set_cons_zero, List.set_cons_succ, i64_w, i32_w]
      rfl
    refine one_ (i := 8) (N := some 54) #[true, true, true, true, true, true, true, true, true, false, false, false, false, false, false, false, false, false, false, false, false, false, false, false, false, false, false, false, false, false] rfl rfl (by kernel_rfl) (by decide) (fun K hK => ?_)
    refine goes_ Try.func18 (by kernel_rfl) rfl #[.agg #[.int .i64 W, .int .i64 H, .slice A ws.length c, .slice A' sp.length c'], .int .i64 a, .int .i64 b] (by rfl) rfl rfl (by simp only [List.map_toArray, List.map_cons, List.map_nil]; rfl) ?_
    with_reducible refine (wall_any W H A c ws A' c' sp a b _ (Kd.C_below HC.out.1 HK1.out) HC.out.2.2.1 (Kd.C_below HC.out.2.1 HK1.out) HC.out.2.2.2).mono ?_
    rintro e w22 ⟨r2, rfl, hr2, hb2⟩
    refine ⟨_, rfl, ?_⟩
    obtain rfl : r2 = true := hr2.2 HT2.out
    have HK2 := Aside0.mk (HK1.out.trans (hb2.mono HK1.out.size))
    clear hr2 hb2
    refine hK.out _ _ ⟨((HK2.out.cell (World.block_lt_of_cell? w6 _ c0)).trans c0), ((HK2.out.cell (World.block_lt_of_cell? w6 _ c1)).trans c1), ((HK2.out.cell (World.block_lt_of_cell? w6 _ c2)).trans c2), ((HK2.out.cell (World.block_lt_of_cell? w6 _ c3)).trans c3), ((HK2.out.cell (World.block_lt_of_cell? w6 _ p0)).trans p0), ((HK2.out.cell (World.block_lt_of_cell? w6 _ p1)).trans p1), ((HK2.out.cell (World.block_lt_of_cell? w6 _ q0)).trans q0), ((HK2.out.cell (World.block_lt_of_cell? w6 _ q1)).trans q1)⟩ (fun hHeld => ?_)
    clear hK K
    refine norm_ (a' := ?_) ?_ ?_
    rotate_left
    · show Act.put _ (some 54) _ = _
      simp only [Act.put, List.setIfInBounds_toArray, List.set_cons_zero, List.set_cons_succ, i64_w, i32_w]
      rfl
    refine pure_ (i := 9) (N := some 55) (v := ?_) (a' := ?_) #[true, true, true, true, true, true, true, true, true, true, false, false, false, false, false, false, false, false, false, false, false, false, false, false, false, false, false, false, false, false] rfl rfl (by kernel_rfl) (fun _ _ _ h => h) (Or.inl ⟨by rfl, ?_⟩) ?_ ?_
    rotate_left
    · intro w'
      go_simp
      with_reducible rfl
    rotate_left
    · simp only [Act.put, List.setIfInBounds_toArray, List.set_cons_zero, List.set_cons_succ, i64_w, i32_w]
      rfl
    refine pure_ (i := 10) (N := some 56) (v := ?_) (a' := ?_) #[true, true, true, true, true, true, true, true, true, true, true, false, false, false, false, false, false, false, false, false, false, false, false, false, false, false, false, false, false, false] rfl rfl (by kernel_rfl) (fun _ _ _ h => h) (Or.inl ⟨by rfl, ?_⟩) ?_ ?_
    rotate_left
    · intro w'
      go_simp
      with_reducible rfl
    rotate_left
    · simp only [Act.put, List.setIfInBounds_toArray, List.set_cons_zero, List.set_cons_succ, i64_w, i32_w]
      rfl
    refine take_ (i := 11) (N := some 57) (v := ?_) (a' := ?_) #[true, true, true, true, true, true, true, true, true, true, true, true, false, false, false, false, false, false, false, false, false, false, false, false, false, false, false, false, false, false] rfl rfl (by kernel_rfl) (fun _ _ _ h => h) (Or.inl ⟨by rfl, ?_⟩) hHeld ?_ ?_
    rotate_left
    · rintro w' ⟨s0, s1, s2, s3, s4, s5, s6, s7⟩
      go_simp
      with_reducible rfl
    rotate_left
    · simp only [Act.put, List.setIfInBounds_toArray, List.set_cons_zero, List.set_cons_succ, i64_w, i32_w]
      rfl
    refine take_ (i := 12) (N := some 58) (v := ?_) (a' := ?_) #[true, true, true, true, true, true, true, true, true, true, true, true, true, false, false, false, false, false, false, false, false, false, false, false, false, false, false, false, false, false] rfl rfl (by kernel_rfl) (fun _ _ _ h => h) (Or.inl ⟨by rfl, ?_⟩) hHeld ?_ ?_
    rotate_left
    · rintro w' ⟨s0, s1, s2, s3, s4, s5, s6, s7⟩
      go_simp
      with_reducible rfl
    rotate_left
    · simp only [Act.put, List.setIfInBounds_toArray, List.set_cons_zero, List.set_cons_succ, i64_w, i32_w]
      rfl
    refine take_ (i := 13) (N := some 59) (v := ?_) (a' := ?_) #[true, true, true, true, true, true, true, true, true, true, true, true, true, true, false, false, false, false, false, false, false, false, false, false, false, false, false, false, false, false] rfl rfl (by kernel_rfl) (fun _ _ _ h => h) (Or.inl ⟨by rfl, ?_⟩) hHeld ?_ ?_
    rotate_left
    · rintro w' ⟨s0, s1, s2, s3, s4, s5, s6, s7⟩
      go_simp
      with_reducible rfl
    rotate_left
    · simp only [Act.put, List.setIfInBounds_toArray, List.set_cons_zero, List.set_cons_succ, i64_w, i32_w]
      rfl
    refine pure_ (i := 14) (N := some 60) (v := ?_) (a' := ?_) #[true, true, true, true, true, true, true, true, true, true, true, true, true, true, true, false, false, false, false, false, false, false, false, false, false, false, false, false, false, false] rfl rfl (by kernel_rfl) (fun _ _ _ h => h) (Or.inl ⟨by rfl, ?_⟩) ?_ ?_
    rotate_left
    · intro w'
      go_simp
      with_reducible rfl
    rotate_left
    · simp only [Act.put, List.setIfInBounds_toArray, List.set_cons_zero, List.set_cons_succ, i64_w, i32_w]
      rfl
    refine one_ (i := 15) (N := some 61) #[true, true, true, true, true, true, true, true, true, true, true, true, true, true, true, true, false, false, false, false, false, false, false, false, false, false, false, false, false, false] rfl rfl (by kernel_rfl) (by decide) (fun K hK => ?_)
    refine goes_ Try.func15 (by kernel_rfl) rfl #[.agg #[.int .i64 W, .int .i64 H, .slice A ws.length c, .slice A' sp.length c'], .agg #[.int .i64 (a * 65536), .int .i64 (b * 65536), .int .i64 (a * 65536), .int .i64 (b * 65536)]] (by rfl) rfl rfl (by simp only [List.map_toArray, List.map_cons, List.map_nil]; rfl) ?_
    with_reducible refine (free_any W H A c ws A' c' sp (a * 65536) (b * 65536) (a * 65536) (b * 65536) _ (Kd.C_below HC.out.1 HK2.out) HC.out.2.2.1 (Kd.C_below HC.out.2.1 HK2.out) HC.out.2.2.2).mono ?_
    rintro e w23 ⟨r3, rfl, hr3, hb3⟩
    refine ⟨_, rfl, ?_⟩
    obtain rfl : r3 = true := hr3.2 HPt.out
    have HK3 := Aside0.mk (HK2.out.trans (hb3.mono HK2.out.size))
    clear hr3 hb3
    refine hK.out _ _ ⟨((HK3.out.cell (World.block_lt_of_cell? w6 _ c0)).trans c0), ((HK3.out.cell (World.block_lt_of_cell? w6 _ c1)).trans c1), ((HK3.out.cell (World.block_lt_of_cell? w6 _ c2)).trans c2), ((HK3.out.cell (World.block_lt_of_cell? w6 _ c3)).trans c3), ((HK3.out.cell (World.block_lt_of_cell? w6 _ p0)).trans p0), ((HK3.out.cell (World.block_lt_of_cell? w6 _ p1)).trans p1), ((HK3.out.cell (World.block_lt_of_cell? w6 _ q0)).trans q0), ((HK3.out.cell (World.block_lt_of_cell? w6 _ q1)).trans q1)⟩ (fun hHeld => ?_)
    clear hK K
    refine norm_ (a' := ?_) ?_ ?_
    rotate_left
    · show Act.put _ (some 61) _ = _
      simp only [Act.put, List.setIfInBounds_toArray, List.set_cons_zero, List.set_cons_succ, i64_w, i32_w]
      rfl
    refine pure_ (i := 16) (N := some 62) (v := ?_) (a' := ?_) #[true, true, true, true, true, true, true, true, true, true, true, true, true, true, true, true, true, false, false, false, false, false, false, false, false, false, false, false, false, false] rfl rfl (by kernel_rfl) (fun _ _ _ h => h) (Or.inl ⟨by rfl, ?_⟩) ?_ ?_
    rotate_left
    · intro w'
      go_simp
      with_reducible rfl
    rotate_left
    · simp only [Act.put, List.setIfInBounds_toArray, List.set_cons_zero, List.set_cons_succ, i64_w, i32_w]
      rfl
    refine pure_ (i := 17) (N := some 63) (v := ?_) (a' := ?_) #[true, true, true, true, true, true, true, true, true, true, true, true, true, true, true, true, true, true, false, false, false, false, false, false, false, false, false, false, false, false] rfl rfl (by kernel_rfl) (fun _ _ _ h => h) (Or.inl ⟨by rfl, ?_⟩) ?_ ?_
    rotate_left
    · intro w'
      go_simp
      with_reducible rfl
    rotate_left
    · simp only [Act.put, List.setIfInBounds_toArray, List.set_cons_zero, List.set_cons_succ, i64_w, i32_w]
      rfl
    refine pure_ (i := 19) (N := some 65) (v := ?_) (a' := ?_) #[true, true, true, true, true, true, true, true, true, true, true, true, true, true, true, true, true, true, false, true, false, false, false, false, false, false, false, false, false, false] rfl rfl (by kernel_rfl) (fun _ _ _ h => h) (Or.inl ⟨by rfl, ?_⟩) ?_ ?_
    rotate_left
    · intro w'
      go_simp
      with_reducible rfl
    rotate_left
    · simp only [Act.put, List.setIfInBounds_toArray, List.set_cons_zero, List.set_cons_succ, i64_w, i32_w]
      rfl
    refine take_ (i := 18) (N := some 64) (v := ?_) (a' := ?_) #[true, true, true, true, true, true, true, true, true, true, true, true, true, true, true, true, true, true, true, true, false, false, false, false, false, false, false, false, false, false] rfl rfl (by kernel_rfl) (fun _ _ _ h => h) (Or.inl ⟨by rfl, ?_⟩) hHeld ?_ ?_
    rotate_left
    · rintro w' ⟨s0, s1, s2, s3, s4, s5, s6, s7⟩
      go_simp
      with_reducible rfl
    rotate_left
    · simp only [Act.put, List.setIfInBounds_toArray, List.set_cons_zero, List.set_cons_succ, i64_w, i32_w]
      rfl
    refine one_ (i := 20) (N := some 66) #[true, true, true, true, true, true, true, true, true, true, true, true, true, true, true, true, true, true, true, true, true, false, false, false, false, false, false, false, false, false] rfl rfl (by kernel_rfl) (by decide) (fun K hK => ?_)
    refine goes_ Try.func18 (by kernel_rfl) rfl #[.agg #[.int .i64 W, .int .i64 H, .slice A ws.length c, .slice A' sp.length c'], .int .i64 (-1), .int .i64 b] (by rfl) rfl rfl (by simp only [List.map_toArray, List.map_cons, List.map_nil]; rfl) ?_
    with_reducible refine (wall_any W H A c ws A' c' sp (-1) b _ (Kd.C_below HC.out.1 HK3.out) HC.out.2.2.1 (Kd.C_below HC.out.2.1 HK3.out) HC.out.2.2.2).mono ?_
    rintro e w24 ⟨r4, rfl, hr4, hb4⟩
    refine ⟨_, rfl, ?_⟩
    obtain rfl : r4 = true := hr4.2 HW1.out
    have HK4 := Aside0.mk (HK3.out.trans (hb4.mono HK3.out.size))
    clear hr4 hb4
    refine hK.out _ _ ⟨((HK4.out.cell (World.block_lt_of_cell? w6 _ c0)).trans c0), ((HK4.out.cell (World.block_lt_of_cell? w6 _ c1)).trans c1), ((HK4.out.cell (World.block_lt_of_cell? w6 _ c2)).trans c2), ((HK4.out.cell (World.block_lt_of_cell? w6 _ c3)).trans c3), ((HK4.out.cell (World.block_lt_of_cell? w6 _ p0)).trans p0), ((HK4.out.cell (World.block_lt_of_cell? w6 _ p1)).trans p1), ((HK4.out.cell (World.block_lt_of_cell? w6 _ q0)).trans q0), ((HK4.out.cell (World.block_lt_of_cell? w6 _ q1)).trans q1)⟩ (fun hHeld => ?_)
    clear hK K
    refine norm_ (a' := ?_) ?_ ?_
    rotate_left
    · show Act.put _ (some 66) _ = _
      simp only [Act.put, List.setIfInBounds_toArray, List.set_cons_zero, List.set_cons_succ, i64_w, i32_w]
      rfl
    refine pure_ (i := 21) (N := some 67) (v := ?_) (a' := ?_) #[true, true, true, true, true, true, true, true, true, true, true, true, true, true, true, true, true, true, true, true, true, true, false, false, false, false, false, false, false, false] rfl rfl (by kernel_rfl) (fun _ _ _ h => h) (Or.inl ⟨by rfl, ?_⟩) ?_ ?_
    rotate_left
    · intro w'
      go_simp
      with_reducible rfl
    rotate_left
    · simp only [Act.put, List.setIfInBounds_toArray, List.set_cons_zero, List.set_cons_succ, i64_w, i32_w]
      rfl
    refine pure_ (i := 22) (N := some 68) (v := ?_) (a' := ?_) #[true, true, true, true, true, true, true, true, true, true, true, true, true, true, true, true, true, true, true, true, true, true, true, false, false, false, false, false, false, false] rfl rfl (by kernel_rfl) (fun _ _ _ h => h) (Or.inl ⟨by rfl, ?_⟩) ?_ ?_
    rotate_left
    · intro w'
      go_simp
      with_reducible rfl
    rotate_left
    · simp only [Act.put, List.setIfInBounds_toArray, List.set_cons_zero, List.set_cons_succ, i64_w, i32_w]
      rfl
    refine pure_ (i := 24) (N := some 70) (v := ?_) (a' := ?_) #[true, true, true, true, true, true, true, true, true, true, true, true, true, true, true, true, true, true, true, true, true, true, true, false, true, false, false, false, false, false] rfl rfl (by kernel_rfl) (fun _ _ _ h => h) (Or.inl ⟨by rfl, ?_⟩) ?_ ?_
    rotate_left
    · intro w'
      go_simp
      with_reducible rfl
    rotate_left
    · simp only [Act.put, List.setIfInBounds_toArray, List.set_cons_zero, List.set_cons_succ, i64_w, i32_w]
      rfl
    refine pure_ (i := 25) (N := some 71) (v := ?_) (a' := ?_) #[true, true, true, true, true, true, true, true, true, true, true, true, true, true, true, true, true, true, true, true, true, true, true, false, true, true, false, false, false, false] rfl rfl (by kernel_rfl) (fun _ _ _ h => h) (Or.inl ⟨by rfl, ?_⟩) ?_ ?_
    rotate_left
    · intro w'
      go_simp
      with_reducible rfl
    rotate_left
    · simp only [Act.put, List.setIfInBounds_toArray, List.set_cons_zero, List.set_cons_succ, i64_w, i32_w]
      rfl
    refine take_ (i := 23) (N := some 69) (v := ?_) (a' := ?_) #[true, true, true, true, true, true, true, true, true, true, true, true, true, true, true, true, true, true, true, true, true, true, true, true, true, true, false, false, false, false] rfl rfl (by kernel_rfl) (fun _ _ _ h => h) (Or.inl ⟨by rfl, ?_⟩) hHeld ?_ ?_
    rotate_left
    · rintro w' ⟨s0, s1, s2, s3, s4, s5, s6, s7⟩
      go_simp
      with_reducible rfl
    rotate_left
    · simp only [Act.put, List.setIfInBounds_toArray, List.set_cons_zero, List.set_cons_succ, i64_w, i32_w]
      rfl
    refine take_ (i := 26) (N := some 72) (v := ?_) (a' := ?_) #[true, true, true, true, true, true, true, true, true, true, true, true, true, true, true, true, true, true, true, true, true, true, true, true, true, true, true, false, false, false] rfl rfl (by kernel_rfl) (fun _ _ _ h => h) (Or.inl ⟨by rfl, ?_⟩) hHeld ?_ ?_
    rotate_left
    · rintro w' ⟨s0, s1, s2, s3, s4, s5, s6, s7⟩
      go_simp
      with_reducible rfl
    rotate_left
    · simp only [Act.put, List.setIfInBounds_toArray, List.set_cons_zero, List.set_cons_succ, i64_w, i32_w]
      rfl
    refine one_ (i := 27) (N := some 73) #[true, true, true, true, true, true, true, true, true, true, true, true, true, true, true, true, true, true, true, true, true, true, true, true, true, true, true, true, false, false] rfl rfl (by kernel_rfl) (by decide) (fun K hK => ?_)
    refine goes_ Try.func18 (by kernel_rfl) rfl #[.agg #[.int .i64 W, .int .i64 H, .slice A ws.length c, .slice A' sp.length c'], .int .i64 a, .int .i64 H] (by rfl) rfl rfl (by simp only [List.map_toArray, List.map_cons, List.map_nil]; rfl) ?_
    with_reducible refine (wall_any W H A c ws A' c' sp a H _ (Kd.C_below HC.out.1 HK4.out) HC.out.2.2.1 (Kd.C_below HC.out.2.1 HK4.out) HC.out.2.2.2).mono ?_
    rintro e w25 ⟨r5, rfl, hr5, hb5⟩
    refine ⟨_, rfl, ?_⟩
    obtain rfl : r5 = true := hr5.2 HW2.out
    have HK5 := Aside0.mk (HK4.out.trans (hb5.mono HK4.out.size))
    clear hr5 hb5
    refine hK.out _ _ ⟨((HK5.out.cell (World.block_lt_of_cell? w6 _ c0)).trans c0), ((HK5.out.cell (World.block_lt_of_cell? w6 _ c1)).trans c1), ((HK5.out.cell (World.block_lt_of_cell? w6 _ c2)).trans c2), ((HK5.out.cell (World.block_lt_of_cell? w6 _ c3)).trans c3), ((HK5.out.cell (World.block_lt_of_cell? w6 _ p0)).trans p0), ((HK5.out.cell (World.block_lt_of_cell? w6 _ p1)).trans p1), ((HK5.out.cell (World.block_lt_of_cell? w6 _ q0)).trans q0), ((HK5.out.cell (World.block_lt_of_cell? w6 _ q1)).trans q1)⟩ (fun hHeld => ?_)
    clear hK K
    refine norm_ (a' := ?_) ?_ ?_
    rotate_left
    · show Act.put _ (some 73) _ = _
      simp only [Act.put, List.setIfInBounds_toArray, List.set_cons_zero, List.set_cons_succ, i64_w, i32_w]
      rfl
    refine pure_ (i := 28) (N := some 74) (v := ?_) (a' := ?_) #[true, true, true, true, true, true, true, true, true, true, true, true, true, true, true, true, true, true, true, true, true, true, true, true, true, true, true, true, true, false] rfl rfl (by kernel_rfl) (fun _ _ _ h => h) (Or.inl ⟨by rfl, ?_⟩) ?_ ?_
    rotate_left
    · intro w'
      go_simp
      with_reducible rfl
    rotate_left
    · simp only [Act.put, List.setIfInBounds_toArray, List.set_cons_zero, List.set_cons_succ, i64_w, i32_w]
      rfl
    refine pure_ (i := 29) (N := some 6) (v := ?_) (a' := ?_) #[true, true, true, true, true, true, true, true, true, true, true, true, true, true, true, true, true, true, true, true, true, true, true, true, true, true, true, true, true, true] rfl rfl (by kernel_rfl) (fun _ _ _ h => h) (Or.inl ⟨by rfl, ?_⟩) ?_ ?_
    rotate_left
    · intro w'
      go_simp
      with_reducible rfl
    rotate_left
    · simp only [Act.put, List.setIfInBounds_toArray, List.set_cons_zero, List.set_cons_succ, i64_w, i32_w]
      rfl
    refine done_ (by kernel_rfl) ?_
    go_wp2_with fail
    go_ret
    exact ⟨rfl, HB.out.trans (HK5.out.mono HB.out.size)⟩
end Go.Proofs.Ytgppnfnbihngnaa.Tiles
