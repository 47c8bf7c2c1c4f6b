import Derived.Test.YtgppnfnbihngnaaTForm
import Derived.Test.YtgppnfnbihngnaaTFreeP
set_option linter.unusedVariables false
set_option linter.unusedSimpArgs false
namespace Go.Proofs.Ytgppnfnbihngnaa.Tiles
open Go.RowKit Go.Proofs.YtgppnfnbihngnaaW.PrintWords Go.Proofs.YtgppnfnbihngnaaW.PrintLast Go.Proofs.YtgppnfnbihngnaaW.PrintMore Go.Proofs.Ytgppnfnbihngnaa.PTilesFree

def WallP (W H : Int) (ws : List Bool) (sp : List S39) (x y : Int) : Prop := ¬ FormP W H ws sp ∨ x < 0 ∨ y < 0 ∨ W ≤ x ∨ H ≤ y ∨ tileB W ws x y = true
set_option maxHeartbeats 8000000 in
set_option maxRecDepth 100000 in
theorem wall_any (W H : Int) (A : Option Addr) (c : Nat) (ws : List Bool) (A' : Option Addr) (c' : Nat) (sp : List S39) (x y : Int) (w : World) (hC : Kd.C Kd.bool w A ws.length ws) (hc : ws.length ≤ c) (hC' : Kd.C k39 w A' sp.length sp) (hc' : sp.length ≤ c') :
    Calls Try.prog 18 #[.agg #[.int .i64 W, .int .i64 H, .slice A ws.length c, .slice A' sp.length c'], .int .i64 x, .int .i64 y] w (BoolP (WallP W H ws sp x y) w) := by
  have hu39 := Try.underlying39
  have hu26 := Try.underlying26
  have HB : Aside0 (Below w.heap.size w (w.alloc (.cells #[.int .i64 W, .int .i64 H, .slice A ws.length c, .slice A' sp.length c'] 26 (0, 0)))) := ⟨below_alloc (Below.refl _ _) _⟩
  have HM := Aside0.mk (blk_new w (.cells #[.int .i64 W, .int .i64 H, .slice A ws.length c, .slice A' sp.length c'] 26 (0, 0)))
  have HC := Aside0.mk (And.intro (Kd.C_alloc hC (.cells #[.int .i64 W, .int .i64 H, .slice A ws.length c, .slice A' sp.length c'] 26 (0, 0))) (And.intro (Kd.C_alloc hC' (.cells #[.int .i64 W, .int .i64 H, .slice A ws.length c, .slice A' sp.length c'] 26 (0, 0))) (And.intro hc hc')))
  clear hC hc hC' hc'
  go_enter Try.func18, Try.ntmps18
  go_upto_region 1 with fail
  generalize w.alloc (.cells #[.int .i64 W, .int .i64 H, .slice A ws.length c, .slice A' sp.length c'] 26 (0, 0)) = W1 at *
  obtain ⟨B, hB⟩ : ∃ X, w.heap.size = X := ⟨_, rfl⟩
  rw [hB] at HM
  rw [hB]
  have HBB := Aside0.mk hB
  clear hB
  have c0 : W1.cell? ⟨B, 0, none⟩ = some (.int .i64 W) := (blk_cell HM.out 0).trans rfl
  have c1 : W1.cell? ⟨B, 1, none⟩ = some (.int .i64 H) := (blk_cell HM.out 1).trans rfl
  have c2 : W1.cell? ⟨B, 2, none⟩ = some (.slice A ws.length c) := (blk_cell HM.out 2).trans rfl
  have c3 : W1.cell? ⟨B, 3, none⟩ = some (.slice A' sp.length c') := (blk_cell HM.out 3).trans rfl
  by_cases hf : FormP W H ws sp
  case neg =>
    have HF := Aside0.mk hf
    clear hf
    go_wp2_with (go_at_call 17; (with_reducible refine (formed_any W H _ c ws A' c' sp _ HC.out.1 HC.out.2.2.1 HC.out.2.1 HC.out.2.2.2).mono ?_); rintro e w3 ⟨r, he, hr, hb3⟩; obtain rfl : r = false := (by cases r <;> first | rfl | exact absurd (hr.1 rfl) HF.out); subst he; have HBn := Aside0.mk (HB.out.trans (hb3.mono HB.out.size)); have c0 := (hb3.cell (World.block_lt_of_cell? _ _ c0)).trans c0; have c1 := (hb3.cell (World.block_lt_of_cell? _ _ c1)).trans c1; have c2 := (hb3.cell (World.block_lt_of_cell? _ _ c2)).trans c2; clear hb3 hr HB; have HB := HBn; clear HBn)
    go_ret
    exact BoolP.yes (.inl HF.out) HB.out
  have HF := Aside0.mk hf
  clear hf
  obtain ⟨f1, f2, f3, f4, f5', _, _⟩ := HF.out
  have F5 := Aside0.mk f5'
  clear f5'
  by_cases h1 : x < 0
  · go_wp2_with (go_at_call 17; (with_reducible refine (formed_any W H _ c ws A' c' sp _ HC.out.1 HC.out.2.2.1 HC.out.2.1 HC.out.2.2.2).mono ?_); rintro e w3 ⟨r, he, hr, hb3⟩; obtain rfl : r = true := hr.2 HF.out; subst he; have HBn := Aside0.mk (HB.out.trans (hb3.mono HB.out.size)); have c0 := (hb3.cell (World.block_lt_of_cell? _ _ c0)).trans c0; have c1 := (hb3.cell (World.block_lt_of_cell? _ _ c1)).trans c1; have c2 := (hb3.cell (World.block_lt_of_cell? _ _ c2)).trans c2; clear hb3 hr HB; have HB := HBn; clear HBn)
    go_ret
    exact BoolP.yes (.inr (.inl h1)) HB.out
  by_cases h2 : y < 0
  · go_wp2_with (go_at_call 17; (with_reducible refine (formed_any W H _ c ws A' c' sp _ HC.out.1 HC.out.2.2.1 HC.out.2.1 HC.out.2.2.2).mono ?_); rintro e w3 ⟨r, he, hr, hb3⟩; obtain rfl : r = true := hr.2 HF.out; subst he; have HBn := Aside0.mk (HB.out.trans (hb3.mono HB.out.size)); have c0 := (hb3.cell (World.block_lt_of_cell? _ _ c0)).trans c0; have c1 := (hb3.cell (World.block_lt_of_cell? _ _ c1)).trans c1; have c2 := (hb3.cell (World.block_lt_of_cell? _ _ c2)).trans c2; clear hb3 hr HB; have HB := HBn; clear HBn)
    go_ret
    exact BoolP.yes (.inr (.inr (.inl h2))) HB.out
  by_cases h3 : W ≤ x
  · go_wp2_with (go_at_call 17; (with_reducible refine (formed_any W H _ c ws A' c' sp _ HC.out.1 HC.out.2.2.1 HC.out.2.1 HC.out.2.2.2).mono ?_); rintro e w3 ⟨r, he, hr, hb3⟩; obtain rfl : r = true := hr.2 HF.out; subst he; have HBn := Aside0.mk (HB.out.trans (hb3.mono HB.out.size)); have c0 := (hb3.cell (World.block_lt_of_cell? _ _ c0)).trans c0; have c1 := (hb3.cell (World.block_lt_of_cell? _ _ c1)).trans c1; have c2 := (hb3.cell (World.block_lt_of_cell? _ _ c2)).trans c2; clear hb3 hr HB; have HB := HBn; clear HBn)
    go_ret
    exact BoolP.yes (.inr (.inr (.inr (.inl h3)))) HB.out
  by_cases h4 : H ≤ y
  · go_wp2_with (go_at_call 17; (with_reducible refine (formed_any W H _ c ws A' c' sp _ HC.out.1 HC.out.2.2.1 HC.out.2.1 HC.out.2.2.2).mono ?_); rintro e w3 ⟨r, he, hr, hb3⟩; obtain rfl : r = true := hr.2 HF.out; subst he; have HBn := Aside0.mk (HB.out.trans (hb3.mono HB.out.size)); have c0 := (hb3.cell (World.block_lt_of_cell? _ _ c0)).trans c0; have c1 := (hb3.cell (World.block_lt_of_cell? _ _ c1)).trans c1; have c2 := (hb3.cell (World.block_lt_of_cell? _ _ c2)).trans c2; clear hb3 hr HB; have HB := HBn; clear HBn)
    go_ret
    exact BoolP.yes (.inr (.inr (.inr (.inr (.inl h4))))) HB.out
  obtain ⟨m1, m2, m3, m4⟩ := idx_small (W := W) (H := H) (show 0 ≤ x by omega) (show x < W by omega) (show 0 ≤ y by omega) (show y < H by omega) f2 f4
  obtain ⟨M, hM⟩ : ∃ M, y * W = M := ⟨_, rfl⟩
  rw [hM] at m1 m2 m3 m4
  have m5 : M + x < (ws.length : Int) := by have := F5.out; omega
  have HTt : Aside0 (tileB W ws x y = rdOf false ws (M + x)) := ⟨by unfold tileB; rw [hM]⟩
  obtain ⟨adw, e, u0⟩ := Kd.at_bool HC.out.1 (M + x) m1 m5
  cases e
  obtain ⟨b, hb⟩ : ∃ b, rdOf false ws (M + x) = b := ⟨_, rfl⟩
  rw [hb] at u0
  have HTb : Aside0 (tileB W ws x y = b) := ⟨by rw [HTt.out]; exact hb⟩
  clear hb HTt
  have hwm : IntKind.i64.wrap (y * W) = M := by rw [hM, i64_w]; exact w64 M (by omega)
  clear hM m2
  have HR : Aside0 (b = false → ¬ WallP W H ws sp x y) := ⟨fun hb h => by
    rcases h with h | h | h | h | h | h
    · exact h HF.out
    · omega
    · omega
    · omega
    · omega
    · rw [HTb.out, hb] at h; cases h⟩
  have z1 : decide (x < 0) = false := decide_eq_false h1
  have z2 : decide (y < 0) = false := decide_eq_false h2
  have z3 : decide (W ≤ x) = false := decide_eq_false h3
  have z4 : decide (H ≤ y) = false := decide_eq_false h4
  cases b with
  | true =>
    go_wp2_with (go_at_call 17; (with_reducible refine (formed_any W H _ c ws A' c' sp _ HC.out.1 HC.out.2.2.1 HC.out.2.1 HC.out.2.2.2).mono ?_); rintro e w3 ⟨r, he, hr, hb3⟩; obtain rfl : r = true := hr.2 HF.out; subst he; have HBn := Aside0.mk (HB.out.trans (hb3.mono HB.out.size)); have c0 := (hb3.cell (World.block_lt_of_cell? _ _ c0)).trans c0; have c1 := (hb3.cell (World.block_lt_of_cell? _ _ c1)).trans c1; have c2 := (hb3.cell (World.block_lt_of_cell? _ _ c2)).trans c2; have u0 := (hb3.cell (World.block_lt_of_cell? _ _ u0)).trans u0; clear hb3 hr HB; have HB := HBn; clear HBn)
    go_ret
    exact BoolP.yes (.inr (.inr (.inr (.inr (.inr HTb.out))))) HB.out
  | false =>
    go_wp2_with (go_at_call 17; (with_reducible refine (formed_any W H _ c ws A' c' sp _ HC.out.1 HC.out.2.2.1 HC.out.2.1 HC.out.2.2.2).mono ?_); rintro e w3 ⟨r, he, hr, hb3⟩; obtain rfl : r = true := hr.2 HF.out; subst he; have HBn := Aside0.mk (HB.out.trans (hb3.mono HB.out.size)); have c0 := (hb3.cell (World.block_lt_of_cell? _ _ c0)).trans c0; have c1 := (hb3.cell (World.block_lt_of_cell? _ _ c1)).trans c1; have c2 := (hb3.cell (World.block_lt_of_cell? _ _ c2)).trans c2; have u0 := (hb3.cell (World.block_lt_of_cell? _ _ u0)).trans u0; clear hb3 hr HB; have HB := HBn; clear HBn)
    go_ret
    exact BoolP.no (HR.out (by trivial)) HB.out
end Go.Proofs.Ytgppnfnbihngnaa.Tiles
