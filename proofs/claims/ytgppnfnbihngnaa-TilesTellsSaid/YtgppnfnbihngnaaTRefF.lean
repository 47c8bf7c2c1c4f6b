import Derived.Test.YtgppnfnbihngnaaTRefT
import Derived.Test.YtgppnfnbihngnaaTForm
set_option linter.unusedVariables false
set_option linter.unusedSimpArgs false
namespace Go.Proofs.Ytgppnfnbihngnaa.Tiles
open Go.RowKit Go.Proofs.YtgppnfnbihngnaaW.PrintWords Go.Proofs.YtgppnfnbihngnaaW.PrintLast Go.Proofs.YtgppnfnbihngnaaW.PrintMore Go.Proofs.Ytgppnfnbihngnaa.PTilesFree

set_option maxHeartbeats 4000000 in
set_option maxRecDepth 100000 in
theorem refformed_any (W H : Int) (A : Option Addr) (c : Nat) (ws : List Bool) (A' : Option Addr) (c' : Nat) (sp : List S39) (w : World) (hsp : sp.length ≤ 1100) (hC : Kd.C Kd.bool w A ws.length ws) (hc : ws.length ≤ c) (hC' : Kd.C k39 w A' sp.length sp) (hc' : sp.length ≤ c') :
    Calls Try.prog 21 #[.agg #[.int .i64 W, .int .i64 H, .slice A ws.length c, .slice A' sp.length c']] w (BoolP (FormP W H ws sp) w) := by
  have hu30 := Try.underlying30
  have HSP := Aside0.mk hsp
  have HB : Aside0 (Below w.heap.size w (w.alloc (.cells #[.int .i64 W, .int .i64 H, .slice A ws.length c, .slice A' sp.length c'] 30 (0, 0)))) := ⟨below_alloc (Below.refl _ _) _⟩
  have HM := Aside0.mk (blk_new w (.cells #[.int .i64 W, .int .i64 H, .slice A ws.length c, .slice A' sp.length c'] 30 (0, 0)))
  have HC := Aside0.mk (And.intro (Kd.C_alloc hC (.cells #[.int .i64 W, .int .i64 H, .slice A ws.length c, .slice A' sp.length c'] 30 (0, 0))) (And.intro (Kd.C_alloc hC' (.cells #[.int .i64 W, .int .i64 H, .slice A ws.length c, .slice A' sp.length c'] 30 (0, 0))) (And.intro hc hc')))
  clear hC hc hC' hc' hsp
  go_enter Try.func21, Try.ntmps21
  go_upto_region 1 with fail
  generalize w.alloc (.cells #[.int .i64 W, .int .i64 H, .slice A ws.length c, .slice A' sp.length c'] 30 (0, 0)) = W1 at *
  obtain ⟨B, hB⟩ : ∃ X, w.heap.size = X := ⟨_, rfl⟩
  rw [hB] at HM
  rw [hB]
  have HBB := Aside0.mk hB
  clear hB
  have c0 : W1.cell? ⟨B, 0, none⟩ = some (.int .i64 W) := (blk_cell HM.out 0).trans rfl
  have c1 : W1.cell? ⟨B, 1, none⟩ = some (.int .i64 H) := (blk_cell HM.out 1).trans rfl
  have c2 : W1.cell? ⟨B, 2, none⟩ = some (.slice A ws.length c) := (blk_cell HM.out 2).trans rfl
  have c3 : W1.cell? ⟨B, 3, none⟩ = some (.slice A' sp.length c') := (blk_cell HM.out 3).trans rfl
  by_cases hf : FormP W H ws sp
  · have HF := Aside0.mk hf
    clear hf
    go_wp2_with (go_at_call 20; (with_reducible refine (reftext_any W H A c ws A' c' sp _ HSP.out HC.out.1 HC.out.2.2.1 HC.out.2.1 HC.out.2.2.2).mono ?_); rintro e w3 ⟨s, er, he, hw, hb3⟩; subst he; obtain rfl : er = 0 := (by rcases hw with ⟨_, _, h⟩ | ⟨h, _, _⟩; exact h; exact absurd HF.out h); have HB3 := Aside0.mk (HB.out.trans (hb3.mono HB.out.size)); clear hb3 hw)
    go_ret
    exact BoolP.yes HF.out HB3.out
  · have HF := Aside0.mk hf
    clear hf
    go_wp2_with (go_at_call 20; (with_reducible refine (reftext_any W H A c ws A' c' sp _ HSP.out HC.out.1 HC.out.2.2.1 HC.out.2.1 HC.out.2.2.2).mono ?_); rintro e w3 ⟨s, er, he, hw, hb3⟩; subst he; obtain rfl : er = 1 := (by rcases hw with ⟨h, _, _⟩ | ⟨_, _, h⟩; exact absurd h HF.out; exact h); have HB3 := Aside0.mk (HB.out.trans (hb3.mono HB.out.size)); clear hb3 hw)
    go_ret
    exact BoolP.no HF.out HB3.out
end Go.Proofs.Ytgppnfnbihngnaa.Tiles
