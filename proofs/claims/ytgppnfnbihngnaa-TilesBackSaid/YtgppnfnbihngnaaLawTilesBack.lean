/- The row of the law 'TilesBack': called with whatever arguments it returns true, and they read as they did; without conditions. -/
import Derived.Test.YtgppnfnbihngnaaRows
import Derived.Test.YtgppnfnbihngnaaTBack
import Derived.Test.YtgppnfnbihngnaaTArgs
import Derived.WalkKit
import Derived.ProofKit
import Derived.OpenShut
import Derived.ShutString
import Derived.ChangeOld
import Derived.Below
import Derived.Carry
import Derived.SizedLaws
namespace Go.Proofs.Ytgppnfnbihngnaa.tilesBack
open Go.ChangeShapes Go.WideShapes Go.ChangeAt Go.RowKit
set_option linter.unusedVariables false
theorem own : ownKnob Try.prog.godebug = none := by kernel_rfl
theorem laid : laidOutB Try.prog = true := by kernel_rfl
set_option maxRecDepth 100000 in
theorem lifted (os : Os) (started : os.Started) (H : Type) (enc : TypeId × Value → H) :
    ReturnsInHanded {} Try.checked os 8 .any (Rows.tilesBackSpec.pre6 enc Try.prog Try.f8 Rows.tilesBackRow.domain false) (Rows.tilesBackSpec.post enc Try.prog Try.f8 false true false false) := by
  refine returnsInHanded_of_change_sized (C := Try.checked) own started (by kernel_rfl) Try.func8
    (ChangeSpec.witness6 (enc := enc) (C := Try.checked) false ⟨#[], #[.string ⟨#[]⟩, .agg #[.int .i64 0, .int .i64 0, .slice none 0 0, .slice none 0 0]], []⟩ 8 (by kernel_rfl) (by kernel_rfl) (by kernel_rfl) (by kernel_rfl)) ?_
  intro W base args ds gs before hval0 hW hcnd hsz0 _
  have hval : ∀ (j : Nat) t v, Try.f8.params[j]? = some t → args[j]? = some v → Value.okWide Try.prog W .any base t v := hval0
  have hW' := hW
  obtain ⟨p, q, hA0, hV, rfl, hfz, hnd⟩ := hW
  have hA : DataW.TrodAll enc Try.prog W 0 (fun _ => true) true Try.f8.params.toList args.toList ds p := hA0
  have hlt := DataW.TrodAll.lt hA
  rw [Try.params8] at hA hval
  obtain ⟨v0, vs0, d0, ds0, p0, q0, hargs, rfl, rfl, h0, r0⟩ := trodAll_cons hA
  obtain ⟨v1, vs1, d1, ds1, p1, q1, rfl, rfl, rfl, h1, r1⟩ := trodAll_cons r0
  obtain ⟨rfl, rfl, rfl⟩ := trodAll_nil r1
  obtain rfl : args = #[v0, v1] := by cases args; simp_all
  obtain ⟨rfl, rfl⟩ := trodVars_none hV
  have k0 := h0
  have k1 := h1
  obtain ⟨s, rfl⟩ := Go.WideShapes.okWide_string Try.underlying9 (hval 0 9 v0 rfl rfl)
  obtain ⟨W0, H0, A0, c0, A0', c0', ws, sp, rfl, hC0, hc0, hC0', hc0'⟩ := Tiles.map_arg (hval 1 26 v1 rfl rfl) h1
  clear hA0 hval0
  refine (Tiles.back_walk s W0 H0 A0 c0 ws A0' c0' sp W hC0 hc0 hC0' hc0').mono fun e W' ⟨he, bel⟩ => ?_
  subst he
  exact ⟨_, rfl, _, _, _, [], _, [], hW', trodAll_mk1 (shut_bool Try.underlying4 _), (trodAll_cons_mk (Below.trod laid (by kernel_rfl) (of_decide_eq_true (by kernel_rfl)) k0 bel (fun x hx => by first | (simp at hx; done) | exact hlt x (by simp [hx]))) (trodAll_cons_mk (Below.trod laid (by kernel_rfl) (of_decide_eq_true (by kernel_rfl)) k1 bel (fun x hx => by first | (simp at hx; done) | exact hlt x (by simp [hx]))) trodAll_mk0)), rfl, bel.frame _, fun h => by cases h⟩
theorem over : Rows.tilesBackRow.holds Try.pinned (OpenSpec.ofChange Rows.tilesBackSpec) :=
  OpenClaim.holds_of_wide 8 Try.f8 rfl rfl rfl rfl rfl rfl rfl ⟨rfl, rfl, rfl, rfl, rfl⟩ rfl rfl rfl rfl rfl (by kernel_rfl) Try.func8 (by kernel_rfl)
    (of_decide_eq_true (by kernel_rfl)) (by unfold Func.isWrapper; first | (rw [if_pos (by decide +kernel)]; kernel_rfl) | (rw [if_neg (by decide +kernel)]; exact ⟨rfl, rfl⟩))
    (fun os started H enc _ => lifted os started H enc)
theorem proved : Rows.TilesBackSaid := over
end Go.Proofs.Ytgppnfnbihngnaa.tilesBack
namespace Go.Proofs.Ytgppnfnbihngnaa
/-- The row, under a short name, for the claim. -/
theorem tilesBack_holds : Rows.TilesBackSaid := tilesBack.proved
end Go.Proofs.Ytgppnfnbihngnaa
