/- The row of the law 'BoxFirst': called with whatever arguments it returns true, and they read as they did; without conditions. -/
import Derived.Test.YtjbeiingfcfdbaaRows
import Derived.Test.YtjbeiingfcfdbaaPureBoxFirst
import Derived.Test.YtjbeiingfcfdbaaFrame
import Derived.WalkKit
import Derived.ProofKit
import Derived.OpenShut
import Derived.ShutString
import Derived.ChangeOld
import Derived.Below
import Derived.Carry
import Derived.SizedLaws
namespace Go.Proofs.Ytjbeiingfcfdbaa.boxFirst
open Go.ChangeShapes Go.WideShapes Go.ChangeAt Go.RowKit
set_option linter.unusedVariables false
theorem own : ownKnob Try.prog.godebug = none := by kernel_rfl
theorem laid : laidOutB Try.prog = true := by kernel_rfl
set_option maxRecDepth 100000 in
theorem lifted (os : Os) (started : os.Started) (H : Type) (enc : TypeId × Value → H) :
    ReturnsInHanded {} Try.checked os 8 .any (Rows.boxFirstSpec.pre6 enc Try.prog Try.f8 Rows.boxFirstRow.domain false) (Rows.boxFirstSpec.post enc Try.prog Try.f8 false true false false) := by
  refine returnsInHanded_of_change_sized (C := Try.checked) own started (by kernel_rfl) Try.func8
    (ChangeSpec.witness6 (enc := enc) (C := Try.checked) false ⟨#[], #[.agg #[.int .i64 0, .int .i64 0], .agg #[.int .i64 0, .int .i64 0], .agg #[.int .i64 0, .int .i64 0, .int .i64 0, .int .i64 0]], []⟩ 8 (by kernel_rfl) (by kernel_rfl) (by kernel_rfl) (by kernel_rfl)) ?_
  intro W base args ds gs before hval0 hW hcnd hsz0 _
  have hval : ∀ (j : Nat) t v, Try.f8.params[j]? = some t → args[j]? = some v → Value.okWide Try.prog W .any base t v := hval0
  have hW' := hW
  obtain ⟨p, q, hA0, hV, rfl, hfz, hnd⟩ := hW
  have hA : DataW.TrodAll enc Try.prog W 0 (fun _ => true) true Try.f8.params.toList args.toList ds p := hA0
  rw [Try.params8] at hA hval
  obtain ⟨v0, vs0, d0, ds0, p0, q0, hargs, rfl, rfl, h0, r0⟩ := trodAll_cons hA
  obtain ⟨v1, vs1, d1, ds1, p1, q1, rfl, rfl, rfl, h1, r1⟩ := trodAll_cons r0
  obtain ⟨v2, vs2, d2, ds2, p2, q2, rfl, rfl, rfl, h2, r2⟩ := trodAll_cons r1
  obtain ⟨rfl, rfl, rfl⟩ := trodAll_nil r2
  obtain rfl : args = #[v0, v1, v2] := by cases args; simp_all
  obtain ⟨rfl, rfl⟩ := trodVars_none hV
  have k0 := h0
  have k1 := h1
  have k2 := h2
  obtain ⟨a0_0, a0_1, rfl, w0_0, w0_1, rfl⟩ := Frame.open_vec Try.underlying29 rfl rfl rfl rfl Try.underlying27 (by kernel_rfl) (by kernel_rfl) (hval 0 29 v0 rfl rfl) h0
  obtain ⟨a1_0, a1_1, rfl, w1_0, w1_1, rfl⟩ := Frame.open_vec Try.underlying29 rfl rfl rfl rfl Try.underlying27 (by kernel_rfl) (by kernel_rfl) (hval 1 29 v1 rfl rfl) h1
  obtain ⟨a2_0, a2_1, a2_2, a2_3, rfl, w2_0, w2_1, w2_2, w2_3, rfl⟩ := Frame.open_box Try.underlying31 rfl rfl rfl rfl Try.underlying29 rfl rfl rfl rfl Try.underlying27 (by kernel_rfl) (by kernel_rfl) (by kernel_rfl) (hval 2 31 v2 rfl rfl) h2
  clear hA0 hval0
  refine (PBoxFirst.ricochetlaw03_BoxFirst.calls a0_0 a0_1 a1_0 a1_1 a2_0 a2_1 a2_2 a2_3 W w0_0 w0_1 w1_0 w1_1 w2_0 w2_1 w2_2 w2_3).mono fun e W' ⟨he, bel⟩ => ?_
  subst he
  exact ⟨_, rfl, _, _, _, [], _, [], hW', trodAll_mk1 (shut_bool Try.underlying4 _), (trodAll_cons_mk (Below.trod laid (by kernel_rfl) (of_decide_eq_true (by kernel_rfl)) k0 bel (by simp)) (trodAll_cons_mk (Below.trod laid (by kernel_rfl) (of_decide_eq_true (by kernel_rfl)) k1 bel (by simp)) (trodAll_cons_mk (Below.trod laid (by kernel_rfl) (of_decide_eq_true (by kernel_rfl)) k2 bel (by simp)) trodAll_mk0))), rfl, bel.frame _, fun h => by cases h⟩
theorem over : Rows.boxFirstRow.holds Try.pinned (OpenSpec.ofChange Rows.boxFirstSpec) :=
  OpenClaim.holds_of_wide 8 Try.f8 rfl rfl rfl rfl rfl rfl rfl ⟨rfl, rfl, rfl, rfl, rfl⟩ rfl rfl rfl rfl rfl (by kernel_rfl) Try.func8 (by kernel_rfl)
    (of_decide_eq_true (by kernel_rfl)) (by unfold Func.isWrapper; first | (rw [if_pos (by decide +kernel)]; kernel_rfl) | (rw [if_neg (by decide +kernel)]; exact ⟨rfl, rfl⟩))
    (fun os started H enc _ => lifted os started H enc)
theorem proved : Rows.BoxFirstSaid := over
end Go.Proofs.Ytjbeiingfcfdbaa.boxFirst
namespace Go.Proofs.Ytjbeiingfcfdbaa
/-- The row, under a short name, for the claim. -/
theorem boxFirst_holds : Rows.BoxFirstSaid := boxFirst.proved
end Go.Proofs.Ytjbeiingfcfdbaa
