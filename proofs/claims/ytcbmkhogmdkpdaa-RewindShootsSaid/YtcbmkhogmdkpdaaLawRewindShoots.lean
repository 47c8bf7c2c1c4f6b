/- The row of the law 'RewindShoots': called with whatever arguments it returns true, and they read as they did; without conditions. -/
import Derived.Test.YtcbmkhogmdkpdaaRows
import Derived.Test.YtcbmkhogmdkpdaaRArgs3
import Derived.Test.YtcbmkhogmdkpdaaRShoots
import Derived.WalkKit
import Derived.ProofKit
import Derived.OpenShut
import Derived.ShutString
import Derived.ChangeOld
import Derived.Below
import Derived.Carry
import Derived.SizedLaws
namespace Go.Proofs.Ytcbmkhogmdkpdaa.rewindShoots
open Go.ChangeShapes Go.WideShapes Go.ChangeAt Go.RowKit
set_option linter.unusedVariables false
theorem own : ownKnob Try.prog.godebug = none := by kernel_rfl
theorem laid : laidOutB Try.prog = true := by kernel_rfl
set_option maxRecDepth 100000 in
theorem lifted (os : Os) (started : os.Started) (H : Type) (enc : TypeId × Value → H) :
    ReturnsInHanded {} Try.checked os 3 .any (Rows.rewindShootsSpec.pre6 enc Try.prog Try.f3 Rows.rewindShootsRow.domain false) (Rows.rewindShootsSpec.post enc Try.prog Try.f3 false true false false) := by
  refine returnsInHanded_of_change_sized (C := Try.checked) own started (by kernel_rfl) Try.func3
    (ChangeSpec.witness6 (enc := enc) (C := Try.checked) false ⟨#[], #[.agg #[.int .u16 0, .slice none 0 0], .agg #[.int .i64 0, .int .i64 0, .int .i64 0, .int .i64 0, .int .i64 0], .agg #[.int .i64 0, .int .u8 0]], []⟩ 8 (by kernel_rfl) (by kernel_rfl) (by kernel_rfl) (by kernel_rfl)) ?_
  intro W base args ds gs before hval0 hW hcnd hsz0 _
  have hval : ∀ (j : Nat) t v, Try.f3.params[j]? = some t → args[j]? = some v → Value.okWide Try.prog W .any base t v := hval0
  have hW' := hW
  obtain ⟨p, q, hA0, hV, rfl, hfz, hnd⟩ := hW
  have hA : DataW.TrodAll enc Try.prog W 0 (fun _ => true) true Try.f3.params.toList args.toList ds p := hA0
  have hlt := DataW.TrodAll.lt hA
  rw [Try.params3] at hA hval
  obtain ⟨v0, vs0, d0, ds0, p0, q0, hargs, rfl, rfl, h0, r0⟩ := trodAll_cons hA
  obtain ⟨v1, vs1, d1, ds1, p1, q1, rfl, rfl, rfl, h1, r1⟩ := trodAll_cons r0
  obtain ⟨v2, vs2, d2, ds2, p2, q2, rfl, rfl, rfl, h2, r2⟩ := trodAll_cons r1
  obtain ⟨rfl, rfl, rfl⟩ := trodAll_nil r2
  obtain rfl : args = #[v0, v1, v2] := by cases args; simp_all
  obtain ⟨rfl, rfl⟩ := trodVars_none hV
  have k0 := h0
  have k1 := h1
  have k2 := h2
  obtain ⟨from_, A0, n0, c0, rfl, hf0, _, xs, hC0, hxs⟩ := Ring.past_arg (hval 0 25 v0 rfl rfl) h0
  obtain ⟨sh, fx, fy, dx, dy, rfl⟩ := Ring.ray_arg (hval 1 30 v1 rfl rfl) h1
  obtain ⟨tick, part, rfl, hp⟩ := Ring.view_arg (hval 2 32 v2 rfl rfl) h2
  clear hA0 hval0
  refine (Ring.shoots_walk from_ A0 n0 c0 xs sh fx fy dx dy tick part W hC0 hf0 hxs hp).mono fun e W' ⟨he, bel⟩ => ?_
  subst he
  exact ⟨_, rfl, _, _, _, [], _, [], hW', trodAll_mk1 (shut_bool Try.underlying4 _), (trodAll_cons_mk (Below.trod laid (by kernel_rfl) (of_decide_eq_true (by kernel_rfl)) k0 bel (fun x hx => by first | (simp at hx; done) | exact hlt x (by simp [hx]))) (trodAll_cons_mk (Below.trod laid (by kernel_rfl) (of_decide_eq_true (by kernel_rfl)) k1 bel (fun x hx => by first | (simp at hx; done) | exact hlt x (by simp [hx]))) (trodAll_cons_mk (Below.trod laid (by kernel_rfl) (of_decide_eq_true (by kernel_rfl)) k2 bel (fun x hx => by first | (simp at hx; done) | exact hlt x (by simp [hx]))) trodAll_mk0))), rfl, bel.frame _, fun h => by cases h⟩
theorem over : Rows.rewindShootsRow.holds Try.pinned (OpenSpec.ofChange Rows.rewindShootsSpec) :=
  OpenClaim.holds_of_wide 3 Try.f3 rfl rfl rfl rfl rfl rfl rfl ⟨rfl, rfl, rfl, rfl, rfl⟩ rfl rfl rfl rfl rfl (by kernel_rfl) Try.func3 (by kernel_rfl)
    (of_decide_eq_true (by kernel_rfl)) (by unfold Func.isWrapper; first | (rw [if_pos (by decide +kernel)]; kernel_rfl) | (rw [if_neg (by decide +kernel)]; exact ⟨rfl, rfl⟩))
    (fun os started H enc _ => lifted os started H enc)
theorem proved : Rows.RewindShootsSaid := over
end Go.Proofs.Ytcbmkhogmdkpdaa.rewindShoots
namespace Go.Proofs.Ytcbmkhogmdkpdaa
/-- The row, under a short name, for the claim. -/
theorem rewindShoots_holds : Rows.RewindShootsSaid := rewindShoots.proved
end Go.Proofs.Ytcbmkhogmdkpdaa
