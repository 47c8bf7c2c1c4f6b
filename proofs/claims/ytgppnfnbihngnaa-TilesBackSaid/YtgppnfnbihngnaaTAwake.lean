import Derived.Test.YtgppnfnbihngnaaTRead
set_option linter.unusedVariables false
set_option linter.unusedSimpArgs false
namespace Go.Proofs.Ytgppnfnbihngnaa.Tiles
open Go.RowKit Go.Proofs.YtgppnfnbihngnaaW.PrintWords Go.Proofs.YtgppnfnbihngnaaW.PrintLast Go.Proofs.YtgppnfnbihngnaaW.PrintMore Go.Proofs.Ytgppnfnbihngnaa.PTilesFree

theorem wake_read : tread ⟨#[226, 150, 136, 226, 151, 142, 10]⟩ = (⟨2, 1, [true, false], [midF 1 0]⟩, 0, 0) := by kernel_rfl
set_option maxHeartbeats 4000000 in
set_option maxRecDepth 100000 in
theorem awake_any (w : World) : Calls Try.prog 10 #[] w fun e w' => e = .returned (.bool true) ∧ Below w.heap.size w w' := by
  have HB := Aside0.mk (Below.refl w.heap.size w)
  have hu26 := Try.underlying26
  have hu39 := Try.underlying39
  go_enter Try.func10, Try.ntmps10
  go_upto_region 2 with (go_at_call 11; (with_reducible refine (read_any ⟨#[226, 150, 136, 226, 151, 142, 10]⟩ (by decide) _).mono ?_); rintro e w1 ⟨vA, vS, he, hb1, hA, hS⟩; rw [wake_read] at he hA hS; subst he; obtain ⟨A1, c1, rfl⟩ := Kd.R_slice hA; obtain ⟨A2, c2, rfl⟩ := Kd.R_slice hS; clear hA hS)
  go_wp2_with fail
  go_ret
  exact ⟨rfl, below_alloc hb1 _⟩
theorem readF_len (s : ByteArray) : ∀ (k pos : Nat) (x : Int) (m : TM), (readF s k pos x m).1.ws.length ≤ m.ws.length + k ∧ (readF s k pos x m).1.sp.length ≤ m.sp.length + k := by
  intro k
  induction k with
  | zero => intro pos x m; unfold readF endF; split <;> simp [TM.zero]
  | succ k ih =>
    intro pos x m
    unfold readF
    split
    · cases hs : stepF (Utf8.decode s pos).1 x m with
      | none => simp [TM.zero]
      | some r =>
        obtain ⟨x', m'⟩ := r
        dsimp only
        have h := ih (pos + (Utf8.decode s pos).2) x' m'
        have e : m'.ws.length ≤ m.ws.length + 1 ∧ m'.sp.length ≤ m.sp.length + 1 := by
          unfold stepF at hs
          split at hs
          · split at hs
            · cases hs
            · simp only [Option.some.injEq, Prod.mk.injEq] at hs
              obtain ⟨_, rfl⟩ := hs
              exact ⟨Nat.le_add_right _ _, Nat.le_add_right _ _⟩
          · split at hs
            · cases hs
            · simp only [Option.some.injEq, Prod.mk.injEq] at hs
              obtain ⟨_, rfl⟩ := hs
              refine ⟨by simp, ?_⟩
              dsimp only
              split <;> simp
        omega
    · unfold endF; split <;> simp [TM.zero]
theorem tread_len (s : ByteArray) : (tread s).1.ws.length ≤ s.size ∧ (tread s).1.sp.length ≤ s.size := by
  have h := readF_len s s.size 0 0 TM.zero
  unfold tread
  simpa [TM.zero] using h
end Go.Proofs.Ytgppnfnbihngnaa.Tiles
