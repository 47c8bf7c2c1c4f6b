import Derived.Test.YtgppnfnbihngnaaTMem
set_option linter.unusedVariables false
set_option linter.unusedSimpArgs false
namespace Go.Proofs.Ytgppnfnbihngnaa.Tiles
open Go.RowKit Go.Proofs.YtgppnfnbihngnaaW.PrintWords Go.Proofs.YtgppnfnbihngnaaW.PrintLast Go.Proofs.YtgppnfnbihngnaaW.PrintMore Go.Proofs.Ytgppnfnbihngnaa.PTilesFree

def endF (s : ByteArray) (x : Int) (m : TM) : TM × Int × Int := if 0 < x ∨ (m.sp.length : Int) = 0 then (TM.zero, (s.size : Int), 2) else (m, 0, 0)
/-- One sign more, or none. -/
def stepF (c x : Int) (m : TM) : Option (Int × TM) :=
  if c = 10 then (if x = 0 ∨ (x < m.W ∧ 0 < m.H) then none else some (0, { m with W := x, H := m.H + 1 }))
  else if (¬ c = 9608 ∧ ¬ c = 183 ∧ ¬ c = 9678) ∨ m.H = 32 ∨ x = 32 ∨ (0 < m.H ∧ x = m.W) then none
  else some (x + 1, { m with ws := m.ws ++ [c == 9608], sp := if c = 9678 then m.sp ++ [midF x m.H] else m.sp })
def readF (s : ByteArray) : Nat → Nat → Int → TM → TM × Int × Int
  | 0, _, x, m => endF s x m
  | k + 1, pos, x, m => if pos < s.size then (match stepF (Utf8.decode s pos).1 x m with | none => (TM.zero, (pos : Int), 2) | some (x', m') => readF s k (pos + (Utf8.decode s pos).2) x' m') else endF s x m
/-- What tiles.Read answers. -/
def tread (s : ByteArray) : TM × Int × Int := readF s s.size 0 0 TM.zero
def Fit (pos : Nat) (x : Int) (m : TM) : Prop := 0 ≤ x ∧ x ≤ 32 ∧ 0 ≤ m.H ∧ m.H ≤ 32 ∧ (m.H = 32 → x = 0) ∧ 0 ≤ m.W ∧ m.W ≤ 32 ∧ m.ws.length ≤ pos ∧ m.sp.length ≤ pos
theorem Fit.zero : Fit 0 0 TM.zero := ⟨by decide, by decide, by decide, by decide, by decide, by decide, by decide, by decide, by decide⟩
theorem Fit.step {pos n : Nat} {x x' c : Int} {m m' : TM} (h : Fit pos x m) (hn : 1 ≤ n) (hs : stepF c x m = some (x', m')) : Fit (pos + n) x' m' := by
  obtain ⟨a1, a2, a3, a4, a5, a6, a7, a8, a9⟩ := h
  unfold stepF at hs
  split at hs
  · split at hs
    · cases hs
    · rename_i hx
      simp only [Option.some.injEq, Prod.mk.injEq] at hs
      obtain ⟨rfl, rfl⟩ := hs
      have : m.H ≠ 32 := fun e => hx (.inl (a5 e))
      exact ⟨by omega, by omega, by show 0 ≤ m.H + 1; omega, by show m.H + 1 ≤ 32; omega, fun _ => rfl, a1, a2, by show m.ws.length ≤ _; omega, by show m.sp.length ≤ _; omega⟩
  · split at hs
    · cases hs
    · rename_i _ hx
      simp only [Option.some.injEq, Prod.mk.injEq] at hs
      obtain ⟨rfl, rfl⟩ := hs
      refine ⟨by omega, by omega, a3, a4, ?_, a6, a7, ?_, ?_⟩
      · intro e; have : m.H = 32 := e; omega
      · show (m.ws ++ [_]).length ≤ _; simp; omega
      · show (if c = 9678 then m.sp ++ [midF x m.H] else m.sp).length ≤ _
        split <;> (try simp) <;> omega
theorem width_pos (s : ByteArray) (pos : Nat) (h : pos < s.size) : 1 ≤ (Utf8.decode s pos).2 := by
  by_cases ha : (s[pos]'h).toNat < 128
  · rw [decode_ascii s pos h ha]
    exact Nat.le_refl _
  · exact (decode_high s pos h (by omega)).2
end Go.Proofs.Ytgppnfnbihngnaa.Tiles
