import Derived.Test.YtcbmkhogmdkpdaaRMeetA
set_option linter.unusedVariables false
set_option linter.unusedSimpArgs false
namespace Go.Proofs.Ytcbmkhogmdkpdaa.Ring
open Go.RowKit Go.ChangeMaps Go.Proofs.YtcbmkhogmdkpdaaW.PrintWords Go.Proofs.YtcbmkhogmdkpdaaW.PrintLast Go.Proofs.YtcbmkhogmdkpdaaW.PrintMore Go.Proofs.Ytcbmkhogmdkpdaa.PRewindNone Go.Proofs.Ytcbmkhogmdkpdaa.MapI Go.Proofs.Ytcbmkhogmdkpdaa.Plain Go.Proofs.Ytcbmkhogmdkpdaa.Pure
/-- The reference's step, in whole numbers. -/
def refHit (m : (Int × Int) × Bool) (id : Int) (st : Int × Int × Int) : Int × Int × Int := if m.2 = true ∧ (st.1 < 0 ∨ m.1.1 * st.2.2 < st.2.1 * m.1.2 ∨ (m.1.1 * st.2.2 = st.2.1 * m.1.2 ∧ id < st.1)) then (id, m.1) else st
def refStep (fx fy tx ty : Int) (pl : Int → Option (Int × Int)) (shooter : Int) (st : Int × Int × Int) (id : Int) : Int × Int × Int :=
  match pl id with
  | none => st
  | some p => if id = shooter then st else refHit (meetF fx fy tx ty p) id st
theorem refStep_eq {fx fy tx ty shooter : Int} {pl : Int → Option (Int × Int)} {done : List Int} {st : Int × Int × Int} (h : Hit fx fy tx ty shooter pl done st) (id : Int) : refStep fx fy tx ty pl shooter st id = shotStep fx fy tx ty pl shooter st id := by
  unfold refStep shotStep
  cases hp : pl id with
  | none => simp
  | some p =>
    by_cases hs : id = shooter
    · simp [hs]
    · simp only [if_neg hs]
      unfold refHit hitStep
      by_cases hm : (meetF fx fy tx ty p).2 = true
      · have r := meetF_right hm
        rcases h with ⟨h1, _⟩ | ⟨h0, h1, q, h2, h3, h4, _⟩
        · rw [if_pos ⟨hm, .inl (by omega)⟩, if_pos ⟨hm, .inl h1⟩]
        · have r2 := meetF_right h3
          rw [← h4] at r2
          have e1 : (ahd (meetF fx fy tx ty p).1 st.2 = true) ↔ (meetF fx fy tx ty p).1.1 * st.2.2 < st.2.1 * (meetF fx fy tx ty p).1.2 := by rw [ahd_ok r r2, decide_eq_true_iff]
          have e2 : (ahd st.2 (meetF fx fy tx ty p).1 = false) ↔ ¬ st.2.1 * (meetF fx fy tx ty p).1.2 < (meetF fx fy tx ty p).1.1 * st.2.2 := by rw [ahd_ok r2 r, decide_eq_false_iff_not]
          generalize (meetF fx fy tx ty p).1.1 * st.2.2 = u at *
          generalize st.2.1 * (meetF fx fy tx ty p).1.2 = v at *
          by_cases hc : u < v ∨ (u = v ∧ id < st.1)
          · rw [if_pos ⟨hm, .inr hc⟩, if_pos]
            refine ⟨hm, .inr ?_⟩
            rcases hc with hc | ⟨hc, hi⟩
            · exact .inl (e1.2 hc)
            · exact .inr ⟨e2.2 (by omega), hi⟩
          · rw [if_neg, if_neg]
            · rintro ⟨_, hx | hx | ⟨hx, hi⟩⟩
              · omega
              · exact hc (.inl (e1.1 hx))
              · have := e2.1 hx
                by_cases hu : u < v
                · exact hc (.inl hu)
                · exact hc (.inr ⟨by omega, hi⟩)
            · rintro ⟨_, hx | hx⟩
              · omega
              · exact hc hx
      · rw [if_neg (fun h => hm h.1), if_neg (fun h => hm h.1)]
theorem refFold_eq (fx fy tx ty shooter : Int) (pl : Int → Option (Int × Int)) : ∀ (l done : List Int) (st : Int × Int × Int), Hit fx fy tx ty shooter pl done st → (∀ id, id ∈ l → 1 ≤ id) → l.foldl (refStep fx fy tx ty pl shooter) st = l.foldl (shotStep fx fy tx ty pl shooter) st
  | [], _, _, _, _ => rfl
  | id :: l, done, st, h, hid => by
    simp only [List.foldl_cons]
    rw [refStep_eq h]
    exact refFold_eq fx fy tx ty shooter pl l (done ++ [id]) _ (hit_next h (hid id (by simp))) (fun x hx => hid x (by simp [hx]))
end Go.Proofs.Ytcbmkhogmdkpdaa.Ring
