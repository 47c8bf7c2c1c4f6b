import Derived.Test.YtcbmkhogmdkpdaaROpen
set_option linter.unusedVariables false
set_option linter.unusedSimpArgs false
namespace Go.Proofs.Ytcbmkhogmdkpdaa.Ring
open Go.RowKit Go.ChangeMaps Go.Proofs.YtcbmkhogmdkpdaaW.PrintWords Go.Proofs.YtcbmkhogmdkpdaaW.PrintLast Go.Proofs.YtcbmkhogmdkpdaaW.PrintMore Go.Proofs.Ytcbmkhogmdkpdaa.PRewindNone Go.Proofs.Ytcbmkhogmdkpdaa.MapI
theorem info51 : (Try.prog.info? 51).map (fun i => (i.zero, i.size, i.bytes)) = some (some (.agg #[.int .i64 0, .slice none 0 0]), 2, 32) := by kernel_rfl
/-- The reference's ring at block C. -/
def IsRef (w : World) (base C : Nat) (G : Nat → Prop) (its : List S51) : Prop :=
  its.length ≤ 64 ∧ base ≤ C ∧ G C ∧ ∃ v, w.heap[C]? = some (.cells #[v] 46 (0, 0)) ∧ k51.Q 51 w base G v its
section
variable {w W : World} {base C : Nat} {G G' : Nat → Prop} {its : List S51}
theorem IsRef.move (h : IsRef w base C G its) (hk : ∀ k, G k → k < w.heap.size → W.heap[k]? = w.heap[k]?) : IsRef W base C G its := by
  obtain ⟨hl, hb, hg, v, hB, hq⟩ := h
  exact ⟨hl, hb, hg, v, (hk C hg (blk_lt hB)).trans hB, Kd.Q_step hq hk⟩
theorem IsRef.below (h : IsRef w base C G its) (hb : Below w.heap.size w W) : IsRef W base C G its := h.move fun k _ hlt => hb.block k hlt
theorem IsRef.kept {S : Nat → Prop} (h : IsRef w base C G its) (hk : Kept w W S) (hne : ∀ k, G k → ¬ S k) : IsRef W base C G its := h.move fun k hf hlt => hk.2 k hlt (hne k hf)
theorem IsRef.foot (h : IsRef w base C G its) (hf : ∀ k, G k → G' k) : IsRef w base C G' its := by
  obtain ⟨hl, hb, hg, v, hB, hq⟩ := h
  exact ⟨hl, hb, hf _ hg, v, hB, Kd.Q_mono hq hf⟩
theorem IsRef.tight (h : IsRef w base C G its) : IsRef w base C (fun k => G k ∧ k < w.heap.size) its := by
  obtain ⟨hl, hb, hg, v, hB, hq⟩ := h
  exact ⟨hl, hb, ⟨hg, blk_lt hB⟩, v, hB, Kd.Q_mono (Kd.Q_bound hq) fun k hk => ⟨hk.1, hk.2.2.1⟩⟩
theorem new_ref (w : World) {base : Nat} {G : Nat → Prop} (hb : base ≤ w.heap.size) (hg : G w.heap.size) : IsRef (w.alloc (.cells #[.slice none 0 0] 46 (0, 0))) base w.heap.size G [] :=
  ⟨by simp, hb, hg, _, blk_new _ _, Kd.Q_nil _ _ _ _ _⟩
end
def ticksOf (its : List S51) : List Int := its.map (·.f0)
def listsOf (its : List S51) : List (List S67) := its.map (·.f1)
theorem first_ticks (its : List S51) (h : 0 < its.length) : (rd_T51 its 0).f0 = firstOf (ticksOf its) := by
  cases its with
  | nil => simp at h
  | cons x l => rfl
theorem last_ticks (its : List S51) (h : 0 < its.length) : (rd_T51 its ((its.length : Int) - 1)).f0 = lastOf (ticksOf its) := by
  rw [show ((its.length : Int) - 1) = ((its.length - 1 : Nat) : Int) by omega]
  simp only [rd_T51, lastOf, ticksOf, List.getLast?_map, List.getLast?_eq_getElem?, Int.toNat_natCast, List.getD]
  have e : its[its.length - 1]? = some its[its.length - 1] := List.getElem?_eq_getElem (by omega)
  simp [e]
theorem tick_cells {w : World} {base : Nat} {G : Nat → Prop} {v : Value} {its : List S51} (hq : k51.Q 51 w base G v its) (hp : 0 < its.length) :
    ∃ g o c, v = .slice (some ⟨g, o, none⟩) its.length c ∧ w.cell? ⟨g, o, none⟩ = some (.int .i64 (firstOf (ticksOf its))) ∧ w.cell? ⟨g, o + (its.length - 1) * 2, none⟩ = some (.int .i64 (lastOf (ticksOf its))) := by
  obtain ⟨g, o, c, rfl, _, _, _⟩ := Kd.Q_form hq hp
  have hC := (Kd.Q_reads' hq).2.2
  obtain ⟨ad, A1, c1, e, h0, _⟩ := at_T51 hC 0 (by omega) (by omega)
  obtain ⟨ad', A1', c1', e', h1, _⟩ := at_T51 hC ((its.length : Int) - 1) (by omega) (by omega)
  injection e with e
  injection e' with e'
  subst e
  subst e'
  rw [first_ticks its hp] at h0
  rw [last_ticks its hp, show ((its.length : Int) - 1).toNat = its.length - 1 by omega] at h1
  refine ⟨g, o, c, rfl, ?_, ?_⟩
  · simpa [Addr.add] using h0
  · unfold Addr.add at h1
    split at h1
    · rename_i e
      rw [e]
      exact h1
    · exact h1
set_option maxHeartbeats 1000000 in
theorem ref_ends {w : World} {base C : Nat} {G : Nat → Prop} {its : List S51} (h : IsRef w base C G its) :
    Calls Try.prog 13 #[.pointer (some ⟨C, 0, none⟩)] w fun e w' => e = .returned (.tuple #[.int .i64 (firstOf (ticksOf its)), .int .i64 (lastOf (ticksOf its))]) ∧ Drawn0 w w' := by
  obtain ⟨h64, _, _, v, hB, hq⟩ := h
  by_cases hp : 0 < its.length
  · obtain ⟨g, o, c, rfl, h0, h1⟩ := tick_cells hq hp
    have c0 : w.cell? ⟨C, 0, none⟩ = some (.slice (some ⟨g, o, none⟩) its.length c) := (blk_cell hB 0).trans rfl
    have hn : ¬ ((its.length : Int) = 0) := by omega
    have hn2 : (0 : Int) < (its.length : Int) := by omega
    have hw : IntKind.i64.wrap ((its.length : Int) - 1) = (its.length : Int) - 1 := by simp [IntKind.wrap, IntKind.bits, IntKind.signed]; omega
    have hw2 : (IntKind.i64.wrap ((its.length : Int) - 1)).toNat = its.length - 1 := by rw [hw]; omega
    have hw3 : 0 ≤ IntKind.i64.wrap ((its.length : Int) - 1) := by rw [hw]; omega
    have hw4 : IntKind.i64.wrap ((its.length : Int) - 1) < its.length := by rw [hw]; omega
    have hw5 : ((its.length : Int) - 1).toNat = its.length - 1 := by omega
    have hw6 : (0 : Int) ≤ (its.length : Int) - 1 := by omega
    have hw7 : (its.length : Int) - 1 < its.length := by omega
    clear hB hq
    go_enter Try.func13, Try.ntmps13
    go_wp2_with fail
    repeat (go_quiet (fail); try go_wp2)
    exact bodyPost_ret (v := .tuple #[.int .i64 (firstOf (ticksOf its)), .int .i64 (lastOf (ticksOf its))]) (by simp [results, Try.results13, go_sem]) rfl ⟨rfl, by repeat (first | exact Drawn0.refl _ | apply Drawn0.step)⟩
  · obtain rfl : its = [] := List.length_eq_zero_iff.1 (by omega)
    obtain ⟨A, c, rfl, _⟩ := Kd.Q_slice hq
    have c0 : w.cell? ⟨C, 0, none⟩ = some (.slice A 0 c) := (blk_cell hB 0).trans rfl
    clear hB hq
    go_enter Try.func13, Try.ntmps13
    go_wp2_with fail
    repeat (go_quiet (fail); try go_wp2)
    exact bodyPost_ret (v := .tuple #[.int .i64 (-1), .int .i64 (-1)]) (by simp [results, Try.results13, go_sem]) rfl ⟨rfl, by repeat (first | exact Drawn0.refl _ | apply Drawn0.step)⟩
set_option maxHeartbeats 1000000 in
theorem ref_old {w : World} {base C : Nat} {G : Nat → Prop} {its : List S51} {tick : Int} (h : IsRef w base C G its) (hr : Rising (ticksOf its)) (hle : tick ≤ lastOf (ticksOf its)) (v : Value) :
    Calls Try.prog 25 #[.pointer (some ⟨C, 0, none⟩), .int .i64 tick, v] w fun e w' => e = .returned (.int .i64 8) ∧ Drawn0 w w' := by
  obtain ⟨h64, _, _, v, hB, hq⟩ := h
  by_cases hneg : tick < 0
  · go_enter Try.func25, Try.ntmps25
    go_wp2_with fail
    repeat (go_quiet (fail); try go_wp2)
    go_ret
    exact ⟨rfl, by repeat (first | exact Drawn0.refl _ | apply Drawn0.step)⟩
  · have hp : 0 < its.length := by
      rcases Nat.eq_zero_or_pos its.length with e | e
      · obtain rfl := List.length_eq_zero_iff.1 e
        have : lastOf (ticksOf []) = -1 := rfl
        omega
      · exact e
    obtain ⟨g, o, c, rfl, h0, h1⟩ := tick_cells hq hp
    have c0 : w.cell? ⟨C, 0, none⟩ = some (.slice (some ⟨g, o, none⟩) its.length c) := (blk_cell hB 0).trans rfl
    have hn : ¬ ((its.length : Int) = 0) := by omega
    have hn2 : (0 : Int) < (its.length : Int) := by omega
    have hw : IntKind.i64.wrap ((its.length : Int) - 1) = (its.length : Int) - 1 := by simp [IntKind.wrap, IntKind.bits, IntKind.signed]; omega
    have hw2 : (IntKind.i64.wrap ((its.length : Int) - 1)).toNat = its.length - 1 := by rw [hw]; omega
    have hw3 : 0 ≤ IntKind.i64.wrap ((its.length : Int) - 1) := by rw [hw]; omega
    have hw4 : IntKind.i64.wrap ((its.length : Int) - 1) < its.length := by rw [hw]; omega
    have hw5 : ((its.length : Int) - 1).toNat = its.length - 1 := by omega
    have hw6 : (0 : Int) ≤ (its.length : Int) - 1 := by omega
    have hw7 : (its.length : Int) - 1 < its.length := by omega
    have b0 : decide (tick < 0) = false := decide_eq_false hneg
    have b1 : decide ((0 : Int) < (its.length : Int)) = true := decide_eq_true hn2
    have b2 : decide (tick ≤ lastOf (ticksOf its)) = true := decide_eq_true hle
    clear hB hq hneg hle
    go_enter Try.func25, Try.ntmps25
    go_wp2_with fail
    go_quiet (fail)
    go_wp2
    go_ret
    exact ⟨rfl, by repeat (first | exact Drawn0.refl _ | apply Drawn0.step)⟩
end Go.Proofs.Ytcbmkhogmdkpdaa.Ring
