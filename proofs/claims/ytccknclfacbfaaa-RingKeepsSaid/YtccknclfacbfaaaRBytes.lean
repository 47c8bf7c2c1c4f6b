import Derived.Test.YtccknclfacbfaaaRScript
import Derived.Test.YtccknclfacbfaaaRKeeps
set_option linter.unusedVariables false
set_option linter.unusedSimpArgs false
namespace Go.Proofs.Ytccknclfacbfaaa.Ring
open Go.RowKit Go.ChangeShapes Go.WideShapes Go.Deep Go.Proofs.YtccknclfacbfaaaW.PrintWords Go.Proofs.YtccknclfacbfaaaW.PrintLast Go.Proofs.YtccknclfacbfaaaW.PrintMore Go.Proofs.Ytccknclfacbfaaa.PRingPlays
section
variable {H : Type} {enc : TypeId × Value → H} {P : Program} {w : World} {base : Nat} {spare : Nat → Bool} {held : Bool}
/-- The same as C_of_trod, and of each element what is known of it. -/
theorem C_of_trod_p {α : Type} (d : Kd α) (Pr : α → Prop) {t e fuel : Nat} {A : Option Addr} {n c : Nat} {x : DataW H × List MemPlace} (z : α) (ht : P.underlying t = some (.slice e)) (hc : P.cellsOf e = d.sz)
    (hE : ∀ fuel cs y, DataW.trod enc P w base spare held fuel e cs = some y → ∃ p, d.K w p cs ∧ Pr p) (h : DataW.trod enc P w base spare held fuel t [.slice A n c] = some x) :
    n ≤ c ∧ ∃ xs : List α, Kd.C d w A n xs ∧ ∀ y, y ∈ xs → Pr y := by
  rcases open_slice ht h with ⟨hcs, _⟩ | ⟨a, len, cap, m, k, D, Pl, hcs, _, hl, hm, hmm, _, hel⟩
  · simp at hcs
    obtain ⟨rfl, rfl, rfl⟩ := hcs
    exact ⟨Nat.le_refl _, [], Kd.C_nil d w, by simp⟩
  · simp at hcs
    obtain ⟨rfl, rfl, rfl⟩ := hcs
    refine ⟨hl, ?_⟩
    have hle : n ≤ m := by rw [hmm]; split <;> omega
    haveI : Inhabited α := ⟨z⟩
    have hx : ∀ i, i < n → ∃ p, Pr p ∧ ∃ cs', d.K w p cs' ∧ ∀ j u, cs'[j]? = some u → w.cell? (a.add (i * d.sz + j)) = some u := by
      intro i hi
      obtain ⟨cs', h1, h2⟩ := hel i (by omega)
      obtain ⟨p, hp, hpr⟩ := hE _ _ _ h2
      rw [hc] at h1
      obtain ⟨_, hlen, hcell⟩ := World.cells?_some h1
      refine ⟨p, hpr, cs', hp, fun j u hu => ?_⟩
      have hj : j < d.sz := by
        have := (List.getElem?_eq_some_iff.1 hu).1
        omega
      rw [← Deep.add_add, hcell j hj, hu]
    obtain ⟨V, hV⟩ := choose_lt hx
    refine ⟨(List.range n).map V, ⟨by simp, by unfold maxLen at hm; omega, fun _ => ⟨a, rfl, fun j p hj => ?_⟩⟩, fun y hy => ?_⟩
    · have hjn : j < n := by
        have := (List.getElem?_eq_some_iff.1 hj).1
        simpa using this
      have hp : V j = p := by
        rw [List.getElem?_map, List.getElem?_range hjn] at hj
        simpa using hj
      obtain ⟨_, cs', hK, hcell⟩ := hV j hjn
      rw [← hp]
      exact ⟨cs', d.K_len hK, hK, hcell⟩
    · obtain ⟨j, hj, rfl⟩ := List.mem_map.1 hy
      exact (hV j (List.mem_range.1 hj)).1
end
section
variable {H : Type} {enc : TypeId × Value → H} {w : World} {base : Nat} {spare : Nat → Bool} {held : Bool}
theorem cells5 : Try.prog.cellsOf 5 = 1 := by kernel_rfl
theorem byte_of_trod (fuel : Nat) (cs : List Value) (y : DataW H × List MemPlace) (h : DataW.trod enc Try.prog w base spare held fuel 5 cs = some y) : ∃ p, (Kd.int .u8).K w p cs ∧ 0 ≤ p ∧ p ≤ 255 := by
  obtain ⟨a, ha, _, hw⟩ := DataW.trod_int Try.underlying5 h
  subst ha
  exact ⟨a, rfl, by simpa [Lit.wf, IntKind.min, IntKind.max, IntKind.signed, IntKind.bits] using hw⟩
theorem bytes_of_trod {A : Option Addr} {n c : Nat} {d : DataW H} {ps : List MemPlace} (h : DataW.Trod enc Try.prog w base spare held 22 (.slice A n c) d ps) : n ≤ c ∧ ∃ xs : List Int, Kd.C (Kd.int .u8) w A n xs ∧ ∀ s, s ∈ xs → 0 ≤ s ∧ s ≤ 255 := by
  obtain ⟨fuel, h⟩ := h
  exact C_of_trod_p (Kd.int .u8) (fun s => 0 ≤ s ∧ s ≤ 255) 0 Try.underlying22 cells5 byte_of_trod h
theorem ent_arg {r : Reach} {b0 : Nat} {v : Value} {d : DataW H} {p : List MemPlace} (hv : Value.okWide Try.prog w r b0 27 v) (h : DataW.Trod enc Try.prog w base spare held 27 v d p) : ∃ x : S27, v = .agg (cellsE x) := by
  obtain ⟨cs, rfl, _⟩ := okWide_struct Try.underlying27 hv
  obtain ⟨fuel, hf⟩ := h
  obtain ⟨x, hx⟩ := ent_of_trod _ _ _ hf
  have hc := k27_open hx
  refine ⟨x, ?_⟩
  have : cs.toList = (cellsE x).toList := by simpa [Value.cells, cellsE] using hc
  rw [Array.toList_inj.1 this]
end
end Go.Proofs.Ytccknclfacbfaaa.Ring
