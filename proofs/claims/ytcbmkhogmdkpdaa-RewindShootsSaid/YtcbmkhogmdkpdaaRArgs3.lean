import Derived.Test.YtcbmkhogmdkpdaaRArgs
import Derived.Test.YtcbmkhogmdkpdaaRPast
import Derived.Deep.Slices
import Derived.ProofKit
import Derived.OpenShut
set_option linter.unusedVariables false
set_option linter.unusedSimpArgs false
namespace Go.Proofs.Ytcbmkhogmdkpdaa.Ring
open Go.RowKit Go.ChangeMaps Go.Proofs.YtcbmkhogmdkpdaaW.PrintWords Go.Proofs.YtcbmkhogmdkpdaaW.PrintLast Go.Proofs.YtcbmkhogmdkpdaaW.PrintMore Go.Proofs.Ytcbmkhogmdkpdaa.PRewindNone Go.Proofs.Ytcbmkhogmdkpdaa.MapI Go.Proofs.Ytcbmkhogmdkpdaa.Plain Go.Proofs.Ytcbmkhogmdkpdaa.Pure Go.ChangeShapes Go.WideShapes Go.Deep
section
variable {H : Type} {enc : TypeId × Value → H} {P : Program} {w : World} {base : Nat} {spare : Nat → Bool} {held : Bool}
/-- The same as C_of_trod, and of each element what is known of it. -/
theorem C_of_trod_p {α : Type} (d : Kd α) (Pr : α → Prop) {t e fuel : Nat} {A : Option Addr} {n c : Nat} {x : DataW H × List MemPlace} (z : α) (ht : P.underlying t = some (.slice e)) (hc : P.cellsOf e = d.sz)
    (hE : ∀ fuel cs y, DataW.trod enc P w base spare held fuel e cs = some y → ∃ p, d.K w p cs ∧ Pr p) (h : DataW.trod enc P w base spare held fuel t [.slice A n c] = some x) :
    n ≤ c ∧ ∃ xs : List α, Kd.C d w A n xs ∧ ∀ y, y ∈ xs → Pr y := by
  rcases open_slice ht h with ⟨hcs, _⟩ | ⟨a, len, cap, m, k, D, Pl, hcs, _, hl, hm, hmm, _, hel⟩
  · simp at hcs
    obtain ⟨rfl, rfl, rfl⟩ := hcs
    exact ⟨Nat.le_refl _, [], Kd.C_nil d w, by simp⟩
  · simp at hcs
    obtain ⟨rfl, rfl, rfl⟩ := hcs
    refine ⟨hl, ?_⟩
    have hle : n ≤ m := by rw [hmm]; split <;> omega
    haveI : Inhabited α := ⟨z⟩
    have hx : ∀ i, i < n → ∃ p, Pr p ∧ ∃ cs', d.K w p cs' ∧ ∀ j u, cs'[j]? = some u → w.cell? (a.add (i * d.sz + j)) = some u := by
      intro i hi
      obtain ⟨cs', h1, h2⟩ := hel i (by omega)
      obtain ⟨p, hp, hpr⟩ := hE _ _ _ h2
      rw [hc] at h1
      obtain ⟨_, hlen, hcell⟩ := World.cells?_some h1
      refine ⟨p, hpr, cs', hp, fun j u hu => ?_⟩
      have hj : j < d.sz := by
        have := (List.getElem?_eq_some_iff.1 hu).1
        omega
      rw [← Deep.add_add, hcell j hj, hu]
    obtain ⟨V, hV⟩ := choose_lt hx
    refine ⟨(List.range n).map V, ⟨by simp, by unfold maxLen at hm; omega, fun _ => ⟨a, rfl, fun j p hj => ?_⟩⟩, fun y hy => ?_⟩
    · have hjn : j < n := by
        have := (List.getElem?_eq_some_iff.1 hj).1
        simpa using this
      have hp : V j = p := by
        rw [List.getElem?_map, List.getElem?_range hjn] at hj
        simpa using hj
      obtain ⟨_, cs', hK, hcell⟩ := hV j hjn
      rw [← hp]
      exact ⟨cs', d.K_len hK, hK, hcell⟩
    · obtain ⟨j, hj, rfl⟩ := List.mem_map.1 hy
      exact (hV j (List.mem_range.1 hj)).1
end
section
variable {H : Type} {enc : TypeId × Value → H} {w : World} {base : Nat} {spare : Nat → Bool} {held : Bool}
theorem cells22 : Try.prog.cellsOf 22 = 1 := by kernel_rfl
theorem cells23 : Try.prog.cellsOf 23 = 1 := by kernel_rfl
theorem cells25 : Try.prog.cellsOf 25 = 2 := by kernel_rfl
theorem cells76 : Try.prog.cellsOf 76 = 2 := by kernel_rfl
set_option maxRecDepth 100000 in
theorem item_of_trod (fuel : Nat) (cs : List Value) (y : DataW H × List MemPlace) (h : DataW.trod enc Try.prog w base spare held fuel 76 cs = some y) : ∃ p, k76.K w p cs ∧ 0 ≤ p.f0 ∧ p.f0 ≤ 255 := by
  obtain ⟨xs, m, _, rfl, hl, hxl, hf⟩ := DataW.trod_struct Try.underlying76 h
  rw [cells76] at hl
  match cs, hl with
  | [c0, c1], _ =>
    match xs, hxl with
    | [y0, y1], _ =>
      have h0 : DataW.trod enc Try.prog w base spare held m 5 (([c0, c1].drop 0).take (Try.prog.cellsOf 5)) = some y0 := hf 0 _ rfl
      have h1 : DataW.trod enc Try.prog w base spare held m 47 (([c0, c1].drop 1).take (Try.prog.cellsOf 47)) = some y1 := hf 1 _ rfl
      rw [cells5] at h0
      rw [cells47] at h1
      obtain ⟨b, hb, _, hw⟩ := DataW.trod_int Try.underlying5 h0
      simp at hb h1
      subst hb
      have hs : ∃ A n c, c1 = .slice A n c := by
        rcases open_slice Try.underlying47 h1 with ⟨hcs, _⟩ | ⟨a, len, cap, _, _, _, _, hcs, _⟩
        · exact ⟨_, _, _, by simpa using hcs⟩
        · exact ⟨_, _, _, by simpa using hcs⟩
      obtain ⟨A, n, c, rfl⟩ := hs
      obtain ⟨hnc, l, hC⟩ := C_of_trod k67 z67 Try.underlying47 cells67 ent_of_trod h1
      obtain rfl : l.length = n := Kd.C_len hC
      exact ⟨⟨b, l⟩, k76_mk w ⟨b, l⟩ hnc hC, by simpa [Lit.wf, IntKind.min, IntKind.max, IntKind.signed, IntKind.bits] using hw⟩
set_option maxRecDepth 100000 in
theorem past_arg {r : Reach} {b0 : Nat} {v : Value} {d : DataW H} {p : List MemPlace} (hv : Value.okWide Try.prog w r b0 25 v) (h : DataW.Trod enc Try.prog w base spare held 25 v d p) : ∃ from_ A n c, v = .agg #[.int .u16 from_, .slice A n c] ∧ (0 ≤ from_ ∧ from_ ≤ 65535) ∧ n ≤ c ∧ ∃ xs : List S76, Kd.C k76 w A n xs ∧ ∀ x, x ∈ xs → 0 ≤ x.f0 ∧ x.f0 ≤ 255 := by
  obtain ⟨cs, rfl, _⟩ := okWide_struct Try.underlying25 hv
  obtain ⟨fuel, hf⟩ := h
  obtain ⟨xs, m, _, _, hl, hxl, hf⟩ := DataW.trod_struct Try.underlying25 hf
  rw [cells25] at hl
  have hc : ∃ c0 c1, cs.toList = [c0, c1] := by
    match hcs : cs.toList, (show cs.toList.length = 2 by simpa [Value.cells] using hl) with
    | [c0, c1], _ => exact ⟨c0, c1, rfl⟩
  obtain ⟨c0, c1, hcs⟩ := hc
  obtain rfl : cs = #[c0, c1] := by rw [← Array.toList_inj, hcs]
  match xs, hxl with
  | [y0, y1], _ =>
    have h0 : DataW.trod enc Try.prog w base spare held m 22 (([c0, c1].drop 0).take (Try.prog.cellsOf 22)) = some y0 := hf 0 _ rfl
    have h1 : DataW.trod enc Try.prog w base spare held m 23 (([c0, c1].drop 1).take (Try.prog.cellsOf 23)) = some y1 := hf 1 _ rfl
    rw [cells22] at h0
    rw [cells23] at h1
    obtain ⟨b, hb, _, hw⟩ := DataW.trod_int Try.underlying22 h0
    simp at hb h1
    subst hb
    have hs : ∃ A n c, c1 = .slice A n c := by
      rcases open_slice Try.underlying23 h1 with ⟨hcs, _⟩ | ⟨a, len, cap, _, _, _, _, hcs, _⟩
      · exact ⟨_, _, _, by simpa using hcs⟩
      · exact ⟨_, _, _, by simpa using hcs⟩
    obtain ⟨A, n, c, rfl⟩ := hs
    obtain ⟨hnc, l, hC, hp⟩ := C_of_trod_p k76 (fun x => 0 ≤ x.f0 ∧ x.f0 ≤ 255) z76 Try.underlying23 cells76 item_of_trod h1
    exact ⟨b, A, n, c, rfl, by simpa [Lit.wf, IntKind.min, IntKind.max, IntKind.signed, IntKind.bits] using hw, hnc, l, hC, hp⟩
end
end Go.Proofs.Ytcbmkhogmdkpdaa.Ring
