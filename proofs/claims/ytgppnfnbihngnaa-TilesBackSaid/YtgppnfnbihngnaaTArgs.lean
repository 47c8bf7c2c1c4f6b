import Derived.Test.YtgppnfnbihngnaaTMem
import Derived.Test.YtgppnfnbihngnaaFrame
import Derived.Deep.Slices
import Derived.ProofKit
import Derived.OpenShut
set_option linter.unusedVariables false
set_option linter.unusedSimpArgs false
namespace Go.Proofs.Ytgppnfnbihngnaa.Tiles
open Go.RowKit Go.Proofs.YtgppnfnbihngnaaW.PrintWords Go.Proofs.YtgppnfnbihngnaaW.PrintLast Go.Proofs.YtgppnfnbihngnaaW.PrintMore Go.Proofs.Ytgppnfnbihngnaa.PTilesFree Go.ChangeShapes Go.WideShapes Go.Deep Go.ChangeAt
section
variable {H : Type} {enc : TypeId × Value → H} {P : Program} {w : World} {base : Nat} {spare : Nat → Bool} {held : Bool}
/-- The same as C_of_trod, and of each element what is known of it. -/
theorem C_of_trod_p {α : Type} (d : Kd α) (Pr : α → Prop) {t e fuel : Nat} {A : Option Addr} {n c : Nat} {x : DataW H × List MemPlace} (z : α) (ht : P.underlying t = some (.slice e)) (hc : P.cellsOf e = d.sz)
    (hE : ∀ fuel cs y, DataW.trod enc P w base spare held fuel e cs = some y → ∃ p, d.K w p cs ∧ Pr p) (h : DataW.trod enc P w base spare held fuel t [.slice A n c] = some x) :
    n ≤ c ∧ ∃ xs : List α, Kd.C d w A n xs ∧ ∀ y, y ∈ xs → Pr y := by
  rcases open_slice ht h with ⟨hcs, _⟩ | ⟨a, len, cap, m, k, D, Pl, hcs, _, hl, hm, hmm, _, hel⟩
  · simp at hcs
    obtain ⟨rfl, rfl, rfl⟩ := hcs
    exact ⟨Nat.le_refl _, [], Kd.C_nil d w, by simp⟩
  · simp at hcs
    obtain ⟨rfl, rfl, rfl⟩ := hcs
    refine ⟨hl, ?_⟩
    have hle : n ≤ m := by rw [hmm]; split <;> omega
    haveI : Inhabited α := ⟨z⟩
    have hx : ∀ i, i < n → ∃ p, Pr p ∧ ∃ cs', d.K w p cs' ∧ ∀ j u, cs'[j]? = some u → w.cell? (a.add (i * d.sz + j)) = some u := by
      intro i hi
      obtain ⟨cs', h1, h2⟩ := hel i (by omega)
      obtain ⟨p, hp, hpr⟩ := hE _ _ _ h2
      rw [hc] at h1
      obtain ⟨_, hlen, hcell⟩ := World.cells?_some h1
      refine ⟨p, hpr, cs', hp, fun j u hu => ?_⟩
      have hj : j < d.sz := by
        have := (List.getElem?_eq_some_iff.1 hu).1
        omega
      rw [← Deep.add_add, hcell j hj, hu]
    obtain ⟨V, hV⟩ := choose_lt hx
    refine ⟨(List.range n).map V, ⟨by simp, by unfold maxLen at hm; omega, fun _ => ⟨a, rfl, fun j p hj => ?_⟩⟩, fun y hy => ?_⟩
    · have hjn : j < n := by
        have := (List.getElem?_eq_some_iff.1 hj).1
        simpa using this
      have hp : V j = p := by
        rw [List.getElem?_map, List.getElem?_range hjn] at hj
        simpa using hj
      obtain ⟨_, cs', hK, hcell⟩ := hV j hjn
      rw [← hp]
      exact ⟨cs', d.K_len hK, hK, hcell⟩
    · obtain ⟨j, hj, rfl⟩ := List.mem_map.1 hy
      exact (hV j (List.mem_range.1 hj)).1
end
section
variable {H : Type} {enc : TypeId × Value → H} {w : World} {base : Nat} {spare : Nat → Bool} {held : Bool}
theorem cells3 : Try.prog.cellsOf 3 = 1 := by kernel_rfl
theorem cells4 : Try.prog.cellsOf 4 = 1 := by kernel_rfl
theorem cells23 : Try.prog.cellsOf 23 = 1 := by kernel_rfl
theorem cells24 : Try.prog.cellsOf 24 = 1 := by kernel_rfl
theorem cells26 : Try.prog.cellsOf 26 = 4 := by kernel_rfl
theorem cells37 : Try.prog.cellsOf 37 = 1 := by kernel_rfl
theorem cells39 : Try.prog.cellsOf 39 = 2 := by kernel_rfl
theorem cells35 : Try.prog.cellsOf 35 = 1 := by kernel_rfl
theorem cells46 : Try.prog.cellsOf 46 = 4 := by kernel_rfl
theorem bool_of_trod (fuel : Nat) (cs : List Value) (y : DataW H × List MemPlace) (h : DataW.trod enc Try.prog w base spare held fuel 4 cs = some y) : ∃ p, Kd.bool.K w p cs ∧ True := by
  obtain ⟨b, rfl, _⟩ := DataW.trod_bool Try.underlying4 h
  exact ⟨b, rfl, trivial⟩
theorem vec_of_trod (fuel : Nat) (cs : List Value) (y : DataW H × List MemPlace) (h : DataW.trod enc Try.prog w base spare held fuel 39 cs = some y) : ∃ p, k39.K w p cs ∧ True := by
  obtain ⟨a, b, rfl, _⟩ := Frame.cells_vec Try.underlying39 rfl rfl rfl rfl Try.underlying37 cells37 cells39 h
  exact ⟨⟨a, b⟩, k39_mk w ⟨a, b⟩, trivial⟩
set_option maxRecDepth 100000 in
theorem map_arg {r : Reach} {b0 : Nat} {v : Value} {d : DataW H} {p : List MemPlace} (hv : Value.okWide Try.prog w r b0 26 v) (h : DataW.Trod enc Try.prog w base spare held 26 v d p) :
    ∃ W H A c A' c', ∃ (ws : List Bool) (sp : List S39), v = .agg #[.int .i64 W, .int .i64 H, .slice A ws.length c, .slice A' sp.length c'] ∧ Kd.C Kd.bool w A ws.length ws ∧ ws.length ≤ c ∧ Kd.C k39 w A' sp.length sp ∧ sp.length ≤ c' := by
  obtain ⟨cs, rfl, _⟩ := okWide_struct Try.underlying26 hv
  obtain ⟨fuel, hf⟩ := h
  obtain ⟨xs, m, _, _, hl, hxl, hf⟩ := DataW.trod_struct Try.underlying26 hf
  rw [cells26] at hl
  have hc : ∃ c0 c1 c2 c3, cs.toList = [c0, c1, c2, c3] := by
    match hcs : cs.toList, (show cs.toList.length = 4 by simpa [Value.cells] using hl) with
    | [c0, c1, c2, c3], _ => exact ⟨c0, c1, c2, c3, rfl⟩
  obtain ⟨c0, c1, c2, c3, hcs⟩ := hc
  obtain rfl : cs = #[c0, c1, c2, c3] := by rw [← Array.toList_inj, hcs]
  match xs, hxl with
  | [y0, y1, y2, y3], _ =>
    have h0 : DataW.trod enc Try.prog w base spare held m 3 (([c0, c1, c2, c3].drop 0).take (Try.prog.cellsOf 3)) = some y0 := hf 0 _ rfl
    have h1 : DataW.trod enc Try.prog w base spare held m 3 (([c0, c1, c2, c3].drop 1).take (Try.prog.cellsOf 3)) = some y1 := hf 1 _ rfl
    have h2 : DataW.trod enc Try.prog w base spare held m 23 (([c0, c1, c2, c3].drop 2).take (Try.prog.cellsOf 23)) = some y2 := hf 2 _ rfl
    have h3 : DataW.trod enc Try.prog w base spare held m 24 (([c0, c1, c2, c3].drop 3).take (Try.prog.cellsOf 24)) = some y3 := hf 3 _ rfl
    rw [cells3] at h0 h1
    rw [cells23] at h2
    rw [cells24] at h3
    obtain ⟨a, ha, _, _⟩ := DataW.trod_int Try.underlying3 h0
    obtain ⟨b, hb, _, _⟩ := DataW.trod_int Try.underlying3 h1
    simp at ha hb h2 h3
    subst ha hb
    have hs2 : ∃ A n c, c2 = .slice A n c := by
      rcases open_slice Try.underlying23 h2 with ⟨hcs, _⟩ | ⟨a, len, cap, _, _, _, _, hcs, _⟩
      · exact ⟨_, _, _, by simpa using hcs⟩
      · exact ⟨_, _, _, by simpa using hcs⟩
    obtain ⟨A, n, c, rfl⟩ := hs2
    have hs3 : ∃ A n c, c3 = .slice A n c := by
      rcases open_slice Try.underlying24 h3 with ⟨hcs, _⟩ | ⟨a, len, cap, _, _, _, _, hcs, _⟩
      · exact ⟨_, _, _, by simpa using hcs⟩
      · exact ⟨_, _, _, by simpa using hcs⟩
    obtain ⟨A', n', c', rfl⟩ := hs3
    obtain ⟨hn1, ws, hC1, _⟩ := C_of_trod_p Kd.bool (fun _ => True) false Try.underlying23 cells4 bool_of_trod h2
    obtain ⟨hn2, sp, hC2, _⟩ := C_of_trod_p k39 (fun _ => True) z39 Try.underlying24 cells39 vec_of_trod h3
    obtain rfl : ws.length = n := Kd.C_len hC1
    obtain rfl : sp.length = n' := Kd.C_len hC2
    exact ⟨a, b, A, c, A', c', ws, sp, rfl, hC1, hn1, hC2, hn2⟩
set_option maxRecDepth 100000 in
theorem four_arg {r : Reach} {b0 : Nat} {v : Value} {d : DataW H} {p : List MemPlace} (hv : Value.okWide Try.prog w r b0 46 v) (h : DataW.Trod enc Try.prog w base spare held 46 v d p) :
    ∃ a b c e, v = .agg #[.int .u16 a, .int .u16 b, .int .u16 c, .int .u16 e] ∧ (0 ≤ a ∧ a ≤ 65535) ∧ (0 ≤ b ∧ b ≤ 65535) ∧ (0 ≤ c ∧ c ≤ 65535) ∧ (0 ≤ e ∧ e ≤ 65535) := by
  obtain ⟨cs, rfl, _⟩ := Frame.okWide_array Try.underlying46 hv
  obtain ⟨fuel, hf⟩ := h
  obtain ⟨xs, m, _, _, hl, hxl, hf⟩ := DataW.trod_array Try.underlying46 hf
  rw [cells46] at hl
  have hc : ∃ c0 c1 c2 c3, cs.toList = [c0, c1, c2, c3] := by
    match hcs : cs.toList, (show cs.toList.length = 4 by simpa [Value.cells] using hl) with
    | [c0, c1, c2, c3], _ => exact ⟨c0, c1, c2, c3, rfl⟩
  obtain ⟨c0, c1, c2, c3, hcs⟩ := hc
  obtain rfl : cs = #[c0, c1, c2, c3] := by rw [← Array.toList_inj, hcs]
  have h0 := hf 0 (by omega)
  have h1 := hf 1 (by omega)
  have h2 := hf 2 (by omega)
  have h3 := hf 3 (by omega)
  rw [cells35] at h0 h1 h2 h3
  match xs, hxl with
  | [y0, y1, y2, y3], _ =>
    obtain ⟨a, ha, _, wa⟩ := DataW.trod_int Try.underlying35 h0
    obtain ⟨b, hb, _, wb⟩ := DataW.trod_int Try.underlying35 h1
    obtain ⟨c, hc, _, wc⟩ := DataW.trod_int Try.underlying35 h2
    obtain ⟨e, he, _, we⟩ := DataW.trod_int Try.underlying35 h3
    simp [Value.cells] at ha hb hc he
    subst ha hb hc he
    exact ⟨a, b, c, e, rfl, by simpa [Lit.wf, IntKind.min, IntKind.max, IntKind.signed, IntKind.bits] using wa, by simpa [Lit.wf, IntKind.min, IntKind.max, IntKind.signed, IntKind.bits] using wb, by simpa [Lit.wf, IntKind.min, IntKind.max, IntKind.signed, IntKind.bits] using wc, by simpa [Lit.wf, IntKind.min, IntKind.max, IntKind.signed, IntKind.bits] using we⟩
end
end Go.Proofs.Ytgppnfnbihngnaa.Tiles
