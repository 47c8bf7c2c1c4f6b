import Derived.Test.YtcbmkhogmdkpdaaRAll
import Derived.Deep.Slices
import Derived.ProofKit
import Derived.OpenShut
import Derived.Deep.LoopGhost
import Derived.Deep.DeepCutAuto
set_option linter.unusedVariables false
set_option linter.unusedSimpArgs false
namespace Go.Proofs.Ytcbmkhogmdkpdaa.Ring
open Go.ChangeShapes Go.WideShapes Go.Deep Go.RowKit Go.ChangeMaps Go.Proofs.YtcbmkhogmdkpdaaW.PrintWords Go.Proofs.YtcbmkhogmdkpdaaW.PrintLast Go.Proofs.YtcbmkhogmdkpdaaW.PrintMore Go.Proofs.Ytcbmkhogmdkpdaa.PRewindNone Go.Proofs.Ytcbmkhogmdkpdaa.MapI
theorem push_mem {α : Type} {l : List α} {x y : α} (h : y ∈ push l x) : y ∈ l ∨ y = x := by
  unfold push at h
  split at h
  · simpa using h
  · simpa using List.mem_of_mem_drop h
theorem heap67 : Kd.Heap k67 := Kd.heap_iso _ (Kd.heap_pair (Kd.heap_int _) (Kd.heap_pair (Kd.heap_int _) (Kd.heap_pair (Kd.heap_iso _ (Kd.heap_pair (Kd.heap_int _) (Kd.heap_int _))) (Kd.heap_pair (Kd.heap_iso _ (Kd.heap_pair (Kd.heap_int _) (Kd.heap_int _))) (Kd.heap_pair (Kd.heap_int _) (Kd.heap_int _))))))
theorem came_C {w : World} {A : Option Addr} {n c : Nat} {l : List S67} (h : Kd.C k67 w A n l) (hl : n ≤ 1000) : Came w (.slice A n c) l := by
  refine ⟨A, n, c, rfl, h, by omega, fun e => ?_⟩
  subst e
  rcases Nat.eq_zero_or_pos n with h0 | h0
  · have := Kd.C_len h
    exact List.length_eq_zero_iff.1 (by omega)
  · obtain ⟨ad, e, _⟩ := h.2.2 h0
    simp at e
theorem wrap64_id' {x : Int} (h0 : -9223372036854775808 ≤ x) (h1 : x < 9223372036854775808) : wrap64 x = x := by
  unfold wrap64
  omega
section
variable {H : Type} {enc : TypeId × Value → H} {P : Program} {w : World} {base : Nat} {spare : Nat → Bool} {held : Bool}
/-- A slice that comes in is a row of its elements, where each element that comes in is one. -/
theorem C_of_trod {α : Type} (d : Kd α) (z : α) {t e fuel : Nat} {A : Option Addr} {n c : Nat} {x : DataW H × List MemPlace} (ht : P.underlying t = some (.slice e)) (hc : P.cellsOf e = d.sz)
    (hE : ∀ fuel cs y, DataW.trod enc P w base spare held fuel e cs = some y → ∃ p, d.K w p cs) (h : DataW.trod enc P w base spare held fuel t [.slice A n c] = some x) :
    n ≤ c ∧ ∃ xs : List α, Kd.C d w A n xs := by
  rcases open_slice ht h with ⟨hcs, _⟩ | ⟨a, len, cap, m, k, D, Pl, hcs, _, hl, hm, hmm, _, hel⟩
  · simp at hcs
    obtain ⟨rfl, rfl, rfl⟩ := hcs
    exact ⟨Nat.le_refl _, [], Kd.C_nil d w⟩
  · simp at hcs
    obtain ⟨rfl, rfl, rfl⟩ := hcs
    refine ⟨hl, ?_⟩
    have hle : n ≤ m := by rw [hmm]; split <;> omega
    haveI : Inhabited α := ⟨z⟩
    have hx : ∀ i, i < n → ∃ p, ∃ cs', d.K w p cs' ∧ ∀ j u, cs'[j]? = some u → w.cell? (a.add (i * d.sz + j)) = some u := by
      intro i hi
      obtain ⟨cs', h1, h2⟩ := hel i (by omega)
      obtain ⟨p, hp⟩ := hE _ _ _ h2
      rw [hc] at h1
      obtain ⟨_, hlen, hcell⟩ := World.cells?_some h1
      refine ⟨p, cs', hp, fun j u hu => ?_⟩
      have hj : j < d.sz := by
        have := (List.getElem?_eq_some_iff.1 hu).1
        omega
      rw [← Deep.add_add, hcell j hj, hu]
    obtain ⟨V, hV⟩ := choose_lt hx
    refine ⟨(List.range n).map V, by simp, by unfold maxLen at hm; omega, fun _ => ⟨a, rfl, fun j p hj => ?_⟩⟩
    have hjn : j < n := by
      have := (List.getElem?_eq_some_iff.1 hj).1
      simpa using this
    have hp : V j = p := by
      rw [List.getElem?_map, List.getElem?_range hjn] at hj
      simpa using hj
    obtain ⟨cs', hK, hcell⟩ := hV j hjn
    rw [← hp]
    exact ⟨cs', d.K_len hK, hK, hcell⟩
end
section
variable {H : Type} {enc : TypeId × Value → H} {w : World} {base : Nat} {spare : Nat → Bool} {held : Bool}
theorem trod_i64 {fuel t : Nat} {cs : List Value} {y : DataW H × List MemPlace} (ht : Try.prog.underlying t = some (.int .i64)) (h : DataW.trod enc Try.prog w base spare held fuel t cs = some y) : ∃ a, cs = [.int .i64 a] := by
  obtain ⟨a, ha, _, _⟩ := DataW.trod_int ht h
  exact ⟨a, ha⟩
theorem cells3 : Try.prog.cellsOf 3 = 1 := by kernel_rfl
theorem cells26 : Try.prog.cellsOf 26 = 1 := by kernel_rfl
theorem cells28 : Try.prog.cellsOf 28 = 2 := by kernel_rfl
theorem cells67 : Try.prog.cellsOf 67 = 8 := by kernel_rfl
theorem cells47 : Try.prog.cellsOf 47 = 1 := by kernel_rfl
set_option maxRecDepth 100000 in
theorem vec_of_trod {fuel : Nat} {cs : List Value} {y : DataW H × List MemPlace} (h : DataW.trod enc Try.prog w base spare held fuel 28 cs = some y) : ∃ a b, cs = [.int .i64 a, .int .i64 b] := by
  obtain ⟨xs, m, _, rfl, hl, hxl, hf⟩ := DataW.trod_struct Try.underlying28 h
  rw [cells28] at hl
  match cs, hl with
  | [c0, c1], _ =>
    match xs, hxl with
    | [y0, y1], _ =>
      have h0 : DataW.trod enc Try.prog w base spare held m 26 (([c0, c1].drop 0).take (Try.prog.cellsOf 26)) = some y0 := hf 0 _ rfl
      have h1 : DataW.trod enc Try.prog w base spare held m 26 (([c0, c1].drop 1).take (Try.prog.cellsOf 26)) = some y1 := hf 1 _ rfl
      rw [cells26] at h0 h1
      obtain ⟨a, ha⟩ := trod_i64 Try.underlying26 h0
      obtain ⟨b, hb⟩ := trod_i64 Try.underlying26 h1
      simp at ha hb
      exact ⟨a, b, by rw [ha, hb]⟩
set_option maxRecDepth 100000 in
theorem ent_of_trod (fuel : Nat) (cs : List Value) (y : DataW H × List MemPlace) (h : DataW.trod enc Try.prog w base spare held fuel 67 cs = some y) : ∃ p, k67.K w p cs := by
  obtain ⟨xs, m, _, rfl, hl, hxl, hf⟩ := DataW.trod_struct Try.underlying67 h
  rw [cells67] at hl
  match cs, hl with
  | [c0, c1, c2, c3, c4, c5, c6, c7], _ =>
    match xs, hxl with
    | [y0, y1, y2, y3, y4, y5], _ =>
      have h0 : DataW.trod enc Try.prog w base spare held m 3 (([c0, c1, c2, c3, c4, c5, c6, c7].drop 0).take (Try.prog.cellsOf 3)) = some y0 := hf 0 _ rfl
      have h1 : DataW.trod enc Try.prog w base spare held m 3 (([c0, c1, c2, c3, c4, c5, c6, c7].drop 1).take (Try.prog.cellsOf 3)) = some y1 := hf 1 _ rfl
      have h2 : DataW.trod enc Try.prog w base spare held m 28 (([c0, c1, c2, c3, c4, c5, c6, c7].drop 2).take (Try.prog.cellsOf 28)) = some y2 := hf 2 _ rfl
      have h3 : DataW.trod enc Try.prog w base spare held m 28 (([c0, c1, c2, c3, c4, c5, c6, c7].drop 4).take (Try.prog.cellsOf 28)) = some y3 := hf 3 _ rfl
      have h4 : DataW.trod enc Try.prog w base spare held m 3 (([c0, c1, c2, c3, c4, c5, c6, c7].drop 6).take (Try.prog.cellsOf 3)) = some y4 := hf 4 _ rfl
      have h5 : DataW.trod enc Try.prog w base spare held m 3 (([c0, c1, c2, c3, c4, c5, c6, c7].drop 7).take (Try.prog.cellsOf 3)) = some y5 := hf 5 _ rfl
      rw [cells3] at h0 h1 h4 h5
      rw [cells28] at h2 h3
      obtain ⟨a, ha⟩ := trod_i64 Try.underlying3 h0
      obtain ⟨b, hb⟩ := trod_i64 Try.underlying3 h1
      obtain ⟨c, d, hc⟩ := vec_of_trod h2
      obtain ⟨e, f, he⟩ := vec_of_trod h3
      obtain ⟨g, hg⟩ := trod_i64 Try.underlying3 h4
      obtain ⟨i, hi⟩ := trod_i64 Try.underlying3 h5
      simp at ha hb hc he hg hi
      obtain ⟨rfl, rfl⟩ := hc
      obtain ⟨rfl, rfl⟩ := he
      subst ha hb hg hi
      exact ⟨⟨a, b, ⟨c, d⟩, ⟨e, f⟩, g, i⟩, k67_mk w ⟨a, b, ⟨c, d⟩, ⟨e, f⟩, g, i⟩⟩
end
end Go.Proofs.Ytcbmkhogmdkpdaa.Ring
