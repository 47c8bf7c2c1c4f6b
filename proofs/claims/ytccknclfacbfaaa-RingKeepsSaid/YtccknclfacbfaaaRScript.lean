import Derived.Test.YtccknclfacbfaaaRAll
import Derived.Deep.Slices
import Derived.ProofKit
import Derived.OpenShut
set_option linter.unusedVariables false
set_option linter.unusedSimpArgs false
namespace Go.Proofs.Ytccknclfacbfaaa.Ring
open Go.RowKit Go.ChangeShapes Go.WideShapes Go.Deep Go.Proofs.YtccknclfacbfaaaW.PrintWords Go.Proofs.YtccknclfacbfaaaW.PrintLast Go.Proofs.YtccknclfacbfaaaW.PrintMore Go.Proofs.Ytccknclfacbfaaa.PRingPlays
section
variable {H : Type} {enc : TypeId × Value → H} {P : Program} {w : World} {base : Nat} {spare : Nat → Bool} {held : Bool}
/-- A slice that comes in is a row of its elements, where each element that comes in is one. -/
theorem C_of_trod {α : Type} (d : Kd α) (z : α) {t e fuel : Nat} {A : Option Addr} {n c : Nat} {x : DataW H × List MemPlace} (ht : P.underlying t = some (.slice e)) (hc : P.cellsOf e = d.sz)
    (hE : ∀ fuel cs y, DataW.trod enc P w base spare held fuel e cs = some y → ∃ p, d.K w p cs) (h : DataW.trod enc P w base spare held fuel t [.slice A n c] = some x) :
    n ≤ c ∧ ∃ xs : List α, Kd.C d w A n xs := by
  rcases open_slice ht h with ⟨hcs, _⟩ | ⟨a, len, cap, m, k, D, Pl, hcs, _, hl, hm, hmm, _, hel⟩
  · simp at hcs
    obtain ⟨rfl, rfl, rfl⟩ := hcs
    exact ⟨Nat.le_refl _, [], Kd.C_nil d w⟩
  · simp at hcs
    obtain ⟨rfl, rfl, rfl⟩ := hcs
    refine ⟨hl, ?_⟩
    have hle : n ≤ m := by rw [hmm]; split <;> omega
    haveI : Inhabited α := ⟨z⟩
    have hx : ∀ i, i < n → ∃ p, ∃ cs', d.K w p cs' ∧ ∀ j u, cs'[j]? = some u → w.cell? (a.add (i * d.sz + j)) = some u := by
      intro i hi
      obtain ⟨cs', h1, h2⟩ := hel i (by omega)
      obtain ⟨p, hp⟩ := hE _ _ _ h2
      rw [hc] at h1
      obtain ⟨_, hlen, hcell⟩ := World.cells?_some h1
      refine ⟨p, cs', hp, fun j u hu => ?_⟩
      have hj : j < d.sz := by
        have := (List.getElem?_eq_some_iff.1 hu).1
        omega
      rw [← Deep.add_add, hcell j hj, hu]
    obtain ⟨V, hV⟩ := choose_lt hx
    refine ⟨(List.range n).map V, by simp, by unfold maxLen at hm; omega, fun _ => ⟨a, rfl, fun j p hj => ?_⟩⟩
    have hjn : j < n := by
      have := (List.getElem?_eq_some_iff.1 hj).1
      simpa using this
    have hp : V j = p := by
      rw [List.getElem?_map, List.getElem?_range hjn] at hj
      simpa using hj
    obtain ⟨cs', hK, hcell⟩ := hV j hjn
    rw [← hp]
    exact ⟨cs', d.K_len hK, hK, hcell⟩
end
section
variable {H : Type} {enc : TypeId × Value → H} {w : World} {base : Nat} {spare : Nat → Bool} {held : Bool}
theorem trod_i64 {fuel t : Nat} {cs : List Value} {y : DataW H × List MemPlace} (ht : Try.prog.underlying t = some (.int .i64)) (h : DataW.trod enc Try.prog w base spare held fuel t cs = some y) : ∃ a, cs = [.int .i64 a] := by
  obtain ⟨a, ha, _, _⟩ := DataW.trod_int ht h
  exact ⟨a, ha⟩
theorem cells3 : Try.prog.cellsOf 3 = 1 := by kernel_rfl
theorem cells23 : Try.prog.cellsOf 23 = 1 := by kernel_rfl
theorem cells25 : Try.prog.cellsOf 25 = 2 := by kernel_rfl
theorem cells27 : Try.prog.cellsOf 27 = 8 := by kernel_rfl
theorem cells34 : Try.prog.cellsOf 34 = 1 := by kernel_rfl
theorem cells46 : Try.prog.cellsOf 46 = 3 := by kernel_rfl
theorem vec_of_trod {fuel : Nat} {cs : List Value} {y : DataW H × List MemPlace} (h : DataW.trod enc Try.prog w base spare held fuel 25 cs = some y) : ∃ a b, cs = [.int .i64 a, .int .i64 b] := by
  obtain ⟨xs, m, _, rfl, hl, hxl, hf⟩ := DataW.trod_struct Try.underlying25 h
  rw [cells25] at hl
  match cs, hl with
  | [c0, c1], _ =>
    match xs, hxl with
    | [y0, y1], _ =>
      have h0 : DataW.trod enc Try.prog w base spare held m 23 (([c0, c1].drop 0).take (Try.prog.cellsOf 23)) = some y0 := hf 0 _ rfl
      have h1 : DataW.trod enc Try.prog w base spare held m 23 (([c0, c1].drop 1).take (Try.prog.cellsOf 23)) = some y1 := hf 1 _ rfl
      rw [cells23] at h0 h1
      obtain ⟨a, ha⟩ := trod_i64 Try.underlying23 h0
      obtain ⟨b, hb⟩ := trod_i64 Try.underlying23 h1
      simp at ha hb
      exact ⟨a, b, by rw [ha, hb]⟩
theorem ent_of_trod (fuel : Nat) (cs : List Value) (y : DataW H × List MemPlace) (h : DataW.trod enc Try.prog w base spare held fuel 27 cs = some y) : ∃ p, k27.K w p cs := by
  obtain ⟨xs, m, _, rfl, hl, hxl, hf⟩ := DataW.trod_struct Try.underlying27 h
  rw [cells27] at hl
  match cs, hl with
  | [c0, c1, c2, c3, c4, c5, c6, c7], _ =>
    match xs, hxl with
    | [y0, y1, y2, y3, y4, y5], _ =>
      have h0 : DataW.trod enc Try.prog w base spare held m 3 (([c0, c1, c2, c3, c4, c5, c6, c7].drop 0).take (Try.prog.cellsOf 3)) = some y0 := hf 0 _ rfl
      have h1 : DataW.trod enc Try.prog w base spare held m 3 (([c0, c1, c2, c3, c4, c5, c6, c7].drop 1).take (Try.prog.cellsOf 3)) = some y1 := hf 1 _ rfl
      have h2 : DataW.trod enc Try.prog w base spare held m 25 (([c0, c1, c2, c3, c4, c5, c6, c7].drop 2).take (Try.prog.cellsOf 25)) = some y2 := hf 2 _ rfl
      have h3 : DataW.trod enc Try.prog w base spare held m 25 (([c0, c1, c2, c3, c4, c5, c6, c7].drop 4).take (Try.prog.cellsOf 25)) = some y3 := hf 3 _ rfl
      have h4 : DataW.trod enc Try.prog w base spare held m 3 (([c0, c1, c2, c3, c4, c5, c6, c7].drop 6).take (Try.prog.cellsOf 3)) = some y4 := hf 4 _ rfl
      have h5 : DataW.trod enc Try.prog w base spare held m 3 (([c0, c1, c2, c3, c4, c5, c6, c7].drop 7).take (Try.prog.cellsOf 3)) = some y5 := hf 5 _ rfl
      rw [cells3] at h0 h1 h4 h5
      rw [cells25] at h2 h3
      obtain ⟨a, ha⟩ := trod_i64 Try.underlying3 h0
      obtain ⟨b, hb⟩ := trod_i64 Try.underlying3 h1
      obtain ⟨c, d, hc⟩ := vec_of_trod h2
      obtain ⟨e, f, he⟩ := vec_of_trod h3
      obtain ⟨g, hg⟩ := trod_i64 Try.underlying3 h4
      obtain ⟨i, hi⟩ := trod_i64 Try.underlying3 h5
      simp at ha hb hc he hg hi
      obtain ⟨rfl, rfl⟩ := hc
      obtain ⟨rfl, rfl⟩ := he
      subst ha hb hg hi
      exact ⟨⟨a, b, ⟨c, d⟩, ⟨e, f⟩, g, i⟩, k27_mk w ⟨a, b, ⟨c, d⟩, ⟨e, f⟩, g, i⟩⟩
/-- One act of a script. -/
structure S46 where
  f0 : Int
  f1 : Int
  f2 : List S27
def z46 : S46 := ⟨0, 0, []⟩
def k46 : Kd S46 := Kd.iso (Kd.pair (Kd.int .i64) (Kd.pair (Kd.int .i64) (Kd.slice 27 k27))) (fun x : S46 => (x.f0, x.f1, x.f2))
theorem k46_open {w : World} {x : S46} {cs : List Value} (h : k46.K w x cs) : ∃ A c, cs = [.int .i64 x.f0, .int .i64 x.f1, .slice A x.f2.length c] ∧ x.f2.length ≤ c ∧ k27.C w A x.f2.length x.f2 := by
  obtain ⟨_, _, rfl, rfl, _, _, rfl, rfl, A, c, rfl, hl, hC⟩ := h
  exact ⟨A, c, rfl, hl, hC⟩
theorem k46_mk (w : World) (x : S46) {A : Option Addr} {c : Nat} (hl : x.f2.length ≤ c) (hC : k27.C w A x.f2.length x.f2) : k46.K w x [.int .i64 x.f0, .int .i64 x.f1, .slice A x.f2.length c] :=
  ⟨[.int .i64 x.f0], [.int .i64 x.f1, .slice A x.f2.length c], rfl, rfl, ⟨[.int .i64 x.f1], [.slice A x.f2.length c], rfl, rfl, ⟨A, c, rfl, hl, hC⟩⟩⟩
theorem act_of_trod (fuel : Nat) (cs : List Value) (y : DataW H × List MemPlace) (h : DataW.trod enc Try.prog w base spare held fuel 46 cs = some y) : ∃ p, k46.K w p cs := by
  obtain ⟨xs, m, _, rfl, hl, hxl, hf⟩ := DataW.trod_struct Try.underlying46 h
  rw [cells46] at hl
  match cs, hl with
  | [c0, c1, c2], _ =>
    match xs, hxl with
    | [y0, y1, y2], _ =>
      have h0 : DataW.trod enc Try.prog w base spare held m 3 (([c0, c1, c2].drop 0).take (Try.prog.cellsOf 3)) = some y0 := hf 0 _ rfl
      have h1 : DataW.trod enc Try.prog w base spare held m 3 (([c0, c1, c2].drop 1).take (Try.prog.cellsOf 3)) = some y1 := hf 1 _ rfl
      have h2 : DataW.trod enc Try.prog w base spare held m 34 (([c0, c1, c2].drop 2).take (Try.prog.cellsOf 34)) = some y2 := hf 2 _ rfl
      rw [cells3] at h0 h1
      rw [cells34] at h2
      obtain ⟨a, ha⟩ := trod_i64 Try.underlying3 h0
      obtain ⟨b, hb⟩ := trod_i64 Try.underlying3 h1
      simp at ha hb h2
      subst ha hb
      have hs : ∃ A n c, c2 = .slice A n c := by
        rcases open_slice Try.underlying34 h2 with ⟨hcs, _⟩ | ⟨a, len, cap, _, _, _, _, hcs, _⟩
        · exact ⟨_, _, _, by simpa using hcs⟩
        · exact ⟨_, _, _, by simpa using hcs⟩
      obtain ⟨A, n, c, rfl⟩ := hs
      obtain ⟨hnc, l, hC⟩ := C_of_trod k27 z27 Try.underlying34 cells27 ent_of_trod h2
      obtain rfl : l.length = n := Kd.C_len hC
      exact ⟨⟨a, b, l⟩, k46_mk w ⟨a, b, l⟩ hnc hC⟩
/-- A script that comes in. -/
theorem script_of_trod {A : Option Addr} {n c : Nat} {d : DataW H} {ps : List MemPlace} (h : DataW.Trod enc Try.prog w base spare held 40 (.slice A n c) d ps) : n ≤ c ∧ ∃ xs : List S46, Kd.C k46 w A n xs := by
  obtain ⟨fuel, h⟩ := h
  exact C_of_trod k46 z46 Try.underlying40 cells46 act_of_trod h
def rd_T46 (xs : List S46) (i : Int) : S46 := xs.getD i.toNat z46
theorem at_T46 {w : World} {A : Option Addr} {n : Nat} {xs : List S46} (h : Kd.C k46 w A n xs) (i : Int) (h0 : 0 ≤ i) (h1 : i < n) : ∃ ad A1 c1, A = some ad ∧ w.cell? (ad.add (i.toNat * 3)) = some (.int .i64 (rd_T46 xs i).f0) ∧ w.cell? ⟨(ad.add (i.toNat * 3)).block, (ad.add (i.toNat * 3)).off + 1, none⟩ = some (.int .i64 (rd_T46 xs i).f1) ∧
    w.cell? ⟨(ad.add (i.toNat * 3)).block, (ad.add (i.toNat * 3)).off + 2, none⟩ = some (.slice A1 (rd_T46 xs i).f2.length c1) ∧ (rd_T46 xs i).f2.length ≤ c1 ∧ k27.C w A1 (rd_T46 xs i).f2.length (rd_T46 xs i).f2 := by
  obtain ⟨ad, c, e, _, hK, hc0⟩ := Kd.C_get h z46 i h0 h1
  have hc : ∀ j u, c[j]? = some u → w.cell? (ad.add (i.toNat * 3 + j)) = some u := hc0
  obtain ⟨A1, c1, rfl, hl, hC⟩ := k46_open hK
  exact ⟨ad, A1, c1, e, hc 0 _ rfl, by rw [← add_field _ _ 1 (by omega)]; exact hc 1 _ rfl, by rw [← add_field _ _ 2 (by omega)]; exact hc 2 _ rfl, hl, hC⟩
end
end Go.Proofs.Ytccknclfacbfaaa.Ring
