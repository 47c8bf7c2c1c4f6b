/- How structs and arrays of whole numbers that come in are opened: their numbers, and that they lead to nothing. Of whatever program; no condition. -/
import Derived.ProofKit
import Derived.OpenShut
import Derived.Below
import Derived.Carry
namespace Go.Proofs.Ytgppnfnbihngnaa.Frame
open Go.ChangeShapes Go.WideShapes Go.ChangeAt Go.RowKit
section
variable {H : Type} {enc : TypeId × Value → H} {P : Program} {w : World} {base : Nat} {spare : Nat → Bool} {held : Bool}
theorem cells_vec {t F fuel : Nat} {k : IntKind} {fx fy : Field} {cs : List Value} {x : DataW H × List MemPlace} (ht : P.underlying t = some (.struct #[fx, fy])) (hx : fx.type = F) (hy : fy.type = F) (ox : fx.offset = 0) (oy : fy.offset = 1)
    (hF : P.underlying F = some (.int k)) (cF : P.cellsOf F = 1) (ct : P.cellsOf t = 2) (h : DataW.trod enc P w base spare held fuel t cs = some x) :
    ∃ a b, cs = [.int k a, .int k b] ∧ (Lit.int k a).wf = true ∧ (Lit.int k b).wf = true ∧ x.2 = [] := by
  obtain ⟨xs, m, _, rfl, hl, hxl, hf⟩ := DataW.trod_struct ht h
  rw [ct] at hl
  match cs, hl with
  | [c0, c1], _ =>
    have h0 := hf 0 fx rfl
    have h1 := hf 1 fy rfl
    rw [hx, ox, cF] at h0
    rw [hy, oy, cF] at h1
    match xs, hxl with
    | [y0, y1], _ =>
      obtain ⟨a, ha, hy0, wa⟩ := DataW.trod_int hF h0
      obtain ⟨b, hb, hy1, wb⟩ := DataW.trod_int hF h1
      simp at ha hb
      subst ha hb
      subst hy0 hy1
      exact ⟨a, b, rfl, wa, wb, rfl⟩
theorem cells_box {t V F fuel : Nat} {k : IntKind} {fl fm fx fy : Field} {cs : List Value} {x : DataW H × List MemPlace} (ht : P.underlying t = some (.struct #[fl, fm])) (hl' : fl.type = V) (hm' : fm.type = V) (ol : fl.offset = 0) (om : fm.offset = 2)
    (hV : P.underlying V = some (.struct #[fx, fy])) (hx : fx.type = F) (hy : fy.type = F) (ox : fx.offset = 0) (oy : fy.offset = 1)
    (hF : P.underlying F = some (.int k)) (cF : P.cellsOf F = 1) (cV : P.cellsOf V = 2) (ct : P.cellsOf t = 4) (h : DataW.trod enc P w base spare held fuel t cs = some x) :
    ∃ a b c d, cs = [.int k a, .int k b, .int k c, .int k d] ∧ (Lit.int k a).wf = true ∧ (Lit.int k b).wf = true ∧ (Lit.int k c).wf = true ∧ (Lit.int k d).wf = true ∧ x.2 = [] := by
  obtain ⟨xs, m, _, rfl, hl, hxl, hf⟩ := DataW.trod_struct ht h
  rw [ct] at hl
  match cs, hl with
  | [c0, c1, c2, c3], _ =>
    have h0 := hf 0 fl rfl
    have h1 := hf 1 fm rfl
    rw [hl', ol, cV] at h0
    rw [hm', om, cV] at h1
    match xs, hxl with
    | [y0, y1], _ =>
      obtain ⟨a, b, ha, wa, wb, hy0⟩ := cells_vec hV hx hy ox oy hF cF cV h0
      obtain ⟨c, d, hc, wc, wd, hy1⟩ := cells_vec hV hx hy ox oy hF cF cV h1
      simp at ha hc
      obtain ⟨rfl, rfl⟩ := ha
      obtain ⟨rfl, rfl⟩ := hc
      exact ⟨a, b, c, d, rfl, wa, wb, wc, wd, by simp [hy0, hy1]⟩
theorem cells_three {t F fuel : Nat} {k : IntKind} {cs : List Value} {x : DataW H × List MemPlace} (ht : P.underlying t = some (.array 3 F)) (hF : P.underlying F = some (.int k)) (cF : P.cellsOf F = 1) (ct : P.cellsOf t = 3)
    (h : DataW.trod enc P w base spare held fuel t cs = some x) : ∃ a b c, cs = [.int k a, .int k b, .int k c] ∧ (Lit.int k a).wf = true ∧ (Lit.int k b).wf = true ∧ (Lit.int k c).wf = true ∧ x.2 = [] := by
  obtain ⟨xs, m, _, rfl, hl, hxl, hf⟩ := DataW.trod_array ht h
  rw [ct] at hl
  match cs, hl with
  | [c0, c1, c2], _ =>
    have h0 := hf 0 (by omega)
    have h1 := hf 1 (by omega)
    have h2 := hf 2 (by omega)
    rw [cF] at h0 h1 h2
    match xs, hxl with
    | [y0, y1, y2], _ =>
      obtain ⟨a, ha, hy0, wa⟩ := DataW.trod_int hF h0
      obtain ⟨b, hb, hy1, wb⟩ := DataW.trod_int hF h1
      obtain ⟨c, hc, hy2, wc⟩ := DataW.trod_int hF h2
      simp at ha hb hc
      subst ha hb hc
      subst hy0 hy1 hy2
      exact ⟨a, b, c, rfl, wa, wb, wc, rfl⟩
theorem okWide_array {r : Reach} {b0 n : Nat} {t e : TypeId} {v : Value} (ht : P.underlying t = some (.array n e)) (h : Value.okWide P w r b0 t v) : ∃ cs, v = .agg cs ∧ cs.size = P.cellsOf t := by
  simp only [Value.okWide, ht] at h
  obtain ⟨cs, h1, h2, _⟩ := h
  exact ⟨cs, h1, h2⟩
theorem arr_of {cs : Array Value} {l : List Value} (h : cs.toList = l) : cs = l.toArray := by rw [← h]
theorem open_vec {r : Reach} {b0 t F : Nat} {k : IntKind} {fx fy : Field} {v : Value} {d : DataW H} {p : List MemPlace} (ht : P.underlying t = some (.struct #[fx, fy])) (hx : fx.type = F) (hy : fy.type = F) (ox : fx.offset = 0) (oy : fy.offset = 1)
    (hF : P.underlying F = some (.int k)) (cF : P.cellsOf F = 1) (ct : P.cellsOf t = 2) (hv : Value.okWide P w r b0 t v) (h : DataW.Trod enc P w base spare held t v d p) :
    ∃ a b, v = .agg #[.int k a, .int k b] ∧ (Lit.int k a).wf = true ∧ (Lit.int k b).wf = true ∧ p = [] := by
  obtain ⟨cs, rfl, _⟩ := okWide_struct ht hv
  obtain ⟨fuel, hf⟩ := h
  obtain ⟨a, b, hc, wa, wb, hp⟩ := cells_vec ht hx hy ox oy hF cF ct hf
  refine ⟨a, b, ?_, wa, wb, hp⟩
  rw [arr_of (cs := cs) (by simpa [Value.cells] using hc)]
theorem open_box {r : Reach} {b0 t V F : Nat} {k : IntKind} {fl fm fx fy : Field} {v : Value} {d : DataW H} {p : List MemPlace} (ht : P.underlying t = some (.struct #[fl, fm])) (hl' : fl.type = V) (hm' : fm.type = V) (ol : fl.offset = 0) (om : fm.offset = 2)
    (hV : P.underlying V = some (.struct #[fx, fy])) (hx : fx.type = F) (hy : fy.type = F) (ox : fx.offset = 0) (oy : fy.offset = 1)
    (hF : P.underlying F = some (.int k)) (cF : P.cellsOf F = 1) (cV : P.cellsOf V = 2) (ct : P.cellsOf t = 4) (hv : Value.okWide P w r b0 t v) (h : DataW.Trod enc P w base spare held t v d p) :
    ∃ a b c d, v = .agg #[.int k a, .int k b, .int k c, .int k d] ∧ (Lit.int k a).wf = true ∧ (Lit.int k b).wf = true ∧ (Lit.int k c).wf = true ∧ (Lit.int k d).wf = true ∧ p = [] := by
  obtain ⟨cs, rfl, _⟩ := okWide_struct ht hv
  obtain ⟨fuel, hf⟩ := h
  obtain ⟨a, b, c, d, hc, wa, wb, wc, wd, hp⟩ := cells_box ht hl' hm' ol om hV hx hy ox oy hF cF cV ct hf
  refine ⟨a, b, c, d, ?_, wa, wb, wc, wd, hp⟩
  rw [arr_of (cs := cs) (by simpa [Value.cells] using hc)]
theorem open_three {r : Reach} {b0 t F : Nat} {k : IntKind} {v : Value} {d : DataW H} {p : List MemPlace} (ht : P.underlying t = some (.array 3 F)) (hF : P.underlying F = some (.int k)) (cF : P.cellsOf F = 1) (ct : P.cellsOf t = 3)
    (hv : Value.okWide P w r b0 t v) (h : DataW.Trod enc P w base spare held t v d p) :
    ∃ a b c, v = .agg #[.int k a, .int k b, .int k c] ∧ (Lit.int k a).wf = true ∧ (Lit.int k b).wf = true ∧ (Lit.int k c).wf = true ∧ p = [] := by
  obtain ⟨cs, rfl, _⟩ := okWide_array ht hv
  obtain ⟨fuel, hf⟩ := h
  obtain ⟨a, b, c, hc, wa, wb, wc, hp⟩ := cells_three ht hF cF ct hf
  refine ⟨a, b, c, ?_, wa, wb, wc, hp⟩
  rw [arr_of (cs := cs) (by simpa [Value.cells] using hc)]
end
end Go.Proofs.Ytgppnfnbihngnaa.Frame
