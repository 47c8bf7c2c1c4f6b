import Derived.Test.YtcbmkhogmdkpdaaRAwake
import Derived.Deep.Slices
import Derived.ProofKit
import Derived.OpenShut
set_option linter.unusedVariables false
set_option linter.unusedSimpArgs false
namespace Go.Proofs.Ytcbmkhogmdkpdaa.Ring
open Go.RowKit Go.ChangeMaps Go.Proofs.YtcbmkhogmdkpdaaW.PrintWords Go.Proofs.YtcbmkhogmdkpdaaW.PrintLast Go.Proofs.YtcbmkhogmdkpdaaW.PrintMore Go.Proofs.Ytcbmkhogmdkpdaa.PRewindNone Go.Proofs.Ytcbmkhogmdkpdaa.MapI Go.Proofs.Ytcbmkhogmdkpdaa.Plain Go.Proofs.Ytcbmkhogmdkpdaa.Pure Go.ChangeShapes Go.WideShapes Go.Deep
section
variable {H : Type} {enc : TypeId × Value → H} {w : World} {base : Nat} {spare : Nat → Bool} {held : Bool}
theorem cells5 : Try.prog.cellsOf 5 = 1 := by kernel_rfl
theorem cells30 : Try.prog.cellsOf 30 = 5 := by kernel_rfl
theorem cells32 : Try.prog.cellsOf 32 = 2 := by kernel_rfl
set_option maxRecDepth 100000 in
theorem ray_of_trod (fuel : Nat) (cs : List Value) (y : DataW H × List MemPlace) (h : DataW.trod enc Try.prog w base spare held fuel 30 cs = some y) : ∃ a b c d e, cs = [.int .i64 a, .int .i64 b, .int .i64 c, .int .i64 d, .int .i64 e] := by
  obtain ⟨xs, m, _, rfl, hl, hxl, hf⟩ := DataW.trod_struct Try.underlying30 h
  rw [cells30] at hl
  match cs, hl with
  | [c0, c1, c2, c3, c4], _ =>
    match xs, hxl with
    | [y0, y1, y2], _ =>
      have h0 : DataW.trod enc Try.prog w base spare held m 3 (([c0, c1, c2, c3, c4].drop 0).take (Try.prog.cellsOf 3)) = some y0 := hf 0 _ rfl
      have h1 : DataW.trod enc Try.prog w base spare held m 28 (([c0, c1, c2, c3, c4].drop 1).take (Try.prog.cellsOf 28)) = some y1 := hf 1 _ rfl
      have h2 : DataW.trod enc Try.prog w base spare held m 28 (([c0, c1, c2, c3, c4].drop 3).take (Try.prog.cellsOf 28)) = some y2 := hf 2 _ rfl
      rw [cells3] at h0
      rw [cells28] at h1 h2
      obtain ⟨a, ha⟩ := trod_i64 Try.underlying3 h0
      obtain ⟨b, c, hb⟩ := vec_of_trod h1
      obtain ⟨d, e, hd⟩ := vec_of_trod h2
      simp at ha hb hd
      obtain ⟨rfl, rfl⟩ := hb
      obtain ⟨rfl, rfl⟩ := hd
      subst ha
      exact ⟨a, b, c, d, e, rfl⟩
set_option maxRecDepth 100000 in
theorem view_of_trod (fuel : Nat) (cs : List Value) (y : DataW H × List MemPlace) (h : DataW.trod enc Try.prog w base spare held fuel 32 cs = some y) : ∃ a b, cs = [.int .i64 a, .int .u8 b] ∧ 0 ≤ b ∧ b ≤ 255 := by
  obtain ⟨xs, m, _, rfl, hl, hxl, hf⟩ := DataW.trod_struct Try.underlying32 h
  rw [cells32] at hl
  match cs, hl with
  | [c0, c1], _ =>
    match xs, hxl with
    | [y0, y1], _ =>
      have h0 : DataW.trod enc Try.prog w base spare held m 3 (([c0, c1].drop 0).take (Try.prog.cellsOf 3)) = some y0 := hf 0 _ rfl
      have h1 : DataW.trod enc Try.prog w base spare held m 5 (([c0, c1].drop 1).take (Try.prog.cellsOf 5)) = some y1 := hf 1 _ rfl
      rw [cells3] at h0
      rw [cells5] at h1
      obtain ⟨a, ha⟩ := trod_i64 Try.underlying3 h0
      obtain ⟨b, hb, _, hw⟩ := DataW.trod_int Try.underlying5 h1
      simp at ha hb
      subst ha hb
      exact ⟨a, b, rfl, by simpa [Lit.wf, IntKind.min, IntKind.max, IntKind.signed, IntKind.bits] using hw⟩
set_option maxRecDepth 100000 in
theorem ray_arg {r : Reach} {b0 : Nat} {v : Value} {d : DataW H} {p : List MemPlace} (hv : Value.okWide Try.prog w r b0 30 v) (h : DataW.Trod enc Try.prog w base spare held 30 v d p) : ∃ sh fx fy dx dy, v = .agg #[.int .i64 sh, .int .i64 fx, .int .i64 fy, .int .i64 dx, .int .i64 dy] := by
  obtain ⟨cs, rfl, _⟩ := okWide_struct Try.underlying30 hv
  obtain ⟨fuel, hf⟩ := h
  obtain ⟨a, b, c, d, e, hx⟩ := ray_of_trod _ _ _ hf
  refine ⟨a, b, c, d, e, ?_⟩
  have hc : cs.toList = (#[.int .i64 a, .int .i64 b, .int .i64 c, .int .i64 d, .int .i64 e] : Array Value).toList := by simpa [Value.cells] using hx
  rw [Array.toList_inj.1 hc]
set_option maxRecDepth 100000 in
theorem view_arg {r : Reach} {b0 : Nat} {v : Value} {d : DataW H} {p : List MemPlace} (hv : Value.okWide Try.prog w r b0 32 v) (h : DataW.Trod enc Try.prog w base spare held 32 v d p) : ∃ tick part, v = .agg #[.int .i64 tick, .int .u8 part] ∧ 0 ≤ part ∧ part ≤ 255 := by
  obtain ⟨cs, rfl, _⟩ := okWide_struct Try.underlying32 hv
  obtain ⟨fuel, hf⟩ := h
  obtain ⟨a, b, hx, h0, h1⟩ := view_of_trod _ _ _ hf
  refine ⟨a, b, ?_, h0, h1⟩
  have hc : cs.toList = (#[.int .i64 a, .int .u8 b] : Array Value).toList := by simpa [Value.cells] using hx
  rw [Array.toList_inj.1 hc]
end
end Go.Proofs.Ytcbmkhogmdkpdaa.Ring
