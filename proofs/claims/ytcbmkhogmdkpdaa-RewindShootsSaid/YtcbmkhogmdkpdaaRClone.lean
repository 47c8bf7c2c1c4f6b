import Derived.Test.YtcbmkhogmdkpdaaREnt
import Derived.WalkSpells
import Derived.Outline
set_option linter.unusedVariables false
set_option linter.unusedSimpArgs false
namespace Go.Proofs.Ytcbmkhogmdkpdaa.Ring
open Go.RowKit Go.Proofs.YtcbmkhogmdkpdaaW.PrintWords Go.Proofs.YtcbmkhogmdkpdaaW.PrintLast Go.Proofs.YtcbmkhogmdkpdaaW.PrintMore Go.Proofs.Ytcbmkhogmdkpdaa.PRewindNone
theorem info67 : (Try.prog.info? 67).map (fun i => (i.zero, i.size, i.bytes)) = some (some (.agg #[.int .i64 0, .int .i64 0, .int .i64 0, .int .i64 0, .int .i64 0, .int .i64 0, .int .i64 0, .int .i64 0]), 8, 64) := by kernel_rfl
theorem R_empty {α : Type} (d : Kd α) (e : Nat) (W : World) : d.R e (W.alloc (.cells #[] e)) W.heap.size (fun k => W.heap.size ≤ k) (.slice (some ⟨W.heap.size, 0, none⟩) 0 0) [] := by
  refine ⟨fun k hk => ?_, [], ?_, Reps.none _ _⟩
  · have : W.heap.size = k := by simpa [Value.ownBlock] using hk
    omega
  · have h := World.ownsRow_lit (base := W.heap.size) (e := e) (size := d.sz) W #[] 0 (Nat.le_refl _) (by simp [maxLen]) (by simp)
    simpa using h
theorem KM67 (W : World) (base : Nat) (ok : Nat → Prop) (x : S67) (cs : List Value) (h : k67.K W x cs) : k67.M W base ok x cs := by
  obtain rfl := k67_open h
  exact k67_mkM W base ok x
set_option maxHeartbeats 1000000 in
theorem clone_some (a : Addr) (n c : Nat) (l : List S67) (w : World) (hr : Kd.C k67 w (some a) n l) (hb : n * 64 ≤ 140737488355328) :
    Calls Try.prog 36 #[.slice (some a) n c] w fun e w' => ∃ v, e = .returned v ∧ Below w.heap.size w w' ∧ k67.R 67 w' w.heap.size (fun k => w.heap.size ≤ k) v l := by
  have he := fun (w : World) => Lib.run_eql_slice_nil (P := Try.prog) w 47 67 (some a) n c 0 0 Try.underlying47
  have HR : Aside0 (Kd.C k67 (w.alloc (.cells #[] 67)) (some a) n l) := ⟨Kd.C_below hr (below_alloc (Below.refl _ _) _)⟩
  have HO := Aside0.mk (R_empty k67 67 w)
  clear hr
  go_enter Try.func36, Try.ntmps36
  go_wp2_with (at_builtin; refine Kd.R_append_rows k67 (Rr := k67.K (w.alloc (.cells #[] 67))) (w0 := w) w.heap.size rfl _ _ 47 67 _ 64 rfl Try.underlying47 info67 rfl (by decide) (by decide) _ [] l (some a) n c (fun k => w.heap.size ≤ k) (fun _ => False) rfl rfl HO.out HR.out (fun x cs h => KM67 _ _ _ x cs h) (fun _ h => h.elim) (fun k hk => by simp at hk; omega) (below_alloc (Below.refl _ _) _) (by simp) (by simpa using hb) ?_; intro v1 w1 h1 h2 h3 h4; clear h3 h4; have G1 := Aside0.mk h1; have G2 := Aside0.mk h2; clear h1 h2)
  go_ret
  exact ⟨v1, rfl, G2.out, G1.out⟩
end Go.Proofs.Ytcbmkhogmdkpdaa.Ring
