import Derived.Test.YtccknclfacbfaaaPRingPlaysx0
import Derived.WalkSpells
import Derived.Outline
set_option linter.unusedVariables false
set_option linter.unusedSimpArgs false
namespace Go.Proofs.Ytccknclfacbfaaa.Ring
open Go.RowKit Go.Proofs.YtccknclfacbfaaaW.PrintWords Go.Proofs.YtccknclfacbfaaaW.PrintLast Go.Proofs.YtccknclfacbfaaaW.PrintMore Go.Proofs.Ytccknclfacbfaaa.PRingPlays
theorem info27 : (Try.prog.info? 27).map (fun i => (i.zero, i.size, i.bytes)) = some (some (.agg #[.int .i64 0, .int .i64 0, .int .i64 0, .int .i64 0, .int .i64 0, .int .i64 0, .int .i64 0, .int .i64 0]), 8, 64) := by kernel_rfl
/-- slices.Clone of a list of entities: nil stays nil; else a row of one's own that holds the same. -/
theorem clone_nil (w : World) : Calls Try.prog 17 #[.slice none 0 0] w fun e w' => e = .returned (.slice none 0 0) ∧ Below w.heap.size w w' := by
  have he := fun (w : World) => Lib.run_eql_slice_nil (P := Try.prog) w 34 27 none 0 0 0 0 Try.underlying34
  go_enter Try.func17, Try.ntmps17
  go_wp2
  go_ret
  exact ⟨rfl, Below.refl _ _⟩
theorem R_empty {α : Type} (d : Kd α) (e : Nat) (W : World) : d.R e (W.alloc (.cells #[] e)) W.heap.size (fun k => W.heap.size ≤ k) (.slice (some ⟨W.heap.size, 0, none⟩) 0 0) [] := by
  refine ⟨fun k hk => ?_, [], ?_, Reps.none _ _⟩
  · have : W.heap.size = k := by simpa [Value.ownBlock] using hk
    omega
  · have h := World.ownsRow_lit (base := W.heap.size) (e := e) (size := d.sz) W #[] 0 (Nat.le_refl _) (by simp [maxLen]) (by simp)
    simpa using h
theorem KM27 (W : World) (base : Nat) (ok : Nat → Prop) (x : S27) (cs : List Value) (h : k27.K W x cs) : k27.M W base ok x cs := by
  obtain rfl := k27_open h
  exact k27_mkM W base ok x
set_option maxHeartbeats 1000000 in
theorem clone_some (a : Addr) (n c : Nat) (l : List S27) (w : World) (hr : Kd.C k27 w (some a) n l) (hb : n * 64 ≤ 140737488355328) :
    Calls Try.prog 17 #[.slice (some a) n c] w fun e w' => ∃ v, e = .returned v ∧ Below w.heap.size w w' ∧ k27.R 27 w' w.heap.size (fun k => w.heap.size ≤ k) v l := by
  have he := fun (w : World) => Lib.run_eql_slice_nil (P := Try.prog) w 34 27 (some a) n c 0 0 Try.underlying34
  have HR : Aside0 (Kd.C k27 (w.alloc (.cells #[] 27)) (some a) n l) := ⟨Kd.C_below hr (below_alloc (Below.refl _ _) _)⟩
  have HO := Aside0.mk (R_empty k27 27 w)
  clear hr
  go_enter Try.func17, Try.ntmps17
  go_wp2_with (at_builtin; refine Kd.R_append_rows k27 (Rr := k27.K (w.alloc (.cells #[] 27))) (w0 := w) w.heap.size rfl _ _ 34 27 _ 64 rfl Try.underlying34 info27 rfl (by decide) (by decide) _ [] l (some a) n c (fun k => w.heap.size ≤ k) (fun _ => False) rfl rfl HO.out HR.out (fun x cs h => KM27 _ _ _ x cs h) (fun _ h => h.elim) (fun k hk => by simp at hk; omega) (below_alloc (Below.refl _ _) _) (by simp) (by simpa using hb) ?_; intro v1 w1 h1 h2 h3 h4; clear h3 h4; have G1 := Aside0.mk h1; have G2 := Aside0.mk h2; clear h1 h2)
  go_ret
  exact ⟨v1, rfl, G2.out, G1.out⟩
end Go.Proofs.Ytccknclfacbfaaa.Ring
