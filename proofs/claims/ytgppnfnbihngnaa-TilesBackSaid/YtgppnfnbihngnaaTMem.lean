import Derived.Test.YtgppnfnbihngnaaPTilesFreex0
import Derived.Lib.OthersKept
set_option linter.unusedVariables false
set_option linter.unusedSimpArgs false
namespace Go.Proofs.Ytgppnfnbihngnaa.Tiles
open Go.RowKit Go.Proofs.YtgppnfnbihngnaaW.PrintWords Go.Proofs.YtgppnfnbihngnaaW.PrintLast Go.Proofs.YtgppnfnbihngnaaW.PrintMore Go.Proofs.Ytgppnfnbihngnaa.PTilesFree

/-- A map that is being read, or was. -/
structure TM where
  W : Int
  H : Int
  ws : List Bool
  sp : List S39
def TM.zero : TM := ⟨0, 0, [], []⟩
def midF (x y : Int) : S39 := ⟨wrap64 ((wrap64 (x * 65536)) + 32768), wrap64 ((wrap64 (y * 65536)) + 32768)⟩
theorem info4 : (Try.prog.info? 4).map (fun i => (i.zero, i.size, i.bytes)) = some (some (.bool false), 1, 1) := by kernel_rfl
theorem info39 : (Try.prog.info? 39).map (fun i => (i.zero, i.size, i.bytes)) = some (some (.agg #[.int .i64 0, .int .i64 0]), 2, 16) := by kernel_rfl
/-- What holds while a map is read: the result's block S, the map's B, the text's I; the rows behind these. -/
structure Rd (w0 : World) (S B I : Nat) (ty : Nat) (m : TM) (vA vS : Value) (w : World) : Prop where
  hl : w0.heap.size ≤ S ∧ S < B ∧ B < I
  hI : I ≤ w.heap.size
  hB : Below w0.heap.size w0 w
  h0 : w.heap[S]? = some (.cells #[.int .i64 0, .int .i64 0, .slice none 0 0, .slice none 0 0] ty (0, 0))
  h1 : w.heap[B]? = some (.cells #[.int .i64 m.W, .int .i64 m.H, vA, vS] ty (0, 0))
  hA : Kd.R Kd.bool 4 w w0.heap.size (fun k => I ≤ k) vA m.ws
  hS : Kd.R k39 39 w w0.heap.size (fun k => I ≤ k) vS m.sp
theorem put4 {w : World} {S t : Nat} {z0 z1 z2 z3 : Value} (h : w.heap[S]? = some (.cells #[z0, z1, z2, z3] t (0, 0))) (a0 a1 a2 a3 : Value) : ((((w.setCell ⟨S, 0, none⟩ a0).setCell ⟨S, 1, none⟩ a1).setCell ⟨S, 2, none⟩ a2).setCell ⟨S, 3, none⟩ a3).heap[S]? = some (.cells #[a0, a1, a2, a3] t (0, 0)) := by
  have h0 : (w.setCell ⟨S, 0, none⟩ a0).heap[S]? = some (.cells #[a0, z1, z2, z3] t (0, 0)) := (blk_set h 0 a0).trans rfl
  have h1 : ((w.setCell ⟨S, 0, none⟩ a0).setCell ⟨S, 1, none⟩ a1).heap[S]? = some (.cells #[a0, a1, z2, z3] t (0, 0)) := (blk_set h0 1 a1).trans rfl
  have h2 : (((w.setCell ⟨S, 0, none⟩ a0).setCell ⟨S, 1, none⟩ a1).setCell ⟨S, 2, none⟩ a2).heap[S]? = some (.cells #[a0, a1, a2, z3] t (0, 0)) := (blk_set h1 2 a2).trans rfl
  have h3 : ((((w.setCell ⟨S, 0, none⟩ a0).setCell ⟨S, 1, none⟩ a1).setCell ⟨S, 2, none⟩ a2).setCell ⟨S, 3, none⟩ a3).heap[S]? = some (.cells #[a0, a1, a2, a3] t (0, 0)) := (blk_set h2 3 a3).trans rfl
  exact h3
theorem low4 {w w0 : World} {S b : Nat} (h : Below b w0 w) (hb : b ≤ S) (a0 a1 a2 a3 : Value) : Below b w0 ((((w.setCell ⟨S, 0, none⟩ a0).setCell ⟨S, 1, none⟩ a1).setCell ⟨S, 2, none⟩ a2).setCell ⟨S, 3, none⟩ a3) := ((((h.setCell (p := ⟨S, 0, none⟩) hb _).setCell (p := ⟨S, 1, none⟩) hb _).setCell (p := ⟨S, 2, none⟩) hb _).setCell (p := ⟨S, 3, none⟩) hb _)
section
variable {w0 w : World} {S B I ty : Nat} {m : TM} {vA vS : Value}
theorem Rd.below {w1 : World} (h : Rd w0 S B I ty m vA vS w) (hb : Below w.heap.size w w1) : Rd w0 S B I ty m vA vS w1 :=
  ⟨h.hl, Nat.le_trans h.hI hb.size, h.hB.trans (hb.mono h.hB.size), blk_below h.h0 hb, blk_below h.h1 hb, Kd.R_below h.hA hb, Kd.R_below h.hS hb⟩
theorem Rd.drew (h : Rd w0 S B I ty m vA vS w) : Rd w0 S B I ty m vA vS w.drew := h.below (below_drew (Below.refl _ _))
theorem Rd.drewN (h : Rd w0 S B I ty m vA vS w) (n : Nat) : Rd w0 S B I ty m vA vS (w.drewN n) := h.below (pw_below_drewN (Below.refl _ _) n)
theorem Rd.alloc (h : Rd w0 S B I ty m vA vS w) (o : Obj) : Rd w0 S B I ty m vA vS (w.alloc o) := h.below (below_alloc (Below.refl _ _) o)
theorem Rd.cellW (h : Rd w0 S B I ty m vA vS w) : w.cell? ⟨B, 0, none⟩ = some (.int .i64 m.W) := (blk_cell h.h1 0).trans rfl
theorem Rd.cellH (h : Rd w0 S B I ty m vA vS w) : w.cell? ⟨B, 1, none⟩ = some (.int .i64 m.H) := (blk_cell h.h1 1).trans rfl
theorem Rd.cellA (h : Rd w0 S B I ty m vA vS w) : w.cell? ⟨B, 2, none⟩ = some vA := (blk_cell h.h1 2).trans rfl
theorem Rd.cellS (h : Rd w0 S B I ty m vA vS w) : w.cell? ⟨B, 3, none⟩ = some vS := (blk_cell h.h1 3).trans rfl
theorem Rd.froz (h : Rd w0 S B I ty m vA vS w) (j : Nat) : w.frozen? ⟨B, j, none⟩ = false := blk_frozen h.h1 j
theorem Rd.iter (h : Rd w0 S B I ty m vA vS w) {s : ByteArray} {p q : Nat} (hi : w.heap[I]? = some (.stringIter s p)) : Rd w0 S B I ty m vA vS (w.iterAt I s q) := by
  have ho : ∀ k, k ≠ I → (w.iterAt I s q).heap[k]? = w.heap[k]? := fun k hk => by simp [World.iterAt, Array.getElem?_setIfInBounds, Ne.symm hk]
  have hs : (w.iterAt I s q).heap.size = w.heap.size := Lib.iterAt_size _ _ _ _
  obtain ⟨l1, l2, l3⟩ := h.hl
  have nA : ∀ {q' : Nat} {cells : Array Value} {k : Nat}, w.heap[k]? = some (.cells cells q' (0, 0)) → k ≠ I := by
    rintro q' cells k hk rfl
    rw [hi] at hk
    cases hk
  refine ⟨h.hl, by rw [hs]; exact h.hI, Lib.below_iterAt h.hB (by omega) _ _, (ho _ (by omega)).trans h.h0, (ho _ (by omega)).trans h.h1, ?_, ?_⟩
  · exact Kd.R_mono (Kd.R_move (Kd.R_bound h.hA) (fun k hk => by obtain ⟨_, _, _, _, _, cells, hc⟩ := hk; exact ho k (nA hc))) (fun _ hk => hk.1)
  · exact Kd.R_mono (Kd.R_move (Kd.R_bound h.hS) (fun k hk => by obtain ⟨_, _, _, _, _, cells, hc⟩ := hk; exact ho k (nA hc))) (fun _ hk => hk.1)
end
section
variable {w0 w : World} {S B I ty : Nat} {m : TM} {vA vS : Value}
theorem Rd.setB (h : Rd w0 S B I ty m vA vS w) (hty : ty = 26 ∨ ty = 30) (j : Nat) (u : Value) {m' : TM} {vA' vS' : Value} (hc : #[Value.int .i64 m'.W, .int .i64 m'.H, vA', vS'] = #[Value.int .i64 m.W, .int .i64 m.H, vA, vS].setIfInBounds j u)
    (hA : Kd.R Kd.bool 4 w w0.heap.size (fun k => I ≤ k) vA' m'.ws) (hS : Kd.R k39 39 w w0.heap.size (fun k => I ≤ k) vS' m'.sp) : Rd w0 S B I ty m' vA' vS' (w.setCell ⟨B, j, none⟩ u) := by
  obtain ⟨l1, l2, l3⟩ := h.hl
  refine ⟨h.hl, by rw [World.size_setCell]; exact h.hI, h.hB.setCell (p := ⟨B, j, none⟩) (by show w0.heap.size ≤ B; omega) _, (Below.heap_setCell w ⟨B, j, none⟩ u S (by show S ≠ B; omega)).trans h.h0, ?_, ?_, ?_⟩
  · rw [hc]; exact blk_set h.h1 j u
  · refine Kd.R_far (p := ⟨B, j, none⟩) hA (fun k hk => ?_) u
    show k ≠ B; have : I ≤ k := hk; omega
  · refine Kd.R_far (p := ⟨B, j, none⟩) hS (fun k hk => ?_) u
    show k ≠ B; have : I ≤ k := hk; omega
theorem Rd.putW (h : Rd w0 S B I ty m vA vS w) (hty : ty = 26 ∨ ty = 30) (x : Int) : Rd w0 S B I ty { m with W := x } vA vS (w.setCell ⟨B, 0, none⟩ (.int .i64 x)) := h.setB hty 0 _ rfl h.hA h.hS
theorem Rd.putH (h : Rd w0 S B I ty m vA vS w) (hty : ty = 26 ∨ ty = 30) (x : Int) : Rd w0 S B I ty { m with H := x } vA vS (w.setCell ⟨B, 1, none⟩ (.int .i64 x)) := h.setB hty 1 _ rfl h.hA h.hS
theorem Rd.grown {w1 : World} (h : Rd w0 S B I ty m vA vS w) {row : Option Nat} (hg : w.grownBy w1 row) (hrow : ∀ k, row = some k → I ≤ k) (hb : Below w0.heap.size w0 w1) {vA' vS' : Value}
    (hA : Kd.R Kd.bool 4 w1 w0.heap.size (fun k => I ≤ k) vA m.ws) (hS : Kd.R k39 39 w1 w0.heap.size (fun k => I ≤ k) vS m.sp) : Rd w0 S B I ty m vA vS w1 := by
  obtain ⟨l1, l2, l3⟩ := h.hl
  refine ⟨h.hl, Nat.le_trans h.hI hg.size, hb, (hg.block S (blk_lt h.h0) (fun e => ?_)).trans h.h0, (hg.block B (blk_lt h.h1) (fun e => ?_)).trans h.h1, hA, hS⟩
  · have := hrow S e.symm; omega
  · have := hrow B e.symm; omega
theorem Rd.ne_iter {α : Type} {d : Kd α} {e base : Nat} {ok : Nat → Prop} {v : Value} {xs : List α} (h : Kd.R d e w base ok v xs) {k : Nat} {s : ByteArray} {p : Nat} (hi : w.heap[k]? = some (.stringIter s p)) : v.ownBlock = some k → False := by
  intro hk
  obtain ⟨cells, hc⟩ := Kd.R_typed h k hk
  rw [hi] at hc
  cases hc
theorem Rd.out4 (h : Rd w0 S B I ty m vA vS w) (a0 a1 a2 a3 : Value) :
    Below w0.heap.size w0 ((((w.setCell ⟨S, 0, none⟩ a0).setCell ⟨S, 1, none⟩ a1).setCell ⟨S, 2, none⟩ a2).setCell ⟨S, 3, none⟩ a3) ∧
    Kd.R Kd.bool 4 ((((w.setCell ⟨S, 0, none⟩ a0).setCell ⟨S, 1, none⟩ a1).setCell ⟨S, 2, none⟩ a2).setCell ⟨S, 3, none⟩ a3) w0.heap.size (fun k => w0.heap.size ≤ k) vA m.ws ∧
    Kd.R k39 39 ((((w.setCell ⟨S, 0, none⟩ a0).setCell ⟨S, 1, none⟩ a1).setCell ⟨S, 2, none⟩ a2).setCell ⟨S, 3, none⟩ a3) w0.heap.size (fun k => w0.heap.size ≤ k) vS m.sp := by
  obtain ⟨l1, l2, l3⟩ := h.hl
  have hf : ∀ j, ∀ k, I ≤ k → k ≠ (⟨S, j, none⟩ : Addr).block := fun j k hk => by show k ≠ S; omega
  refine ⟨low4 h.hB l1 _ _ _ _, ?_, ?_⟩
  · exact Kd.R_mono (Kd.R_far (Kd.R_far (Kd.R_far (Kd.R_far h.hA (hf 0) _) (hf 1) _) (hf 2) _) (hf 3) _) (fun k (hk : I ≤ k) => by show w0.heap.size ≤ k; omega)
  · exact Kd.R_mono (Kd.R_far (Kd.R_far (Kd.R_far (Kd.R_far h.hS (hf 0) _) (hf 1) _) (hf 2) _) (hf 3) _) (fun k (hk : I ≤ k) => by show w0.heap.size ≤ k; omega)
/-- 'm.Walls = append(m.Walls, b)'. -/
theorem Rd.addA {W w1 : World} {v1 : Value} {b : Bool} (h : Rd w0 S B I ty m vA vS W) (hty : ty = 26 ∨ ty = 30) (h1 : Kd.R Kd.bool 4 w1 w0.heap.size (fun k => I ≤ k) v1 (m.ws ++ [b])) (h2 : Below w0.heap.size w0 w1) (h3 : W.grownBy w1 vA.ownBlock) :
    Rd w0 S B I ty { m with ws := m.ws ++ [b] } v1 vS (w1.setCell ⟨B, 2, none⟩ v1) := by
  obtain ⟨l1, l2, l3⟩ := h.hl
  have e1 : w1.heap[B]? = some (.cells #[.int .i64 m.W, .int .i64 m.H, vA, vS] ty (0, 0)) := (h3.block B (blk_lt h.h1) (fun e => by have : I ≤ B := h.hA.1 B e.symm; omega)).trans h.h1
  have e0 : w1.heap[S]? = some (.cells #[.int .i64 0, .int .i64 0, .slice none 0 0, .slice none 0 0] ty (0, 0)) := (h3.block S (blk_lt h.h0) (fun e => by have : I ≤ S := h.hA.1 S e.symm; omega)).trans h.h0
  have eS : Kd.R k39 39 w1 w0.heap.size (fun k => I ≤ k) vS m.sp := Kd.R_over' h.hS (Kd.R_typed h.hA) (by decide) h3
  refine ⟨h.hl, by rw [World.size_setCell]; exact Nat.le_trans h.hI h3.size, h2.setCell (p := ⟨B, 2, none⟩) (by show w0.heap.size ≤ B; omega) _, (Below.heap_setCell w1 ⟨B, 2, none⟩ v1 S (by show S ≠ B; omega)).trans e0, (blk_set e1 2 v1).trans rfl, ?_, ?_⟩
  · refine Kd.R_far (p := ⟨B, 2, none⟩) h1 (fun k hk => ?_) v1
    show k ≠ B; have : I ≤ k := hk; omega
  · refine Kd.R_far (p := ⟨B, 2, none⟩) eS (fun k hk => ?_) v1
    show k ≠ B; have : I ≤ k := hk; omega
/-- 'm.Spawns = append(m.Spawns, p)'. -/
theorem Rd.addS {W w1 : World} {v1 : Value} {b : S39} (h : Rd w0 S B I ty m vA vS W) (hty : ty = 26 ∨ ty = 30) (h1 : Kd.R k39 39 w1 w0.heap.size (fun k => I ≤ k) v1 (m.sp ++ [b])) (h2 : Below w0.heap.size w0 w1) (h3 : W.grownBy w1 vS.ownBlock) :
    Rd w0 S B I ty { m with sp := m.sp ++ [b] } vA v1 (w1.setCell ⟨B, 3, none⟩ v1) := by
  obtain ⟨l1, l2, l3⟩ := h.hl
  have e1 : w1.heap[B]? = some (.cells #[.int .i64 m.W, .int .i64 m.H, vA, vS] ty (0, 0)) := (h3.block B (blk_lt h.h1) (fun e => by have : I ≤ B := h.hS.1 B e.symm; omega)).trans h.h1
  have e0 : w1.heap[S]? = some (.cells #[.int .i64 0, .int .i64 0, .slice none 0 0, .slice none 0 0] ty (0, 0)) := (h3.block S (blk_lt h.h0) (fun e => by have : I ≤ S := h.hS.1 S e.symm; omega)).trans h.h0
  have eA : Kd.R Kd.bool 4 w1 w0.heap.size (fun k => I ≤ k) vA m.ws := Kd.R_over' h.hA (Kd.R_typed h.hS) (by decide) h3
  refine ⟨h.hl, by rw [World.size_setCell]; exact Nat.le_trans h.hI h3.size, h2.setCell (p := ⟨B, 3, none⟩) (by show w0.heap.size ≤ B; omega) _, (Below.heap_setCell w1 ⟨B, 3, none⟩ v1 S (by show S ≠ B; omega)).trans e0, (blk_set e1 3 v1).trans rfl, ?_, ?_⟩
  · refine Kd.R_far (p := ⟨B, 3, none⟩) eA (fun k hk => ?_) v1
    show k ≠ B; have : I ≤ k := hk; omega
  · refine Kd.R_far (p := ⟨B, 3, none⟩) h1 (fun k hk => ?_) v1
    show k ≠ B; have : I ≤ k := hk; omega
end
end Go.Proofs.Ytgppnfnbihngnaa.Tiles
