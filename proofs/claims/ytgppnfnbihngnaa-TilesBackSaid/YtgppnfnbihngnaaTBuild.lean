import Derived.Test.YtgppnfnbihngnaaTMem
import Derived.Lib.Builder
import Derived.Lib.FrozenHead
import Derived.WalkKit
import Derived.Laws.Externs
import Derived.Lib.RuneBytes
set_option linter.unusedVariables false
set_option linter.unusedSimpArgs false
namespace Go.Proofs.Ytgppnfnbihngnaa.Tiles
open Go.RowKit Go.Proofs.YtgppnfnbihngnaaW.PrintWords Go.Proofs.YtgppnfnbihngnaaW.PrintLast Go.Proofs.YtgppnfnbihngnaaW.PrintMore Go.Proofs.Ytgppnfnbihngnaa.PTilesFree

theorem info5 : (Try.prog.info? 5).map (fun i => (i.zero, i.size, i.bytes)) = some (some (.int .u8 0), 1, 1) := by kernel_rfl
theorem info68 : (Try.prog.info? 68).map (fun i => i.size) = some 2 := by kernel_rfl
theorem lies68 : liesAt Try.prog Try.prog.depth 68 (2 / Try.prog.cellsOf 68) 0 68 1 = true := by kernel_rfl
theorem bnew {w : World} {b : Nat} {o : Obj} (h : w.heap[b]? = some o) : b < w.heap.size := blk_lt h
set_option maxHeartbeats 4000000 in
set_option maxRecDepth 100000 in
theorem check_used (b : Nat) (w : World) (h0 : w.cell? ⟨b, 0, none⟩ = some (.pointer (some ⟨b, 0, none⟩))) :
    Calls Try.prog 39 #[.pointer (some ⟨b, 0, none⟩)] w fun e w' => e = .returned (.tuple #[]) ∧ w' = w := by
  obtain ⟨j, hj, hjs⟩ := Option.map_eq_some_iff.1 info68
  go_enter Try.func39, Try.ntmps39
  go_wp2
  rw [Lib.run_neq_ptr_same w _ Try.underlying65 hj]
  go_wp2
  go_end0
  exact ⟨rfl, rfl⟩
set_option maxHeartbeats 4000000 in
set_option maxRecDepth 100000 in
theorem check_fresh (b : Nat) (w : World) (h0 : w.cell? ⟨b, 0, none⟩ = some (.pointer none)) (hsh : w.shape? b = some (68, 2)) (hfz : w.frozen? ⟨b, 0, none⟩ = false) :
    Calls Try.prog 39 #[.pointer (some ⟨b, 0, none⟩)] w fun e w' => e = .returned (.tuple #[]) ∧ w' = w.setCell ⟨b, 0, none⟩ (.pointer (some ⟨b, 0, none⟩)) := by
  obtain ⟨j, hj, hjs⟩ := Option.map_eq_some_iff.1 info68
  go_enter Try.func39, Try.ntmps39
  go_wp2
  rw [Lib.run_to_unsafe w ⟨b, 0, none⟩ Try.underlying65 Try.underlying82 hj (by rw [hjs]; decide) hsh (Nat.zero_lt_succ 1)]
  simp only [Result.andThen]
  rw [Oper.upon_value]
  go_wp2
  rw [run_callFunc_extern Try.func42 (by kernel_rfl) (by kernel_rfl) (by kernel_rfl) (e := Extern.AbiNoEscape.same) (by kernel_rfl)]
  rw [Lib.run_noEscape]
  simp only [Result.andThen]
  rw [Oper.upon_value]
  go_wp2
  rw [Lib.run_from_unsafe w ⟨b, 0, none⟩ Try.underlying82 Try.underlying65 hj hsh lies68]
  simp only [Result.andThen]
  rw [Oper.upon_value]
  go_wp2
  go_end0
  exact ⟨rfl, rfl⟩
/-- copyCheck: behind it the builder is used. -/
theorem check_any (B b : Nat) (bs : List Value) (w : World) (h : Lib.IsBuilder 68 5 B b bs w) :
    Calls Try.prog 39 #[.pointer (some ⟨b, 0, none⟩)] w fun e w' => e = .returned (.tuple #[]) ∧ Lib.BuilderAt 68 5 B b (.pointer (some ⟨b, 0, none⟩)) bs w' ∧ Below B w w' := by
  rcases h with h | h
  · refine (check_fresh b w h.cell0 h.shape h.frozen0).mono ?_
    rintro e w' ⟨rfl, rfl⟩
    exact ⟨rfl, h.used _, (Below.refl B w).setCell (p := ⟨b, 0, none⟩) h.1 _⟩
  · refine (check_used b w h.cell0).mono ?_
    rintro e w' ⟨rfl, rfl⟩
    exact ⟨rfl, h, Below.refl B _⟩
/-- What an append onto a row of one's own bytes leaves. -/
def Grew (B : Nat) (v : Value) (n : Nat) (xs news : List Value) (w : World) (e : Ending) (w' : World) : Prop :=
  ∃ v', e = .returned v' ∧ w'.ownsRow B 5 1 v' (n + news.length) (xs ++ news) ∧ ∃ o, (w.alloc o).grownBy w' v.ownBlock
set_option maxHeartbeats 4000000 in
set_option maxRecDepth 100000 in
theorem rune_wall (B : Nat) (v : Value) (n : Nat) (xs : List Value) (w : World) (hown : w.ownsRow B 5 1 v n xs) (hlen : n + 4 ≤ 1000000) (hBw : B ≤ w.heap.size) :
    Calls Try.prog 43 #[v, .int .i32 9608] w (Grew B v n xs [.int .u8 226, .int .u8 150, .int .u8 136] w) := by
  obtain ⟨i0, hi, hz0, hz1, hz2⟩ := info_parts info5
  have HO := Aside0.mk hown
  clear hown
  go_enter Try.func43, Try.ntmps43
  go_wp2_with (at_builtin; refine wpList_append_own _ rfl _ _ 66 rfl B 5 i0 (.int .u8 0) 1 1 Try.underlying66 hi hz0 hz1 hz2 rfl (by decide) _ _ _ rfl (HO.out.alloc _) ⟨w.heap.size, 0, none⟩ 3 3 [.int .u8 226, .int .u8 150, .int .u8 136] rfl rfl ?c1 ?c2 ?c3 ?c4 ?c5 ?_)
  case c1 =>
    intro j u hj
    match j, hj with
    | 0, hj => simp at hj; subst hj; exact (blk_cell (blk_new w (.cells #[.int .u8 226, .int .u8 150, .int .u8 136] 5 (0, 0))) 0).trans rfl
    | 1, hj => simp at hj; subst hj; exact (blk_cell (blk_new w (.cells #[.int .u8 226, .int .u8 150, .int .u8 136] 5 (0, 0))) 1).trans rfl
    | 2, hj => simp at hj; subst hj; exact (blk_cell (blk_new w (.cells #[.int .u8 226, .int .u8 150, .int .u8 136] 5 (0, 0))) 2).trans rfl
  case c2 => intro u hu; simp at hu; (try rcases hu with rfl | rfl | rfl); all_goals (try rcases hu with rfl | rfl); all_goals rfl
  case c3 => unfold maxLen; omega
  case c4 => omega
  case c5 => simp; omega
  intro v' w' hown' hgrow hnil
  have HW := Aside0.mk hown'
  have HG := Aside0.mk hgrow
  clear hown' hgrow hnil
  go_wp2_with fail
  go_ret
  exact ⟨v', rfl, HW.out, _, HG.out⟩
set_option maxHeartbeats 4000000 in
set_option maxRecDepth 100000 in
theorem rune_spawn (B : Nat) (v : Value) (n : Nat) (xs : List Value) (w : World) (hown : w.ownsRow B 5 1 v n xs) (hlen : n + 4 ≤ 1000000) (hBw : B ≤ w.heap.size) :
    Calls Try.prog 43 #[v, .int .i32 9678] w (Grew B v n xs [.int .u8 226, .int .u8 151, .int .u8 142] w) := by
  obtain ⟨i0, hi, hz0, hz1, hz2⟩ := info_parts info5
  have HO := Aside0.mk hown
  clear hown
  go_enter Try.func43, Try.ntmps43
  go_wp2_with (at_builtin; refine wpList_append_own _ rfl _ _ 66 rfl B 5 i0 (.int .u8 0) 1 1 Try.underlying66 hi hz0 hz1 hz2 rfl (by decide) _ _ _ rfl (HO.out.alloc _) ⟨w.heap.size, 0, none⟩ 3 3 [.int .u8 226, .int .u8 151, .int .u8 142] rfl rfl ?c1 ?c2 ?c3 ?c4 ?c5 ?_)
  case c1 =>
    intro j u hj
    match j, hj with
    | 0, hj => simp at hj; subst hj; exact (blk_cell (blk_new w (.cells #[.int .u8 226, .int .u8 151, .int .u8 142] 5 (0, 0))) 0).trans rfl
    | 1, hj => simp at hj; subst hj; exact (blk_cell (blk_new w (.cells #[.int .u8 226, .int .u8 151, .int .u8 142] 5 (0, 0))) 1).trans rfl
    | 2, hj => simp at hj; subst hj; exact (blk_cell (blk_new w (.cells #[.int .u8 226, .int .u8 151, .int .u8 142] 5 (0, 0))) 2).trans rfl
  case c2 => intro u hu; simp at hu; (try rcases hu with rfl | rfl | rfl); all_goals (try rcases hu with rfl | rfl); all_goals rfl
  case c3 => unfold maxLen; omega
  case c4 => omega
  case c5 => simp; omega
  intro v' w' hown' hgrow hnil
  have HW := Aside0.mk hown'
  have HG := Aside0.mk hgrow
  clear hown' hgrow hnil
  go_wp2_with fail
  go_ret
  exact ⟨v', rfl, HW.out, _, HG.out⟩
set_option maxHeartbeats 4000000 in
set_option maxRecDepth 100000 in
theorem rune_floor (B : Nat) (v : Value) (n : Nat) (xs : List Value) (w : World) (hown : w.ownsRow B 5 1 v n xs) (hlen : n + 4 ≤ 1000000) (hBw : B ≤ w.heap.size) :
    Calls Try.prog 43 #[v, .int .i32 183] w (Grew B v n xs [.int .u8 194, .int .u8 183] w) := by
  obtain ⟨i0, hi, hz0, hz1, hz2⟩ := info_parts info5
  have HO := Aside0.mk hown
  clear hown
  go_enter Try.func43, Try.ntmps43
  go_wp2_with (at_builtin; refine wpList_append_own _ rfl _ _ 66 rfl B 5 i0 (.int .u8 0) 1 1 Try.underlying66 hi hz0 hz1 hz2 rfl (by decide) _ _ _ rfl (HO.out.alloc _) ⟨w.heap.size, 0, none⟩ 2 2 [.int .u8 194, .int .u8 183] rfl rfl ?c1 ?c2 ?c3 ?c4 ?c5 ?_)
  case c1 =>
    intro j u hj
    match j, hj with
    | 0, hj => simp at hj; subst hj; exact (blk_cell (blk_new w (.cells #[.int .u8 194, .int .u8 183] 5 (0, 0))) 0).trans rfl
    | 1, hj => simp at hj; subst hj; exact (blk_cell (blk_new w (.cells #[.int .u8 194, .int .u8 183] 5 (0, 0))) 1).trans rfl
  case c2 => intro u hu; simp at hu; (try rcases hu with rfl | rfl | rfl); all_goals (try rcases hu with rfl | rfl); all_goals rfl
  case c3 => unfold maxLen; omega
  case c4 => omega
  case c5 => simp; omega
  intro v' w' hown' hgrow hnil
  have HW := Aside0.mk hown'
  have HG := Aside0.mk hgrow
  clear hown' hgrow hnil
  go_wp2_with fail
  go_ret
  exact ⟨v', rfl, HW.out, _, HG.out⟩
end Go.Proofs.Ytgppnfnbihngnaa.Tiles
