import Derived.Test.YtgppnfnbihngnaaTBuild
import Derived.Test.YtgppnfnbihngnaaTSameP
import Derived.Test.YtgppnfnbihngnaaPTilesFreex1
import Derived.Test.YtgppnfnbihngnaaPTilesFreex2
import Derived.Deep.LoopGhost
set_option linter.unusedVariables false
set_option linter.unusedSimpArgs false
namespace Go.Proofs.Ytgppnfnbihngnaa.Tiles
open Go.RowKit Go.Proofs.YtgppnfnbihngnaaW.PrintWords Go.Proofs.YtgppnfnbihngnaaW.PrintLast Go.Proofs.YtgppnfnbihngnaaW.PrintMore Go.Proofs.Ytgppnfnbihngnaa.PTilesFree

set_option maxHeartbeats 4000000 in
set_option maxRecDepth 100000 in
theorem append_wall (B : Nat) (v : Value) (n : Nat) (xs : List Value) (w : World) (hown : w.ownsRow B 5 1 v n xs) (hlen : n + 4 ≤ 1000000) (hBw : B ≤ w.heap.size) :
    Calls Try.prog 40 #[v, .int .i32 9608] w (Grew B v n xs [.int .u8 226, .int .u8 150, .int .u8 136] w) := by
  have HO := Aside0.mk hown
  clear hown
  go_enter Try.func40, Try.ntmps40
  go_wp2_with (go_at_call 43; (with_reducible refine (rune_wall B v n xs _ HO.out hlen hBw).mono ?_); rintro e w1 ⟨v', he, hw, hg⟩; subst he; have HW := Aside0.mk hw; have HG := Aside0.mk hg; clear hw hg)
  go_ret
  exact ⟨v', rfl, HW.out, HG.out⟩
set_option maxHeartbeats 4000000 in
set_option maxRecDepth 100000 in
theorem write_wall (B b : Nat) (bs : List Value) (w : World) (h : Lib.IsBuilder 68 5 B b bs w) (hlen : bs.length + 4 ≤ 1000000) (hBw : B ≤ w.heap.size) :
    Calls Try.prog 32 #[.pointer (some ⟨b, 0, none⟩), .int .i32 9608] w fun e w' => e = .returned (.tuple #[.int .i64 3, .nilIface]) ∧ Lib.BuilderAt 68 5 B b (.pointer (some ⟨b, 0, none⟩)) (bs ++ [.int .u8 226, .int .u8 150, .int .u8 136]) w' ∧ Below B w w' := by
  have HI := Aside0.mk h
  have HBw := Aside0.mk hBw
  clear h hBw
  go_enter Try.func32, Try.ntmps32
  go_upto_region 2 with (go_at_call 39; (with_reducible refine (check_any B b bs _ HI.out).mono ?_); rintro e w1 ⟨he, h1, hb1⟩; subst he; have HA := Aside0.mk h1; have HB1 := Aside0.mk hb1; clear h1 hb1)
  obtain ⟨hB, v, hbk, hown, hne⟩ := HA.out
  obtain ⟨ao, cap, rfl⟩ : ∃ ao cap, v = .slice ao bs.length cap := by
    rcases hown.2 with ⟨hv, h0⟩ | ⟨g, cap, cur, hv, _⟩
    · exact ⟨none, 0, by rw [hv, h0]⟩
    · exact ⟨_, _, hv⟩
  have HO := Aside0.mk hown
  have HNe := Aside0.mk hne
  have HBk := Aside0.mk hbk
  have hBw1 : B ≤ w1.heap.size := Nat.le_trans HBw.out HB1.out.size
  have c0 : w1.cell? ⟨b, 0, none⟩ = some (.pointer (some ⟨b, 0, none⟩)) := (blk_cell hbk 0).trans rfl
  have c1 : w1.cell? ⟨b, 1, none⟩ = some (.slice ao bs.length cap) := (blk_cell hbk 1).trans rfl
  clear hbk hown hne
  go_wp2_with (go_at_call 40; (with_reducible refine (append_wall B _ bs.length bs _ HO.out hlen hBw1).mono ?_); rintro e w2 ⟨v', he, hw, o, hg⟩; subst he; have hb2 : w2.heap[b]? = some (.cells #[.pointer (some ⟨b, 0, none⟩), .slice ao bs.length cap] 68 (0, 0)) := (hg.block b (by have := blk_lt HBk.out; simp; omega) (fun e => HNe.out e.symm)).trans (blk_alloc HBk.out o); have HB2 := Aside0.mk hb2; have d0 : w2.cell? ⟨b, 0, none⟩ = some (.pointer (some ⟨b, 0, none⟩)) := (blk_cell hb2 0).trans rfl; have d1 : w2.cell? ⟨b, 1, none⟩ = some (.slice ao bs.length cap) := (blk_cell hb2 1).trans rfl; have f1 : w2.frozen? ⟨b, 1, none⟩ = false := blk_frozen hb2 1; have HBl : Aside0 (Below B w1 w2) := ⟨((Below.refl B w1).alloc hBw1 o).grown hg (by simp; omega) (fun k hk => (HO.out.lt k hk).1)⟩; have HW := Aside0.mk hw; obtain ⟨g, cap2, rfl⟩ : ∃ g cap2, v' = .slice (some ⟨g, 0, none⟩) (bs.length + 3) cap2 := (by rcases hw.2 with ⟨_, h0⟩ | ⟨g, cap2, cur, hv, _⟩; simp at h0; exact ⟨g, cap2, hv⟩); clear hb2 hw hg)
  go_ret2
  refine ⟨?_, Lib.BuilderAt.put (T := 68) (e := 5) hB HB2.out (bs' := bs ++ [.int .u8 226, .int .u8 150, .int .u8 136]) (by simpa using HW.out) (by decide), HB1.out.trans (HBl.out.setCell (p := ⟨b, 1, none⟩) hB _)⟩
  rw [show (bs.length : Int) + 3 - bs.length = 3 by omega]
  rfl

set_option maxHeartbeats 4000000 in
set_option maxRecDepth 100000 in
theorem append_spawn (B : Nat) (v : Value) (n : Nat) (xs : List Value) (w : World) (hown : w.ownsRow B 5 1 v n xs) (hlen : n + 4 ≤ 1000000) (hBw : B ≤ w.heap.size) :
    Calls Try.prog 40 #[v, .int .i32 9678] w (Grew B v n xs [.int .u8 226, .int .u8 151, .int .u8 142] w) := by
  have HO := Aside0.mk hown
  clear hown
  go_enter Try.func40, Try.ntmps40
  go_wp2_with (go_at_call 43; (with_reducible refine (rune_spawn B v n xs _ HO.out hlen hBw).mono ?_); rintro e w1 ⟨v', he, hw, hg⟩; subst he; have HW := Aside0.mk hw; have HG := Aside0.mk hg; clear hw hg)
  go_ret
  exact ⟨v', rfl, HW.out, HG.out⟩
set_option maxHeartbeats 4000000 in
set_option maxRecDepth 100000 in
theorem write_spawn (B b : Nat) (bs : List Value) (w : World) (h : Lib.IsBuilder 68 5 B b bs w) (hlen : bs.length + 4 ≤ 1000000) (hBw : B ≤ w.heap.size) :
    Calls Try.prog 32 #[.pointer (some ⟨b, 0, none⟩), .int .i32 9678] w fun e w' => e = .returned (.tuple #[.int .i64 3, .nilIface]) ∧ Lib.BuilderAt 68 5 B b (.pointer (some ⟨b, 0, none⟩)) (bs ++ [.int .u8 226, .int .u8 151, .int .u8 142]) w' ∧ Below B w w' := by
  have HI := Aside0.mk h
  have HBw := Aside0.mk hBw
  clear h hBw
  go_enter Try.func32, Try.ntmps32
  go_upto_region 2 with (go_at_call 39; (with_reducible refine (check_any B b bs _ HI.out).mono ?_); rintro e w1 ⟨he, h1, hb1⟩; subst he; have HA := Aside0.mk h1; have HB1 := Aside0.mk hb1; clear h1 hb1)
  obtain ⟨hB, v, hbk, hown, hne⟩ := HA.out
  obtain ⟨ao, cap, rfl⟩ : ∃ ao cap, v = .slice ao bs.length cap := by
    rcases hown.2 with ⟨hv, h0⟩ | ⟨g, cap, cur, hv, _⟩
    · exact ⟨none, 0, by rw [hv, h0]⟩
    · exact ⟨_, _, hv⟩
  have HO := Aside0.mk hown
  have HNe := Aside0.mk hne
  have HBk := Aside0.mk hbk
  have hBw1 : B ≤ w1.heap.size := Nat.le_trans HBw.out HB1.out.size
  have c0 : w1.cell? ⟨b, 0, none⟩ = some (.pointer (some ⟨b, 0, none⟩)) := (blk_cell hbk 0).trans rfl
  have c1 : w1.cell? ⟨b, 1, none⟩ = some (.slice ao bs.length cap) := (blk_cell hbk 1).trans rfl
  clear hbk hown hne
  go_wp2_with (go_at_call 40; (with_reducible refine (append_spawn B _ bs.length bs _ HO.out hlen hBw1).mono ?_); rintro e w2 ⟨v', he, hw, o, hg⟩; subst he; have hb2 : w2.heap[b]? = some (.cells #[.pointer (some ⟨b, 0, none⟩), .slice ao bs.length cap] 68 (0, 0)) := (hg.block b (by have := blk_lt HBk.out; simp; omega) (fun e => HNe.out e.symm)).trans (blk_alloc HBk.out o); have HB2 := Aside0.mk hb2; have d0 : w2.cell? ⟨b, 0, none⟩ = some (.pointer (some ⟨b, 0, none⟩)) := (blk_cell hb2 0).trans rfl; have d1 : w2.cell? ⟨b, 1, none⟩ = some (.slice ao bs.length cap) := (blk_cell hb2 1).trans rfl; have f1 : w2.frozen? ⟨b, 1, none⟩ = false := blk_frozen hb2 1; have HBl : Aside0 (Below B w1 w2) := ⟨((Below.refl B w1).alloc hBw1 o).grown hg (by simp; omega) (fun k hk => (HO.out.lt k hk).1)⟩; have HW := Aside0.mk hw; obtain ⟨g, cap2, rfl⟩ : ∃ g cap2, v' = .slice (some ⟨g, 0, none⟩) (bs.length + 3) cap2 := (by rcases hw.2 with ⟨_, h0⟩ | ⟨g, cap2, cur, hv, _⟩; simp at h0; exact ⟨g, cap2, hv⟩); clear hb2 hw hg)
  go_ret2
  refine ⟨?_, Lib.BuilderAt.put (T := 68) (e := 5) hB HB2.out (bs' := bs ++ [.int .u8 226, .int .u8 151, .int .u8 142]) (by simpa using HW.out) (by decide), HB1.out.trans (HBl.out.setCell (p := ⟨b, 1, none⟩) hB _)⟩
  rw [show (bs.length : Int) + 3 - bs.length = 3 by omega]
  rfl

set_option maxHeartbeats 4000000 in
set_option maxRecDepth 100000 in
theorem append_floor (B : Nat) (v : Value) (n : Nat) (xs : List Value) (w : World) (hown : w.ownsRow B 5 1 v n xs) (hlen : n + 4 ≤ 1000000) (hBw : B ≤ w.heap.size) :
    Calls Try.prog 40 #[v, .int .i32 183] w (Grew B v n xs [.int .u8 194, .int .u8 183] w) := by
  have HO := Aside0.mk hown
  clear hown
  go_enter Try.func40, Try.ntmps40
  go_wp2_with (go_at_call 43; (with_reducible refine (rune_floor B v n xs _ HO.out hlen hBw).mono ?_); rintro e w1 ⟨v', he, hw, hg⟩; subst he; have HW := Aside0.mk hw; have HG := Aside0.mk hg; clear hw hg)
  go_ret
  exact ⟨v', rfl, HW.out, HG.out⟩
set_option maxHeartbeats 4000000 in
set_option maxRecDepth 100000 in
theorem write_floor (B b : Nat) (bs : List Value) (w : World) (h : Lib.IsBuilder 68 5 B b bs w) (hlen : bs.length + 4 ≤ 1000000) (hBw : B ≤ w.heap.size) :
    Calls Try.prog 32 #[.pointer (some ⟨b, 0, none⟩), .int .i32 183] w fun e w' => e = .returned (.tuple #[.int .i64 2, .nilIface]) ∧ Lib.BuilderAt 68 5 B b (.pointer (some ⟨b, 0, none⟩)) (bs ++ [.int .u8 194, .int .u8 183]) w' ∧ Below B w w' := by
  have HI := Aside0.mk h
  have HBw := Aside0.mk hBw
  clear h hBw
  go_enter Try.func32, Try.ntmps32
  go_upto_region 2 with (go_at_call 39; (with_reducible refine (check_any B b bs _ HI.out).mono ?_); rintro e w1 ⟨he, h1, hb1⟩; subst he; have HA := Aside0.mk h1; have HB1 := Aside0.mk hb1; clear h1 hb1)
  obtain ⟨hB, v, hbk, hown, hne⟩ := HA.out
  obtain ⟨ao, cap, rfl⟩ : ∃ ao cap, v = .slice ao bs.length cap := by
    rcases hown.2 with ⟨hv, h0⟩ | ⟨g, cap, cur, hv, _⟩
    · exact ⟨none, 0, by rw [hv, h0]⟩
    · exact ⟨_, _, hv⟩
  have HO := Aside0.mk hown
  have HNe := Aside0.mk hne
  have HBk := Aside0.mk hbk
  have hBw1 : B ≤ w1.heap.size := Nat.le_trans HBw.out HB1.out.size
  have c0 : w1.cell? ⟨b, 0, none⟩ = some (.pointer (some ⟨b, 0, none⟩)) := (blk_cell hbk 0).trans rfl
  have c1 : w1.cell? ⟨b, 1, none⟩ = some (.slice ao bs.length cap) := (blk_cell hbk 1).trans rfl
  clear hbk hown hne
  go_wp2_with (go_at_call 40; (with_reducible refine (append_floor B _ bs.length bs _ HO.out hlen hBw1).mono ?_); rintro e w2 ⟨v', he, hw, o, hg⟩; subst he; have hb2 : w2.heap[b]? = some (.cells #[.pointer (some ⟨b, 0, none⟩), .slice ao bs.length cap] 68 (0, 0)) := (hg.block b (by have := blk_lt HBk.out; simp; omega) (fun e => HNe.out e.symm)).trans (blk_alloc HBk.out o); have HB2 := Aside0.mk hb2; have d0 : w2.cell? ⟨b, 0, none⟩ = some (.pointer (some ⟨b, 0, none⟩)) := (blk_cell hb2 0).trans rfl; have d1 : w2.cell? ⟨b, 1, none⟩ = some (.slice ao bs.length cap) := (blk_cell hb2 1).trans rfl; have f1 : w2.frozen? ⟨b, 1, none⟩ = false := blk_frozen hb2 1; have HBl : Aside0 (Below B w1 w2) := ⟨((Below.refl B w1).alloc hBw1 o).grown hg (by simp; omega) (fun k hk => (HO.out.lt k hk).1)⟩; have HW := Aside0.mk hw; obtain ⟨g, cap2, rfl⟩ : ∃ g cap2, v' = .slice (some ⟨g, 0, none⟩) (bs.length + 2) cap2 := (by rcases hw.2 with ⟨_, h0⟩ | ⟨g, cap2, cur, hv, _⟩; simp at h0; exact ⟨g, cap2, hv⟩); clear hb2 hw hg)
  go_ret2
  refine ⟨?_, Lib.BuilderAt.put (T := 68) (e := 5) hB HB2.out (bs' := bs ++ [.int .u8 194, .int .u8 183]) (by simpa using HW.out) (by decide), HB1.out.trans (HBl.out.setCell (p := ⟨b, 1, none⟩) hB _)⟩
  rw [show (bs.length : Int) + 2 - bs.length = 2 by omega]
  rfl

set_option maxHeartbeats 4000000 in
set_option maxRecDepth 100000 in
theorem write_byte (B b : Nat) (bs : List Value) (x : Int) (w : World) (h : Lib.IsBuilder 68 5 B b bs w) (hlen : bs.length + 4 ≤ 1000000) (hBw : B ≤ w.heap.size) :
    Calls Try.prog 34 #[.pointer (some ⟨b, 0, none⟩), .int .u8 x] w fun e w' => e = .returned .nilIface ∧ Lib.BuilderAt 68 5 B b (.pointer (some ⟨b, 0, none⟩)) (bs ++ [.int .u8 x]) w' ∧ Below B w w' := by
  obtain ⟨i0, hi, hz0, hz1, hz2⟩ := info_parts info5
  have HI := Aside0.mk h
  have HBw := Aside0.mk hBw
  clear h hBw
  go_enter Try.func34, Try.ntmps34
  go_upto_region 2 with (go_at_call 39; (with_reducible refine (check_any B b bs _ HI.out).mono ?_); rintro e w1 ⟨he, h1, hb1⟩; subst he; have HA := Aside0.mk h1; have HB1 := Aside0.mk hb1; clear h1 hb1)
  obtain ⟨hB, v, hbk, hown, hne⟩ := HA.out
  obtain ⟨ao, cap, rfl⟩ : ∃ ao cap, v = .slice ao bs.length cap := by
    rcases hown.2 with ⟨hv, h0⟩ | ⟨g, cap, cur, hv, _⟩
    · exact ⟨none, 0, by rw [hv, h0]⟩
    · exact ⟨_, _, hv⟩
  have HO := Aside0.mk hown
  have HNe := Aside0.mk hne
  have HBk := Aside0.mk hbk
  have hBw1 : B ≤ w1.heap.size := Nat.le_trans HBw.out HB1.out.size
  have c0 : w1.cell? ⟨b, 0, none⟩ = some (.pointer (some ⟨b, 0, none⟩)) := (blk_cell hbk 0).trans rfl
  have c1 : w1.cell? ⟨b, 1, none⟩ = some (.slice ao bs.length cap) := (blk_cell hbk 1).trans rfl
  clear hbk hown hne
  go_wp2_with (at_builtin; refine wpList_append_own _ rfl _ _ 66 rfl B 5 i0 (.int .u8 0) 1 1 Try.underlying66 hi hz0 hz1 hz2 rfl (by decide) _ _ _ rfl (HO.out.alloc _) ⟨w1.heap.size, 0, none⟩ 1 1 [.int .u8 x] rfl rfl ?c1 ?c2 ?c3 ?c4 ?c5 ?_)
  case c1 =>
    intro j u hj
    match j, hj with
    | 0, hj => simp at hj; subst hj; exact (blk_cell (blk_new w1 (.cells #[.int .u8 x] 5 (0, 0))) 0).trans rfl
  case c2 => intro u hu; simp at hu; subst hu; rfl
  case c3 => unfold maxLen; omega
  case c4 => omega
  case c5 => simp; omega
  intro v' w2 hw hg hnil
  have hb2 : w2.heap[b]? = some (.cells #[.pointer (some ⟨b, 0, none⟩), .slice ao bs.length cap] 68 (0, 0)) := (hg.block b (by have := blk_lt HBk.out; simp; omega) (fun e => HNe.out e.symm)).trans (blk_alloc HBk.out _)
  have HB2 := Aside0.mk hb2
  have d0 : w2.cell? ⟨b, 0, none⟩ = some (.pointer (some ⟨b, 0, none⟩)) := (blk_cell hb2 0).trans rfl
  have d1 : w2.cell? ⟨b, 1, none⟩ = some (.slice ao bs.length cap) := (blk_cell hb2 1).trans rfl
  have f1 : w2.frozen? ⟨b, 1, none⟩ = false := blk_frozen hb2 1
  have HBl : Aside0 (Below B w1 w2) := ⟨((Below.refl B w1).alloc hBw1 _).grown hg (by simp; omega) (fun k hk => (HO.out.lt k hk).1)⟩
  have HW := Aside0.mk hw
  obtain ⟨g, cap2, rfl⟩ : ∃ g cap2, v' = .slice (some ⟨g, 0, none⟩) (bs.length + 1) cap2 := by
    rcases hw.2 with ⟨_, h0⟩ | ⟨g, cap2, cur, hv, _⟩
    · omega
    · exact ⟨g, cap2, hv⟩
  clear hb2 hw hg hnil
  go_wp2_with fail
  go_ret
  exact ⟨rfl, Lib.BuilderAt.put (T := 68) (e := 5) hB HB2.out (bs' := bs ++ [.int .u8 x]) (by simpa using HW.out) (by decide), HB1.out.trans (HBl.out.setCell (p := ⟨b, 1, none⟩) hB _)⟩
/-- Where a place stands. -/
def findP (p : S39) : List S39 → Nat → Int
  | [], _ => -1
  | x :: l, i => if p.f0 = x.f0 ∧ p.f1 = x.f1 then (i : Int) else findP p l (i + 1)
attribute [local go_sem high] eqA39
set_option maxHeartbeats 4000000 in
set_option maxRecDepth 100000 in
theorem indexP_any (A : Option Addr) (n c : Nat) (xs : List S39) (p : S39) (w : World) (hC : Kd.C k39 w A n xs) (hl : xs.length ≤ 1100) :
    Calls Try.prog 41 #[.slice A n c, .agg #[.int .i64 p.f0, .int .i64 p.f1]] w fun e w' => e = .returned (.int .i64 (findP p xs 0)) ∧ Below w.heap.size w w' := by
  have hu39 := Try.underlying39
  have HC := Aside0.mk (Kd.C_alloc hC (.cells #[.int .i64 p.f0, .int .i64 p.f1] 39 (0, 0)))
  have HP := Aside0.mk (blk_new w (.cells #[.int .i64 p.f0, .int .i64 p.f1] 39 (0, 0)))
  have HB0 : Aside0 (Below w.heap.size w (w.alloc (.cells #[.int .i64 p.f0, .int .i64 p.f1] 39 (0, 0)))) := ⟨below_alloc (Below.refl _ _) _⟩
  obtain rfl : xs.length = n := Kd.C_len hC
  clear hC
  go_enter Try.func41, Try.ntmps41
  go_wp2_with fail
  generalize w.alloc (.cells #[.int .i64 p.f0, .int .i64 p.f1] 39 (0, 0)) = W1 at *
  obtain ⟨B, hB⟩ : ∃ X, w.heap.size = X := ⟨_, rfl⟩
  rw [hB] at HP
  rw [hB]
  have HBB := Aside0.mk hB
  clear hB
  go_loopg [8] xs.length (fun kq v8 w' => ∃ k : Nat, v8 = .int .i64 (k : Int) ∧ Aside0 (kq + k = xs.length) ∧ Aside0 (findP p (xs.drop k) k = findP p xs 0) ∧ Aside0 (Below W1.heap.size W1 w'))
  case atStart => exact ⟨0, rfl, ⟨rfl⟩, ⟨rfl⟩, ⟨Below.refl _ _⟩⟩
  case round =>
    obtain ⟨k, rfl, HK, HD, HB⟩ := hrel
    by_cases hi : (k : Int) < (xs.length : Int)
    · obtain ⟨ad, e, x0, x1⟩ := at_T39 (Kd.C_below HC.out HB.out) (k : Int) (by omega) hi
      cases e
      simp only [Int.toNat_natCast] at x0 x1
      have HD2 := Aside0.mk (drop_rd xs (show k < xs.length by omega))
      have p0 : wr.cell? ⟨B, 0, none⟩ = some (.int .i64 p.f0) := (blk_cell (blk_below HP.out HB.out) 0).trans rfl
      have p1 : wr.cell? ⟨B, 1, none⟩ = some (.int .i64 p.f1) := (blk_cell (blk_below HP.out HB.out) 1).trans rfl
      have hi1 : (0 : Int) ≤ k := by omega
      generalize rd_T39 xs (k : Int) = y at *
      by_cases hy : p.f0 = y.f0 ∧ p.f1 = y.f1
      · have hpb : (p.f0 == y.f0 && (p.f1 == y.f1)) = true := by rw [hy.1, hy.2]; simp
        have HE : Aside0 (findP p xs 0 = (k : Int)) := ⟨by rw [← HD.out, HD2.out, findP, if_pos hy]⟩
        clear hy
        go_upto_region 4 with fail
        go_quiet (fail)
        go_wp2_with fail
        go_ret
        exact ⟨by rw [HE.out]; rfl, HB0.out.trans ((by repeat (first | exact HB.out | apply below_drew | apply pw_below_drewN) : Below W1.heap.size W1 _).mono HB0.out.size)⟩
      · have hpb : (p.f0 == y.f0 && (p.f1 == y.f1)) = false := by
          rw [Bool.and_eq_false_iff]
          by_cases h : p.f0 = y.f0
          · right; simpa using fun h2 => hy ⟨h, h2⟩
          · left; simpa using h
        have HE : Aside0 (findP p (xs.drop (k + 1)) (k + 1) = findP p xs 0) := ⟨by rw [← HD.out, HD2.out, findP, if_neg hy]⟩
        clear hy
        go_upto_region 4 with fail
        go_quiet (fail)
        go_wp2_with fail
        go_roundg (gk - 1)
        case measure => have := HK.out; omega
        case rel => exact ⟨k + 1, by simp, ⟨by have := HK.out; omega⟩, HE, ⟨by repeat (first | exact HB.out | apply below_drew | apply pw_below_drewN)⟩⟩
    · have hi2 : (xs.length : Int) ≤ k := by omega
      have HE : Aside0 (findP p xs 0 = -1) := ⟨by rw [← HD.out, List.drop_eq_nil_of_le (by omega)]; rfl⟩
      go_wp2_with fail
      go_ret
      exact ⟨by rw [HE.out]; rfl, HB0.out.trans (HB.out.mono HB0.out.size)⟩
theorem findP_has (p : S39) : ∀ (l : List S39) (i : Nat), decide (0 ≤ findP p l i) = hasS l p
  | [], _ => rfl
  | x :: l, i => by
    unfold findP hasS
    rw [List.any_cons]
    by_cases h : p.f0 = x.f0 ∧ p.f1 = x.f1
    · rw [if_pos h, h.1, h.2]; simp
    · rw [if_neg h]
      have : (x.f0 == p.f0 && (x.f1 == p.f1)) = false := by
        rw [Bool.and_eq_false_iff]
        by_cases h0 : p.f0 = x.f0
        · right; simpa using fun h2 => h ⟨h0, h2.symm⟩
        · left; simpa using fun h2 => h0 h2.symm
      rw [this, Bool.false_or]
      exact findP_has p l (i + 1)
theorem contains_any (A : Option Addr) (n c : Nat) (xs : List S39) (p : S39) (w : World) (hC : Kd.C k39 w A n xs) (hl : xs.length ≤ 1100) :
    Calls Try.prog 33 #[.slice A n c, .agg #[.int .i64 p.f0, .int .i64 p.f1]] w fun e w' => e = .returned (.bool (hasS xs p)) ∧ Below w.heap.size w w' := by
  have hu39 := Try.underlying39
  have HC := Aside0.mk (Kd.C_alloc hC (.cells #[.int .i64 p.f0, .int .i64 p.f1] 39 (0, 0)))
  have HB := Aside0.mk (below_alloc (Below.refl w.heap.size w) (.cells #[.int .i64 p.f0, .int .i64 p.f1] 39 (0, 0)))
  have HF := Aside0.mk (findP_has p xs 0)
  clear hC
  go_enter Try.func33, Try.ntmps33
  go_wp2_with (go_at_call 41; (with_reducible refine (indexP_any A n c xs p _ HC.out hl).mono ?_); rintro e w1 ⟨he, hb1⟩; subst he; have HB1 := Aside0.mk (HB.out.trans (hb1.mono HB.out.size)); clear hb1)
  go_ret
  exact ⟨by rw [← HF.out]; rfl, HB1.out⟩
end Go.Proofs.Ytgppnfnbihngnaa.Tiles
