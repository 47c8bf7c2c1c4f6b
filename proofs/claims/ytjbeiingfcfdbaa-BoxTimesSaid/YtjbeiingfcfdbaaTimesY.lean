/- The walk of the law 'BoxTimes' over the contracts of what it calls. -/
import Derived.Test.YtjbeiingfcfdbaaTimesX
import Derived.Deep.RegionHeld3
set_option linter.unusedVariables false
set_option linter.unusedSimpArgs false
namespace Go.Proofs.Ytjbeiingfcfdbaa.PBoxTimes
open Go.RowKit Go.Proofs.YtjbeiingfcfdbaaW.PrintWords Go.Proofs.YtjbeiingfcfdbaaW.PrintLast Go.Proofs.YtjbeiingfcfdbaaW.PrintMore
theorem at_new (w : World) (C : Array Value) (t : TypeId) (n j : Nat) (hn : n = w.heap.size) : (w.alloc (.cells C t)).cell? ⟨n, j, none⟩ = C[j]? := by subst hn; exact World.cell?_alloc_mark w C t (0, 0) j
theorem stepC {B : Nat} {W W' : World} {b o : Nat} {v : Value} (hb : Below B W W') (h : W.cell? ⟨b, o, none⟩ = some v) (hB : W.heap.size ≤ B := by exact Nat.le_refl _) : W'.cell? ⟨b, o, none⟩ = some v :=
  (hb.cell (p := ⟨b, o, none⟩) (Nat.lt_of_lt_of_le (World.block_lt_of_cell? W ⟨b, o, none⟩ h) hB)).trans h
set_option maxHeartbeats 2000000 in
set_option maxRecDepth 100000 in
theorem times_walk (s0 s1 t0 t1 x y h r1 r2 r3 r4 : Int) (c : Bool) (w : World) (A0 : Aside0 (ricochetlaw03_awake.f = some true)) (A1 : Aside0 (box_Ahead.f s0 s1 t0 t1 = some c)) (A2 : Aside0 (ricochetref03_Ahead.f s0 s1 t0 t1 = some c)) (A3 : Aside0 (box_Around.f x y h = some (r1, r2, r3, r4))) (A4 : Aside0 (ricochetlaw03_plain.f r1 r2 r3 r4 = some (r1, r2, r3, r4)))
    (A5 : Aside0 (ricochetref01_Sub.f x h = some r1)) (A6 : Aside0 (ricochetref01_Sub.f y h = some r2)) (A7 : Aside0 (ricochetref01_Add.f x h = some r3)) (A8 : Aside0 (ricochetref01_Add.f y h = some r4)) :
    Calls Try.prog 5 #[.agg #[.int .i64 s0, .int .i64 s1], .agg #[.int .i64 t0, .int .i64 t1], .agg #[.int .i64 x, .int .i64 y, .int .i64 h]] w fun e w' => e = .returned (.bool true) ∧ Below w.heap.size w w' := by
  have hu29 := Try.underlying29
  have hu34 := Try.underlying34
  have HB := Aside0.mk (Below.refl w.heap.size w)
  have c0 : (c == c) = true := beq_self_eq_true c
  go_enter Try.func5, Try.ntmps5
  have z1 : ∀ o : Obj, (w.alloc o).heap.size = w.heap.size + 1 := fun o => by simp
  go_wp2_with fail
  have f2 : ((((w.alloc (.cells #[.int .i64 s0, .int .i64 s1] 23)).alloc (.cells #[.int .i64 t0, .int .i64 t1] 23)).alloc (.cells #[.int .i64 x, .int .i64 y, .int .i64 h] 41)).alloc (.cells #[.int .i64 x, .int .i64 y] 29)).cell? ⟨w.heap.size + 1 + 1, 2, none⟩ = some (.int .i64 h) := (World.cell?_alloc_lt _ _ _ (by simp)).trans (at_new _ _ _ _ _ (by simp))
  have f3 : ((((w.alloc (.cells #[.int .i64 s0, .int .i64 s1] 23)).alloc (.cells #[.int .i64 t0, .int .i64 t1] 23)).alloc (.cells #[.int .i64 x, .int .i64 y, .int .i64 h] 41)).alloc (.cells #[.int .i64 x, .int .i64 y] 29)).cell? ⟨w.heap.size + 1 + 1 + 1, 0, none⟩ = some (.int .i64 x) := at_new _ _ _ _ _ (by simp)
  have f4 : ((((w.alloc (.cells #[.int .i64 s0, .int .i64 s1] 23)).alloc (.cells #[.int .i64 t0, .int .i64 t1] 23)).alloc (.cells #[.int .i64 x, .int .i64 y, .int .i64 h] 41)).alloc (.cells #[.int .i64 x, .int .i64 y] 29)).cell? ⟨w.heap.size + 1 + 1 + 1, 1, none⟩ = some (.int .i64 y) := at_new _ _ _ _ _ (by simp)
  clear z1
  go_region_held3 (fun w' => w'.cell? ⟨w.heap.size, 0, none⟩ = some (.int .i64 s0) ∧ w'.cell? ⟨w.heap.size, 1, none⟩ = some (.int .i64 s1) ∧ w'.cell? ⟨w.heap.size + 1, 0, none⟩ = some (.int .i64 t0) ∧ w'.cell? ⟨w.heap.size + 1, 1, none⟩ = some (.int .i64 t1) ∧ w'.cell? ⟨w.heap.size + 1 + 1, 2, none⟩ = some (.int .i64 h) ∧ w'.cell? ⟨w.heap.size + 1 + 1 + 1, 0, none⟩ = some (.int .i64 x) ∧ w'.cell? ⟨w.heap.size + 1 + 1 + 1, 1, none⟩ = some (.int .i64 y))
    (first | go_keep | ((repeat' apply And.intro) <;> (first | (simp [*]; done) | (refine stepC (by assumption) ?_; simp [*]; done))))
    (first | (go_at_call 10; (with_reducible refine (ricochetlaw03_awake.calls true _ A0.out).mono ?_); rintro e w9 ⟨rfl, hb⟩; have n0_ := Aside0.mk (below_step (by repeat (first | (with_reducible first | exact HB.out | apply below_alloc | apply pw_below_drewN | apply below_drew1) | exact HB.out)) hb); clear HB; have HB := n0_; clear n0_) | (go_at_call 11; (with_reducible refine (box_Ahead.calls s0 s1 t0 t1 c _ A1.out).mono ?_); rintro e w9 ⟨rfl, hb⟩; have n0_ := Aside0.mk (below_step (by repeat (first | (with_reducible first | exact HB.out | apply below_alloc | apply pw_below_drewN | apply below_drew1) | exact HB.out)) hb); clear HB; have HB := n0_; clear n0_) | (go_at_call 19; (with_reducible refine (ricochetref03_Ahead.calls s0 s1 t0 t1 c _ A2.out).mono ?_); rintro e w9 ⟨rfl, hb⟩; have n0_ := Aside0.mk (below_step (by repeat (first | (with_reducible first | exact HB.out | apply below_alloc | apply pw_below_drewN | apply below_drew1) | exact HB.out)) hb); clear HB; have HB := n0_; clear n0_) | (go_at_call 20; (with_reducible refine (box_Around.calls x y h r1 r2 r3 r4 _ A3.out).mono ?_); rintro e w9 ⟨rfl, hb⟩; have n0_ := Aside0.mk (below_step (by repeat (first | (with_reducible first | exact HB.out | apply below_alloc | apply pw_below_drewN | apply below_drew1) | exact HB.out)) hb); clear HB; have HB := n0_; clear n0_) | (go_at_call 14; (with_reducible refine (ricochetlaw03_plain.calls r1 r2 r3 r4 r1 r2 r3 r4 _ A4.out).mono ?_); rintro e w9 ⟨rfl, hb⟩; have n0_ := Aside0.mk (below_step (by repeat (first | (with_reducible first | exact HB.out | apply below_alloc | apply pw_below_drewN | apply below_drew1) | exact HB.out)) hb); clear HB; have HB := n0_; clear n0_) | (go_at_call 21; (with_reducible refine (ricochetref03_Around.calls x y h r1 r2 r3 r4 _ A5 A6 A7 A8).mono ?_); rintro e w9 ⟨rfl, hb⟩; have n0_ := Aside0.mk (below_step (by repeat (first | (with_reducible first | exact HB.out | apply below_alloc | apply pw_below_drewN | apply below_drew1) | exact HB.out)) hb); clear HB; have HB := n0_; clear n0_))
  go_wp2_with fail
  go_ret
  exact ⟨by first | rfl | (simp; done), by repeat (first | (with_reducible first | exact HB.out | apply below_alloc | apply pw_below_drewN | apply below_drew1) | exact HB.out)⟩
end Go.Proofs.Ytjbeiingfcfdbaa.PBoxTimes
