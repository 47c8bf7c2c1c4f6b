-- PRINTED BY print.sh 35421559b90ae4d0a3588c463048766b98c2df88dd9212a6774a882060cdf62d: not written by this session
import Derived.Test.YtjbeiingfcfdbaaPBoxFirstx0
import Derived.Test.YtjbeiingfcfdbaaPBoxFirstx2
import Derived.Test.YtjbeiingfcfdbaaPBoxFirstx3
namespace Go.Proofs.Ytjbeiingfcfdbaa.PBoxFirst
open Go.RowKit Go.Proofs.YtjbeiingfcfdbaaW.PrintWords Go.Proofs.YtjbeiingfcfdbaaW.PrintLast Go.Proofs.YtjbeiingfcfdbaaW.PrintMore
attribute [local go_sem] max2_int min2_int max_two min_two max_three min_three max_four min_four   -- for this text's walks alone
set_option linter.unusedVariables false
set_option linter.unusedSimpArgs false

/-! ### box_Meet: function 23 -/
mutual
def box_Meet.j0 : Nat → Bool → Int → Int → Int → Int → Int → Int → Int → Int → Option (Int × Int × Bool)
  | 0, _, _, _, _, _, _, _, _, _ => none
  | k + 1, x26, x121000, x121001, x122000, x122001, x123000, x123001, x123002, x123003 => if x26 = true then (some (0, 0, false)) else ((box_span.f k x121000 x122000 x123000 x123002).bind fun bt127 => ((box_span.f k x121001 x122001 x123001 x123003).bind fun bt134 => (if bt127.2.2.2.2 = true then (box_Meet.j1 k (!bt134.2.2.2.2) bt127.1 bt127.2.1 bt127.2.2.1 bt127.2.2.2.1 bt134.1 bt134.2.1 bt134.2.2.1 bt134.2.2.2.1) else (box_Meet.j1 k true bt127.1 bt127.2.1 bt127.2.2.1 bt127.2.2.2.1 bt134.1 bt134.2.1 bt134.2.2.1 bt134.2.2.2.1))))
def box_Meet.j1 : Nat → Bool → Int → Int → Int → Int → Int → Int → Int → Int → Option (Int × Int × Bool)
  | 0, _, _, _, _, _, _, _, _, _ => none
  | k + 1, x63, x133000, x133001, x134000, x134001, x140000, x140001, x141000, x141001 => if x63 = true then (some (0, 0, false)) else ((box_Ahead.f x133000 x133001 x140000 x140001).bind fun t141 => (if t141 = true then (box_Meet.j2 k x140000 x140001 x134000 x134001 x141000 x141001) else (box_Meet.j2 k x133000 x133001 x134000 x134001 x141000 x141001)))
def box_Meet.j2 : Nat → Int → Int → Int → Int → Int → Int → Option (Int × Int × Bool)
  | 0, _, _, _, _, _, _ => none
  | k + 1, x133000, x133001, x134000, x134001, x141000, x141001 => (box_Ahead.f x141000 x141001 x134000 x134001).bind fun t142 => (if t142 = true then ((box_Ahead.f x141000 x141001 x133000 x133001).bind fun t143 => (if t143 = true then (some (0, 0, false)) else (some (x133000, x133001, true)))) else ((box_Ahead.f x134000 x134001 x133000 x133001).bind fun t144 => (if t144 = true then (some (0, 0, false)) else (some (x133000, x133001, true)))))
end
def box_Meet.f (k : Nat) (a0_0 : Int) (a0_1 : Int) (a1_0 : Int) (a1_1 : Int) (a2_0 : Int) (a2_1 : Int) (a2_2 : Int) (a2_3 : Int) : Option (Int × Int × Bool) := (vec_Formed.f a0_0 a0_1).bind fun t124 => (if t124 = true then ((vec_Formed.f a1_0 a1_1).bind fun t125 => (if t125 = true then ((box_Formed.f a2_0 a2_1 a2_2 a2_3).bind fun t126 => (box_Meet.j0 k (!t126) a0_0 a0_1 a1_0 a1_1 a2_0 a2_1 a2_2 a2_3)) else (box_Meet.j0 k true a0_0 a0_1 a1_0 a1_1 a2_0 a2_1 a2_2 a2_3))) else (box_Meet.j0 k true a0_0 a0_1 a1_0 a1_1 a2_0 a2_1 a2_2 a2_3))
theorem box_Meet.mono_l : ∀ k, (∀ y0 y1 y2 y3 y4 y5 y6 y7 y8, LeO (box_Meet.j0 k y0 y1 y2 y3 y4 y5 y6 y7 y8) (box_Meet.j0 (k + 1) y0 y1 y2 y3 y4 y5 y6 y7 y8)) ∧ (∀ y0 y1 y2 y3 y4 y5 y6 y7 y8, LeO (box_Meet.j1 k y0 y1 y2 y3 y4 y5 y6 y7 y8) (box_Meet.j1 (k + 1) y0 y1 y2 y3 y4 y5 y6 y7 y8)) ∧ (∀ y0 y1 y2 y3 y4 y5, LeO (box_Meet.j2 k y0 y1 y2 y3 y4 y5) (box_Meet.j2 (k + 1) y0 y1 y2 y3 y4 y5))
  | 0 => ⟨fun _ _ _ _ _ _ _ _ _ r h => by simp [box_Meet.j0] at h, fun _ _ _ _ _ _ _ _ _ r h => by simp [box_Meet.j1] at h, fun _ _ _ _ _ _ r h => by simp [box_Meet.j2] at h⟩
  | k + 1 => by
    obtain ⟨ih0, ih1, ih2⟩ := box_Meet.mono_l k
    refine ⟨?_, ?_, ?_⟩
    · intro y0 y1 y2 y3 y4 y5 y6 y7 y8
      unfold box_Meet.j0
      repeat' first
      | (with_reducible exact ih0 _ _ _ _ _ _ _ _ _)
      | (with_reducible exact ih1 _ _ _ _ _ _ _ _ _)
      | (with_reducible exact ih2 _ _ _ _ _ _)
      | (with_reducible exact box_span.mono _ _ _ _ _)
      | (with_reducible exact LeO.refl _)
      | (with_reducible exact LeO.none _)
      | (with_reducible refine LeO.ite ?_ ?_)
      | (with_reducible refine LeO.bind ?_ (fun _ => ?_))
      | exact ih0 _ _ _ _ _ _ _ _ _
      | exact ih1 _ _ _ _ _ _ _ _ _
      | exact ih2 _ _ _ _ _ _
      | exact box_span.mono _ _ _ _ _
      | exact LeO.none _
      | refine LeO.ite ?_ ?_
      | refine LeO.bind ?_ (fun _ => ?_)
    · intro y0 y1 y2 y3 y4 y5 y6 y7 y8
      unfold box_Meet.j1
      repeat' first
      | (with_reducible exact ih0 _ _ _ _ _ _ _ _ _)
      | (with_reducible exact ih1 _ _ _ _ _ _ _ _ _)
      | (with_reducible exact ih2 _ _ _ _ _ _)
      | (with_reducible exact box_span.mono _ _ _ _ _)
      | (with_reducible exact LeO.refl _)
      | (with_reducible exact LeO.none _)
      | (with_reducible refine LeO.ite ?_ ?_)
      | (with_reducible refine LeO.bind ?_ (fun _ => ?_))
      | exact ih0 _ _ _ _ _ _ _ _ _
      | exact ih1 _ _ _ _ _ _ _ _ _
      | exact ih2 _ _ _ _ _ _
      | exact box_span.mono _ _ _ _ _
      | exact LeO.none _
      | refine LeO.ite ?_ ?_
      | refine LeO.bind ?_ (fun _ => ?_)
    · intro y0 y1 y2 y3 y4 y5
      unfold box_Meet.j2
      repeat' first
      | (with_reducible exact ih0 _ _ _ _ _ _ _ _ _)
      | (with_reducible exact ih1 _ _ _ _ _ _ _ _ _)
      | (with_reducible exact ih2 _ _ _ _ _ _)
      | (with_reducible exact box_span.mono _ _ _ _ _)
      | (with_reducible exact LeO.refl _)
      | (with_reducible exact LeO.none _)
      | (with_reducible refine LeO.ite ?_ ?_)
      | (with_reducible refine LeO.bind ?_ (fun _ => ?_))
      | exact ih0 _ _ _ _ _ _ _ _ _
      | exact ih1 _ _ _ _ _ _ _ _ _
      | exact ih2 _ _ _ _ _ _
      | exact box_span.mono _ _ _ _ _
      | exact LeO.none _
      | refine LeO.ite ?_ ?_
      | refine LeO.bind ?_ (fun _ => ?_)
theorem box_Meet.mono : ∀ a0 a1 a2 a3 a4 a5 a6 a7 k, LeO (box_Meet.f k a0 a1 a2 a3 a4 a5 a6 a7) (box_Meet.f (k + 1) a0 a1 a2 a3 a4 a5 a6 a7) := by
  intro a0 a1 a2 a3 a4 a5 a6 a7 k
  obtain ⟨ih0, ih1, ih2⟩ := box_Meet.mono_l k
  unfold box_Meet.f
  repeat' first
      | (with_reducible exact ih0 _ _ _ _ _ _ _ _ _)
      | (with_reducible exact ih1 _ _ _ _ _ _ _ _ _)
      | (with_reducible exact ih2 _ _ _ _ _ _)
      | (with_reducible exact box_span.mono _ _ _ _ _)
      | (with_reducible exact LeO.refl _)
      | (with_reducible exact LeO.none _)
      | (with_reducible refine LeO.ite ?_ ?_)
      | (with_reducible refine LeO.bind ?_ (fun _ => ?_))
      | exact ih0 _ _ _ _ _ _ _ _ _
      | exact ih1 _ _ _ _ _ _ _ _ _
      | exact ih2 _ _ _ _ _ _
      | exact box_span.mono _ _ _ _ _
      | exact LeO.none _
      | refine LeO.ite ?_ ?_
      | refine LeO.bind ?_ (fun _ => ?_)
set_option maxHeartbeats 8000000 in
set_option maxRecDepth 100000 in
theorem box_Meet.calls (k : Nat) (a0_0 : Int) (a0_1 : Int) (a1_0 : Int) (a1_1 : Int) (a2_0 : Int) (a2_1 : Int) (a2_2 : Int) (a2_3 : Int) (r1 : Int) (r2 : Int) (r3 : Bool) (w : World) (h : box_Meet.f k a0_0 a0_1 a1_0 a1_1 a2_0 a2_1 a2_2 a2_3 = some (r1, r2, r3)) :
    Calls Try.prog 23 #[.agg #[.int .i64 a0_0, .int .i64 a0_1], .agg #[.int .i64 a1_0, .int .i64 a1_1], .agg #[.int .i64 a2_0, .int .i64 a2_1, .int .i64 a2_2, .int .i64 a2_3]] w fun e w' => e = .returned (.tuple #[.agg #[.int .i64 r1, .int .i64 r2], .bool r3]) ∧ Below w.heap.size w w' := by
  have hu29 := Try.underlying29
  have hu31 := Try.underlying31
  have hu23 := Try.underlying23
  have HB := Aside0.mk (Below.refl w.heap.size w)
  have H : ((vec_Formed.f a0_0 a0_1).bind fun t124 => (if t124 = true then ((vec_Formed.f a1_0 a1_1).bind fun t125 => (if t125 = true then ((box_Formed.f a2_0 a2_1 a2_2 a2_3).bind fun t126 => (box_Meet.j0 k (!t126) a0_0 a0_1 a1_0 a1_1 a2_0 a2_1 a2_2 a2_3)) else (box_Meet.j0 k true a0_0 a0_1 a1_0 a1_1 a2_0 a2_1 a2_2 a2_3))) else (box_Meet.j0 k true a0_0 a0_1 a1_0 a1_1 a2_0 a2_1 a2_2 a2_3))) = some (r1, r2, r3) := h
  clear h
  have HC4 := Aside0.mk H
  clear H
  go_enter Try.func23, Try.ntmps23
  go_upto_region 1 with (first | ((with_reducible refine gate_dst (N := 3) rfl ?_); refine box_event ?hg (N := 3) ?hd (cs := #[.int .i64 a0_0, .int .i64 a0_1]) (t := 29) ?hr ?_; (case hd => rfl); (case hg => rfl); (case hr => first | (go_simp; done) | (go_simp; rfl)); intro gb120 hg w5 hbox hb; have n0_ := Aside0.mk (below_step (by repeat (first | (with_reducible first | exact HB.out | apply below_alloc | apply pw_below_drewN | apply below_drew1) | exact HB.out)) hb); have n1_ := Aside0.mk (hbox); have n2_ := Aside0.mk ((by rw [hg]; exact (below_size (by repeat (first | (with_reducible first | exact HB.out | apply below_alloc | apply pw_below_drewN | apply below_drew1) | exact HB.out))) : w.heap.size ≤ gb120)); have n3_ := Aside0.mk ((by rw [hg]; exact (below_size (by repeat (first | (with_reducible first | exact HB.out | apply below_alloc | apply pw_below_drewN | apply below_drew1) | exact HB.out))) : w.heap.size ≤ gb120)); clear HB; have HB := n0_; have BK120 := n1_; have GW120 := n2_; have GE120 := n3_; clear n0_ n1_ n2_ n3_; clear hb hbox hg) | ((with_reducible refine gate_dst (N := 4) rfl ?_); refine box_event ?hg (N := 4) ?hd (cs := #[.int .i64 a1_0, .int .i64 a1_1]) (t := 29) ?hr ?_; (case hd => rfl); (case hg => rfl); (case hr => first | (go_simp; done) | (go_simp; rfl)); intro gb121 hg w6 hbox hb; have n0_ := Aside0.mk (blk_below (g := gb120) (o := .cells #[.int .i64 a0_0, .int .i64 a0_1] 29 (0, 0)) (by (with_reducible repeat (first | refine blk_drewN ?_ _ | refine blk_drew ?_ | refine blk_alloc ?_ _)); exact BK120.out) hb); have n1_ := Aside0.mk (below_step (by repeat (first | (with_reducible first | exact HB.out | apply below_alloc | apply pw_below_drewN | apply below_drew1 | refine below_set ?_ GE120.out) | exact HB.out)) hb); have n2_ := Aside0.mk (hbox); have n3_ := Aside0.mk ((by rw [hg]; exact (below_size (by repeat (first | (with_reducible first | exact HB.out | apply below_alloc | apply pw_below_drewN | apply below_drew1 | refine below_set ?_ GE120.out) | exact HB.out))) : w.heap.size ≤ gb121)); have n4_ := Aside0.mk ((by rw [hg]; exact (below_size (by repeat (first | (with_reducible first | exact HB.out | apply below_alloc | apply pw_below_drewN | apply below_drew1 | refine below_set ?_ GE120.out) | exact HB.out))) : w.heap.size ≤ gb121)); have n5_ := Aside0.mk ((by rw [hg]; exact Nat.ne_of_lt (blk_lt (g := gb120) (o := .cells #[.int .i64 a0_0, .int .i64 a0_1] 29 (0, 0)) (by (with_reducible repeat (first | refine blk_drewN ?_ _ | refine blk_drew ?_ | refine blk_alloc ?_ _)); exact BK120.out)) : gb120 ≠ gb121)); have n6_ := Aside0.mk ((by rw [hg]; exact Nat.ne_of_gt (blk_lt (g := gb120) (o := .cells #[.int .i64 a0_0, .int .i64 a0_1] 29 (0, 0)) (by (with_reducible repeat (first | refine blk_drewN ?_ _ | refine blk_drew ?_ | refine blk_alloc ?_ _)); exact BK120.out)) : gb121 ≠ gb120)); clear BK120; clear HB; have BK120 := n0_; have HB := n1_; have BK121 := n2_; have GW121 := n3_; have GE121 := n4_; have NB120_121 := n5_; have NB121_120 := n6_; clear n0_ n1_ n2_ n3_ n4_ n5_ n6_; clear hb hbox hg) | ((with_reducible refine gate_dst (N := 5) rfl ?_); refine box_event ?hg (N := 5) ?hd (cs := #[.int .i64 a2_0, .int .i64 a2_1, .int .i64 a2_2, .int .i64 a2_3]) (t := 31) ?hr ?_; (case hd => rfl); (case hg => rfl); (case hr => first | (go_simp; done) | (go_simp; rfl)); intro gb122 hg w7 hbox hb; have n0_ := Aside0.mk (blk_below (g := gb120) (o := .cells #[.int .i64 a0_0, .int .i64 a0_1] 29 (0, 0)) (by (with_reducible repeat (first | refine blk_drewN ?_ _ | refine blk_drew ?_ | refine blk_alloc ?_ _)); exact BK120.out) hb); have n1_ := Aside0.mk (blk_below (g := gb121) (o := .cells #[.int .i64 a1_0, .int .i64 a1_1] 29 (0, 0)) (by (with_reducible repeat (first | refine blk_drewN ?_ _ | refine blk_drew ?_ | refine blk_alloc ?_ _)); exact BK121.out) hb); have n2_ := Aside0.mk (below_step (by repeat (first | (with_reducible first | exact HB.out | apply below_alloc | apply pw_below_drewN | apply below_drew1 | refine below_set ?_ GE120.out | refine below_set ?_ GE121.out) | exact HB.out)) hb); have n3_ := Aside0.mk (hbox); have n4_ := Aside0.mk ((by rw [hg]; exact (below_size (by repeat (first | (with_reducible first | exact HB.out | apply below_alloc | apply pw_below_drewN | apply below_drew1 | refine below_set ?_ GE120.out | refine below_set ?_ GE121.out) | exact HB.out))) : w.heap.size ≤ gb122)); have n5_ := Aside0.mk ((by rw [hg]; exact (below_size (by repeat (first | (with_reducible first | exact HB.out | apply below_alloc | apply pw_below_drewN | apply below_drew1 | refine below_set ?_ GE120.out | refine below_set ?_ GE121.out) | exact HB.out))) : w.heap.size ≤ gb122)); have n6_ := Aside0.mk ((by rw [hg]; exact Nat.ne_of_lt (blk_lt (g := gb120) (o := .cells #[.int .i64 a0_0, .int .i64 a0_1] 29 (0, 0)) (by (with_reducible repeat (first | refine blk_drewN ?_ _ | refine blk_drew ?_ | refine blk_alloc ?_ _)); exact BK120.out)) : gb120 ≠ gb122)); have n7_ := Aside0.mk ((by rw [hg]; exact Nat.ne_of_gt (blk_lt (g := gb120) (o := .cells #[.int .i64 a0_0, .int .i64 a0_1] 29 (0, 0)) (by (with_reducible repeat (first | refine blk_drewN ?_ _ | refine blk_drew ?_ | refine blk_alloc ?_ _)); exact BK120.out)) : gb122 ≠ gb120)); have n8_ := Aside0.mk ((by rw [hg]; exact Nat.ne_of_lt (blk_lt (g := gb121) (o := .cells #[.int .i64 a1_0, .int .i64 a1_1] 29 (0, 0)) (by (with_reducible repeat (first | refine blk_drewN ?_ _ | refine blk_drew ?_ | refine blk_alloc ?_ _)); exact BK121.out)) : gb121 ≠ gb122)); have n9_ := Aside0.mk ((by rw [hg]; exact Nat.ne_of_gt (blk_lt (g := gb121) (o := .cells #[.int .i64 a1_0, .int .i64 a1_1] 29 (0, 0)) (by (with_reducible repeat (first | refine blk_drewN ?_ _ | refine blk_drew ?_ | refine blk_alloc ?_ _)); exact BK121.out)) : gb122 ≠ gb121)); clear BK120; clear BK121; clear HB; have BK120 := n0_; have BK121 := n1_; have HB := n2_; have BK122 := n3_; have GW122 := n4_; have GE122 := n5_; have NB120_122 := n6_; have NB122_120 := n7_; have NB121_122 := n8_; have NB122_121 := n9_; clear n0_ n1_ n2_ n3_ n4_ n5_ n6_ n7_ n8_ n9_; clear hb hbox hg) | ((with_reducible refine gate_dst (N := 6) rfl ?_); refine box_event ?hg (N := 6) ?hd (cs := #[.int .i64 0, .int .i64 0]) (t := 23) ?hr ?_; (case hd => rfl); (case hg => rfl); (case hr => first | (go_simp; done) | (go_simp; rfl)); intro gb123 hg w8 hbox hb; have n0_ := Aside0.mk (blk_below (g := gb120) (o := .cells #[.int .i64 a0_0, .int .i64 a0_1] 29 (0, 0)) (by (with_reducible repeat (first | refine blk_drewN ?_ _ | refine blk_drew ?_ | refine blk_alloc ?_ _)); exact BK120.out) hb); have n1_ := Aside0.mk (blk_below (g := gb121) (o := .cells #[.int .i64 a1_0, .int .i64 a1_1] 29 (0, 0)) (by (with_reducible repeat (first | refine blk_drewN ?_ _ | refine blk_drew ?_ | refine blk_alloc ?_ _)); exact BK121.out) hb); have n2_ := Aside0.mk (blk_below (g := gb122) (o := .cells #[.int .i64 a2_0, .int .i64 a2_1, .int .i64 a2_2, .int .i64 a2_3] 31 (0, 0)) (by (with_reducible repeat (first | refine blk_drewN ?_ _ | refine blk_drew ?_ | refine blk_alloc ?_ _)); exact BK122.out) hb); have n3_ := Aside0.mk (below_step (by repeat (first | (with_reducible first | exact HB.out | apply below_alloc | apply pw_below_drewN | apply below_drew1 | refine below_set ?_ GE120.out | refine below_set ?_ GE121.out | refine below_set ?_ GE122.out) | exact HB.out)) hb); have n4_ := Aside0.mk (hbox); have n5_ := Aside0.mk ((by rw [hg]; exact (below_size (by repeat (first | (with_reducible first | exact HB.out | apply below_alloc | apply pw_below_drewN | apply below_drew1 | refine below_set ?_ GE120.out | refine below_set ?_ GE121.out | refine below_set ?_ GE122.out) | exact HB.out))) : w.heap.size ≤ gb123)); have n6_ := Aside0.mk ((by rw [hg]; exact (below_size (by repeat (first | (with_reducible first | exact HB.out | apply below_alloc | apply pw_below_drewN | apply below_drew1 | refine below_set ?_ GE120.out | refine below_set ?_ GE121.out | refine below_set ?_ GE122.out) | exact HB.out))) : w.heap.size ≤ gb123)); have n7_ := Aside0.mk ((by rw [hg]; exact Nat.ne_of_lt (blk_lt (g := gb120) (o := .cells #[.int .i64 a0_0, .int .i64 a0_1] 29 (0, 0)) (by (with_reducible repeat (first | refine blk_drewN ?_ _ | refine blk_drew ?_ | refine blk_alloc ?_ _)); exact BK120.out)) : gb120 ≠ gb123)); have n8_ := Aside0.mk ((by rw [hg]; exact Nat.ne_of_gt (blk_lt (g := gb120) (o := .cells #[.int .i64 a0_0, .int .i64 a0_1] 29 (0, 0)) (by (with_reducible repeat (first | refine blk_drewN ?_ _ | refine blk_drew ?_ | refine blk_alloc ?_ _)); exact BK120.out)) : gb123 ≠ gb120)); have n9_ := Aside0.mk ((by rw [hg]; exact Nat.ne_of_lt (blk_lt (g := gb121) (o := .cells #[.int .i64 a1_0, .int .i64 a1_1] 29 (0, 0)) (by (with_reducible repeat (first | refine blk_drewN ?_ _ | refine blk_drew ?_ | refine blk_alloc ?_ _)); exact BK121.out)) : gb121 ≠ gb123)); have n10_ := Aside0.mk ((by rw [hg]; exact Nat.ne_of_gt (blk_lt (g := gb121) (o := .cells #[.int .i64 a1_0, .int .i64 a1_1] 29 (0, 0)) (by (with_reducible repeat (first | refine blk_drewN ?_ _ | refine blk_drew ?_ | refine blk_alloc ?_ _)); exact BK121.out)) : gb123 ≠ gb121)); have n11_ := Aside0.mk ((by rw [hg]; exact Nat.ne_of_lt (blk_lt (g := gb122) (o := .cells #[.int .i64 a2_0, .int .i64 a2_1, .int .i64 a2_2, .int .i64 a2_3] 31 (0, 0)) (by (with_reducible repeat (first | refine blk_drewN ?_ _ | refine blk_drew ?_ | refine blk_alloc ?_ _)); exact BK122.out)) : gb122 ≠ gb123)); have n12_ := Aside0.mk ((by rw [hg]; exact Nat.ne_of_gt (blk_lt (g := gb122) (o := .cells #[.int .i64 a2_0, .int .i64 a2_1, .int .i64 a2_2, .int .i64 a2_3] 31 (0, 0)) (by (with_reducible repeat (first | refine blk_drewN ?_ _ | refine blk_drew ?_ | refine blk_alloc ?_ _)); exact BK122.out)) : gb123 ≠ gb122)); clear BK120; clear BK121; clear BK122; clear HB; have BK120 := n0_; have BK121 := n1_; have BK122 := n2_; have HB := n3_; have BK123 := n4_; have GW123 := n5_; have GE123 := n6_; have NB120_123 := n7_; have NB123_120 := n8_; have NB121_123 := n9_; have NB123_121 := n10_; have NB122_123 := n11_; have NB123_122 := n12_; clear n0_ n1_ n2_ n3_ n4_ n5_ n6_ n7_ n8_ n9_ n10_ n11_ n12_; clear hb hbox hg))
  (try simp only [Act.put, List.setIfInBounds_toArray, List.set_cons_zero, List.set_cons_succ])
  go_cut [26] (fun v26 wc => ∃ (kq : Nat) (x26_3 : Bool), v26 = .bool x26_3 ∧ Aside0 (box_Meet.j0 kq x26_3 a0_0 a0_1 a1_0 a1_1 a2_0 a2_1 a2_2 a2_3 = some (r1, r2, r3)) ∧ Aside0 (kq ≤ k) ∧ Aside0 (wc.heap[gb120]? = some (.cells #[.int .i64 a0_0, .int .i64 a0_1] 29 (0, 0))) ∧ Aside0 (wc.heap[gb121]? = some (.cells #[.int .i64 a1_0, .int .i64 a1_1] 29 (0, 0))) ∧ Aside0 (wc.heap[gb122]? = some (.cells #[.int .i64 a2_0, .int .i64 a2_1, .int .i64 a2_2, .int .i64 a2_3] 31 (0, 0))) ∧ Aside0 (wc.heap[gb123]? = some (.cells #[.int .i64 0, .int .i64 0] 23 (0, 0))) ∧ Aside0 (Below w.heap.size w wc))
  case first =>
    have H := HC4.out
    clear HC4
    replace H := Option.bind_eq_some_iff.mp H
    obtain ⟨t124, A90, H⟩ := H
    replace H : (if t124 = true then ((vec_Formed.f a1_0 a1_1).bind fun t125 => (if t125 = true then ((box_Formed.f a2_0 a2_1 a2_2 a2_3).bind fun t126 => (box_Meet.j0 k (!t126) a0_0 a0_1 a1_0 a1_1 a2_0 a2_1 a2_2 a2_3)) else (box_Meet.j0 k true a0_0 a0_1 a1_0 a1_1 a2_0 a2_1 a2_2 a2_3))) else (box_Meet.j0 k true a0_0 a0_1 a1_0 a1_1 a2_0 a2_1 a2_2 a2_3)) = some (r1, r2, r3) := H
    have A9 := Aside0.mk A90
    clear A90
    by_cases c10 : t124 = true
    · subst c10
      have H1 : ((vec_Formed.f a1_0 a1_1).bind fun t125 => (if t125 = true then ((box_Formed.f a2_0 a2_1 a2_2 a2_3).bind fun t126 => (box_Meet.j0 k (!t126) a0_0 a0_1 a1_0 a1_1 a2_0 a2_1 a2_2 a2_3)) else (box_Meet.j0 k true a0_0 a0_1 a1_0 a1_1 a2_0 a2_1 a2_2 a2_3))) = some (r1, r2, r3) := by rw [if_pos rfl] at H; exact H
      clear H
      have H := H1
      clear H1
      replace H := Option.bind_eq_some_iff.mp H
      obtain ⟨t125, A110, H⟩ := H
      replace H : (if t125 = true then ((box_Formed.f a2_0 a2_1 a2_2 a2_3).bind fun t126 => (box_Meet.j0 k (!t126) a0_0 a0_1 a1_0 a1_1 a2_0 a2_1 a2_2 a2_3)) else (box_Meet.j0 k true a0_0 a0_1 a1_0 a1_1 a2_0 a2_1 a2_2 a2_3)) = some (r1, r2, r3) := H
      have A11 := Aside0.mk A110
      clear A110
      by_cases c12 : t125 = true
      · subst c12
        have H1 : ((box_Formed.f a2_0 a2_1 a2_2 a2_3).bind fun t126 => (box_Meet.j0 k (!t126) a0_0 a0_1 a1_0 a1_1 a2_0 a2_1 a2_2 a2_3)) = some (r1, r2, r3) := by rw [if_pos rfl] at H; exact H
        clear H
        have H := H1
        clear H1
        replace H := Option.bind_eq_some_iff.mp H
        obtain ⟨t126, A130, H⟩ := H
        replace H : (box_Meet.j0 k (!t126) a0_0 a0_1 a1_0 a1_1 a2_0 a2_1 a2_2 a2_3) = some (r1, r2, r3) := H
        have A13 := Aside0.mk A130
        clear A130
        have H' := Aside0.mk H
        clear H
        have hnb14 := NB120_121.out
        have hnc14 := NB121_120.out
        have hnb15 := NB120_122.out
        have hnc15 := NB122_120.out
        have hnb16 := NB120_123.out
        have hnc16 := NB123_120.out
        have hcz17_0 : w8.cell? ⟨gb120, 0, none⟩ = some (.int .i64 a0_0) := (blk_cell BK120.out 0).trans rfl
        have hcz17_1 : w8.cell? ⟨gb120, 1, none⟩ = some (.int .i64 a0_1) := (blk_cell BK120.out 1).trans rfl
        have hfz17_0 := blk_frozen BK120.out 0
        have hfz17_1 := blk_frozen BK120.out 1
        go_wp2_with (first | ((with_reducible refine gate_callee (f := 28) rfl ?_); refine goesL_ (some 15) rfl rfl Try.func28 (by kernel_rfl) rfl #[.agg #[.int .i64 a0_0, .int .i64 a0_1]] rfl (by (try simp only [List.map_toArray, List.map_cons, List.map_nil]); first | done | rfl | (simp only [List.length_drop, List.length_take]; rfl)) ?_; (with_reducible refine (vec_Formed.calls a0_0 a0_1 true _ A9.out).mono ?_); rintro e w18 ⟨rfl, hb⟩; refine ⟨_, rfl, ?_⟩; have n0_ := Aside0.mk (blk_below (g := gb120) (o := .cells #[.int .i64 a0_0, .int .i64 a0_1] 29 (0, 0)) (by (with_reducible repeat (first | refine blk_drewN ?_ _ | refine blk_drew ?_ | refine blk_alloc ?_ _)); exact BK120.out) hb); have n1_ := Aside0.mk (blk_below (g := gb121) (o := .cells #[.int .i64 a1_0, .int .i64 a1_1] 29 (0, 0)) (by (with_reducible repeat (first | refine blk_drewN ?_ _ | refine blk_drew ?_ | refine blk_alloc ?_ _)); exact BK121.out) hb); have n2_ := Aside0.mk (blk_below (g := gb122) (o := .cells #[.int .i64 a2_0, .int .i64 a2_1, .int .i64 a2_2, .int .i64 a2_3] 31 (0, 0)) (by (with_reducible repeat (first | refine blk_drewN ?_ _ | refine blk_drew ?_ | refine blk_alloc ?_ _)); exact BK122.out) hb); have n3_ := Aside0.mk (blk_below (g := gb123) (o := .cells #[.int .i64 0, .int .i64 0] 23 (0, 0)) (by (with_reducible repeat (first | refine blk_drewN ?_ _ | refine blk_drew ?_ | refine blk_alloc ?_ _)); exact BK123.out) hb); have n4_ := Aside0.mk (below_step (by repeat (first | (with_reducible first | exact HB.out | apply below_alloc | apply pw_below_drewN | apply below_drew1 | refine below_set ?_ GE120.out | refine below_set ?_ GE121.out | refine below_set ?_ GE122.out | refine below_set ?_ GE123.out) | exact HB.out)) hb); clear BK120; clear BK121; clear BK122; clear BK123; clear HB; have BK120 := n0_; have BK121 := n1_; have BK122 := n2_; have BK123 := n3_; have HB := n4_; clear n0_ n1_ n2_ n3_ n4_; (try clear hb); (try clear hb2); (try clear hk); (try clear hi); have hnb19 := NB121_122.out; have hnc19 := NB122_121.out; have hnb20 := NB121_123.out; have hnc20 := NB123_121.out; have hcz21_0 : w18.cell? ⟨gb121, 0, none⟩ = some (.int .i64 a1_0) := (blk_cell BK121.out 0).trans rfl; have hcz21_1 : w18.cell? ⟨gb121, 1, none⟩ = some (.int .i64 a1_1) := (blk_cell BK121.out 1).trans rfl; have hfz21_0 := blk_frozen BK121.out 0; have hfz21_1 := blk_frozen BK121.out 1) | (go_at_call 28; (with_reducible refine (vec_Formed.calls a1_0 a1_1 true _ A11.out).mono ?_); rintro e w22 ⟨rfl, hb⟩; have n0_ := Aside0.mk (blk_below (g := gb120) (o := .cells #[.int .i64 a0_0, .int .i64 a0_1] 29 (0, 0)) (by (with_reducible repeat (first | refine blk_drewN ?_ _ | refine blk_drew ?_ | refine blk_alloc ?_ _)); exact BK120.out) hb); have n1_ := Aside0.mk (blk_below (g := gb121) (o := .cells #[.int .i64 a1_0, .int .i64 a1_1] 29 (0, 0)) (by (with_reducible repeat (first | refine blk_drewN ?_ _ | refine blk_drew ?_ | refine blk_alloc ?_ _)); exact BK121.out) hb); have n2_ := Aside0.mk (blk_below (g := gb122) (o := .cells #[.int .i64 a2_0, .int .i64 a2_1, .int .i64 a2_2, .int .i64 a2_3] 31 (0, 0)) (by (with_reducible repeat (first | refine blk_drewN ?_ _ | refine blk_drew ?_ | refine blk_alloc ?_ _)); exact BK122.out) hb); have n3_ := Aside0.mk (blk_below (g := gb123) (o := .cells #[.int .i64 0, .int .i64 0] 23 (0, 0)) (by (with_reducible repeat (first | refine blk_drewN ?_ _ | refine blk_drew ?_ | refine blk_alloc ?_ _)); exact BK123.out) hb); have n4_ := Aside0.mk (below_step (by repeat (first | (with_reducible first | exact HB.out | apply below_alloc | apply pw_below_drewN | apply below_drew1 | refine below_set ?_ GE120.out | refine below_set ?_ GE121.out | refine below_set ?_ GE122.out | refine below_set ?_ GE123.out) | exact HB.out)) hb); clear BK120; clear BK121; clear BK122; clear BK123; clear HB; have BK120 := n0_; have BK121 := n1_; have BK122 := n2_; have BK123 := n3_; have HB := n4_; clear n0_ n1_ n2_ n3_ n4_; (try clear hb); (try clear hb2); (try clear hk); (try clear hi); have hnb23 := NB122_123.out; have hnc23 := NB123_122.out; have hcz24_0 : w22.cell? ⟨gb122, 0, none⟩ = some (.int .i64 a2_0) := (blk_cell BK122.out 0).trans rfl; have hcz24_1 : w22.cell? ⟨gb122, 1, none⟩ = some (.int .i64 a2_1) := (blk_cell BK122.out 1).trans rfl; have hcz24_2 : w22.cell? ⟨gb122, 2, none⟩ = some (.int .i64 a2_2) := (blk_cell BK122.out 2).trans rfl; have hcz24_3 : w22.cell? ⟨gb122, 3, none⟩ = some (.int .i64 a2_3) := (blk_cell BK122.out 3).trans rfl; have hfz24_0 := blk_frozen BK122.out 0; have hfz24_1 := blk_frozen BK122.out 1; have hfz24_2 := blk_frozen BK122.out 2; have hfz24_3 := blk_frozen BK122.out 3) | (go_at_call 12; (with_reducible refine (box_Formed.calls a2_0 a2_1 a2_2 a2_3 t126 _ A13.out).mono ?_); rintro e w25 ⟨rfl, hb⟩; have n0_ := Aside0.mk (blk_below (g := gb120) (o := .cells #[.int .i64 a0_0, .int .i64 a0_1] 29 (0, 0)) (by (with_reducible repeat (first | refine blk_drewN ?_ _ | refine blk_drew ?_ | refine blk_alloc ?_ _)); exact BK120.out) hb); have n1_ := Aside0.mk (blk_below (g := gb121) (o := .cells #[.int .i64 a1_0, .int .i64 a1_1] 29 (0, 0)) (by (with_reducible repeat (first | refine blk_drewN ?_ _ | refine blk_drew ?_ | refine blk_alloc ?_ _)); exact BK121.out) hb); have n2_ := Aside0.mk (blk_below (g := gb122) (o := .cells #[.int .i64 a2_0, .int .i64 a2_1, .int .i64 a2_2, .int .i64 a2_3] 31 (0, 0)) (by (with_reducible repeat (first | refine blk_drewN ?_ _ | refine blk_drew ?_ | refine blk_alloc ?_ _)); exact BK122.out) hb); have n3_ := Aside0.mk (blk_below (g := gb123) (o := .cells #[.int .i64 0, .int .i64 0] 23 (0, 0)) (by (with_reducible repeat (first | refine blk_drewN ?_ _ | refine blk_drew ?_ | refine blk_alloc ?_ _)); exact BK123.out) hb); have n4_ := Aside0.mk (below_step (by repeat (first | (with_reducible first | exact HB.out | apply below_alloc | apply pw_below_drewN | apply below_drew1 | refine below_set ?_ GE120.out | refine below_set ?_ GE121.out | refine below_set ?_ GE122.out | refine below_set ?_ GE123.out) | exact HB.out)) hb); clear BK120; clear BK121; clear BK122; clear BK123; clear HB; have BK120 := n0_; have BK121 := n1_; have BK122 := n2_; have BK123 := n3_; have HB := n4_; clear n0_ n1_ n2_ n3_ n4_; (try clear hb); (try clear hb2); (try clear hk); (try clear hi)))
        go_meet
        case rel => exact ⟨_, (!t126), (by first | rfl | (simp; done) | (simp [*]; done)), H', ⟨by first | omega | exact Nat.le_refl _⟩, ⟨by (with_reducible repeat (first | refine blk_drewN ?_ _ | refine blk_drew ?_ | refine blk_alloc ?_ _)); exact BK120.out⟩, ⟨by (with_reducible repeat (first | refine blk_drewN ?_ _ | refine blk_drew ?_ | refine blk_alloc ?_ _)); exact BK121.out⟩, ⟨by (with_reducible repeat (first | refine blk_drewN ?_ _ | refine blk_drew ?_ | refine blk_alloc ?_ _)); exact BK122.out⟩, ⟨by (with_reducible repeat (first | refine blk_drewN ?_ _ | refine blk_drew ?_ | refine blk_alloc ?_ _)); exact BK123.out⟩, ⟨by repeat (first | (with_reducible first | exact HB.out | apply below_alloc | apply pw_below_drewN | apply below_drew1 | refine below_set ?_ GE120.out | refine below_set ?_ GE121.out | refine below_set ?_ GE122.out | refine below_set ?_ GE123.out) | exact HB.out)⟩⟩
      · replace c12 := Bool.eq_false_iff.mpr c12
        subst c12
        have H1 : (box_Meet.j0 k true a0_0 a0_1 a1_0 a1_1 a2_0 a2_1 a2_2 a2_3) = some (r1, r2, r3) := by rw [if_neg (show ¬ (false = true) by decide)] at H; exact H
        clear H
        have H := H1
        clear H1
        have H' := Aside0.mk H
        clear H
        have hnb26 := NB120_121.out
        have hnc26 := NB121_120.out
        have hnb27 := NB120_122.out
        have hnc27 := NB122_120.out
        have hnb28 := NB120_123.out
        have hnc28 := NB123_120.out
        have hcz29_0 : w8.cell? ⟨gb120, 0, none⟩ = some (.int .i64 a0_0) := (blk_cell BK120.out 0).trans rfl
        have hcz29_1 : w8.cell? ⟨gb120, 1, none⟩ = some (.int .i64 a0_1) := (blk_cell BK120.out 1).trans rfl
        have hfz29_0 := blk_frozen BK120.out 0
        have hfz29_1 := blk_frozen BK120.out 1
        go_wp2_with (first | ((with_reducible refine gate_callee (f := 28) rfl ?_); refine goesL_ (some 15) rfl rfl Try.func28 (by kernel_rfl) rfl #[.agg #[.int .i64 a0_0, .int .i64 a0_1]] rfl (by (try simp only [List.map_toArray, List.map_cons, List.map_nil]); first | done | rfl | (simp only [List.length_drop, List.length_take]; rfl)) ?_; (with_reducible refine (vec_Formed.calls a0_0 a0_1 true _ A9.out).mono ?_); rintro e w30 ⟨rfl, hb⟩; refine ⟨_, rfl, ?_⟩; have n0_ := Aside0.mk (blk_below (g := gb120) (o := .cells #[.int .i64 a0_0, .int .i64 a0_1] 29 (0, 0)) (by (with_reducible repeat (first | refine blk_drewN ?_ _ | refine blk_drew ?_ | refine blk_alloc ?_ _)); exact BK120.out) hb); have n1_ := Aside0.mk (blk_below (g := gb121) (o := .cells #[.int .i64 a1_0, .int .i64 a1_1] 29 (0, 0)) (by (with_reducible repeat (first | refine blk_drewN ?_ _ | refine blk_drew ?_ | refine blk_alloc ?_ _)); exact BK121.out) hb); have n2_ := Aside0.mk (blk_below (g := gb122) (o := .cells #[.int .i64 a2_0, .int .i64 a2_1, .int .i64 a2_2, .int .i64 a2_3] 31 (0, 0)) (by (with_reducible repeat (first | refine blk_drewN ?_ _ | refine blk_drew ?_ | refine blk_alloc ?_ _)); exact BK122.out) hb); have n3_ := Aside0.mk (blk_below (g := gb123) (o := .cells #[.int .i64 0, .int .i64 0] 23 (0, 0)) (by (with_reducible repeat (first | refine blk_drewN ?_ _ | refine blk_drew ?_ | refine blk_alloc ?_ _)); exact BK123.out) hb); have n4_ := Aside0.mk (below_step (by repeat (first | (with_reducible first | exact HB.out | apply below_alloc | apply pw_below_drewN | apply below_drew1 | refine below_set ?_ GE120.out | refine below_set ?_ GE121.out | refine below_set ?_ GE122.out | refine below_set ?_ GE123.out) | exact HB.out)) hb); clear BK120; clear BK121; clear BK122; clear BK123; clear HB; have BK120 := n0_; have BK121 := n1_; have BK122 := n2_; have BK123 := n3_; have HB := n4_; clear n0_ n1_ n2_ n3_ n4_; (try clear hb); (try clear hb2); (try clear hk); (try clear hi); have hnb31 := NB121_122.out; have hnc31 := NB122_121.out; have hnb32 := NB121_123.out; have hnc32 := NB123_121.out; have hcz33_0 : w30.cell? ⟨gb121, 0, none⟩ = some (.int .i64 a1_0) := (blk_cell BK121.out 0).trans rfl; have hcz33_1 : w30.cell? ⟨gb121, 1, none⟩ = some (.int .i64 a1_1) := (blk_cell BK121.out 1).trans rfl; have hfz33_0 := blk_frozen BK121.out 0; have hfz33_1 := blk_frozen BK121.out 1) | (go_at_call 28; (with_reducible refine (vec_Formed.calls a1_0 a1_1 false _ A11.out).mono ?_); rintro e w34 ⟨rfl, hb⟩; have n0_ := Aside0.mk (blk_below (g := gb120) (o := .cells #[.int .i64 a0_0, .int .i64 a0_1] 29 (0, 0)) (by (with_reducible repeat (first | refine blk_drewN ?_ _ | refine blk_drew ?_ | refine blk_alloc ?_ _)); exact BK120.out) hb); have n1_ := Aside0.mk (blk_below (g := gb121) (o := .cells #[.int .i64 a1_0, .int .i64 a1_1] 29 (0, 0)) (by (with_reducible repeat (first | refine blk_drewN ?_ _ | refine blk_drew ?_ | refine blk_alloc ?_ _)); exact BK121.out) hb); have n2_ := Aside0.mk (blk_below (g := gb122) (o := .cells #[.int .i64 a2_0, .int .i64 a2_1, .int .i64 a2_2, .int .i64 a2_3] 31 (0, 0)) (by (with_reducible repeat (first | refine blk_drewN ?_ _ | refine blk_drew ?_ | refine blk_alloc ?_ _)); exact BK122.out) hb); have n3_ := Aside0.mk (blk_below (g := gb123) (o := .cells #[.int .i64 0, .int .i64 0] 23 (0, 0)) (by (with_reducible repeat (first | refine blk_drewN ?_ _ | refine blk_drew ?_ | refine blk_alloc ?_ _)); exact BK123.out) hb); have n4_ := Aside0.mk (below_step (by repeat (first | (with_reducible first | exact HB.out | apply below_alloc | apply pw_below_drewN | apply below_drew1 | refine below_set ?_ GE120.out | refine below_set ?_ GE121.out | refine below_set ?_ GE122.out | refine below_set ?_ GE123.out) | exact HB.out)) hb); clear BK120; clear BK121; clear BK122; clear BK123; clear HB; have BK120 := n0_; have BK121 := n1_; have BK122 := n2_; have BK123 := n3_; have HB := n4_; clear n0_ n1_ n2_ n3_ n4_; (try clear hb); (try clear hb2); (try clear hk); (try clear hi)))
        go_meet
        case rel => exact ⟨_, (true), (by first | rfl | (simp; done) | (simp [*]; done)), H', ⟨by first | omega | exact Nat.le_refl _⟩, ⟨by (with_reducible repeat (first | refine blk_drewN ?_ _ | refine blk_drew ?_ | refine blk_alloc ?_ _)); exact BK120.out⟩, ⟨by (with_reducible repeat (first | refine blk_drewN ?_ _ | refine blk_drew ?_ | refine blk_alloc ?_ _)); exact BK121.out⟩, ⟨by (with_reducible repeat (first | refine blk_drewN ?_ _ | refine blk_drew ?_ | refine blk_alloc ?_ _)); exact BK122.out⟩, ⟨by (with_reducible repeat (first | refine blk_drewN ?_ _ | refine blk_drew ?_ | refine blk_alloc ?_ _)); exact BK123.out⟩, ⟨by repeat (first | (with_reducible first | exact HB.out | apply below_alloc | apply pw_below_drewN | apply below_drew1 | refine below_set ?_ GE120.out | refine below_set ?_ GE121.out | refine below_set ?_ GE122.out | refine below_set ?_ GE123.out) | exact HB.out)⟩⟩
    · replace c10 := Bool.eq_false_iff.mpr c10
      subst c10
      have H1 : (box_Meet.j0 k true a0_0 a0_1 a1_0 a1_1 a2_0 a2_1 a2_2 a2_3) = some (r1, r2, r3) := by rw [if_neg (show ¬ (false = true) by decide)] at H; exact H
      clear H
      have H := H1
      clear H1
      have H' := Aside0.mk H
      clear H
      have hnb35 := NB120_121.out
      have hnc35 := NB121_120.out
      have hnb36 := NB120_122.out
      have hnc36 := NB122_120.out
      have hnb37 := NB120_123.out
      have hnc37 := NB123_120.out
      have hcz38_0 : w8.cell? ⟨gb120, 0, none⟩ = some (.int .i64 a0_0) := (blk_cell BK120.out 0).trans rfl
      have hcz38_1 : w8.cell? ⟨gb120, 1, none⟩ = some (.int .i64 a0_1) := (blk_cell BK120.out 1).trans rfl
      have hfz38_0 := blk_frozen BK120.out 0
      have hfz38_1 := blk_frozen BK120.out 1
      go_wp2_with (first | ((with_reducible refine gate_callee (f := 28) rfl ?_); refine goesL_ (some 15) rfl rfl Try.func28 (by kernel_rfl) rfl #[.agg #[.int .i64 a0_0, .int .i64 a0_1]] rfl (by (try simp only [List.map_toArray, List.map_cons, List.map_nil]); first | done | rfl | (simp only [List.length_drop, List.length_take]; rfl)) ?_; (with_reducible refine (vec_Formed.calls a0_0 a0_1 false _ A9.out).mono ?_); rintro e w39 ⟨rfl, hb⟩; refine ⟨_, rfl, ?_⟩; have n0_ := Aside0.mk (blk_below (g := gb120) (o := .cells #[.int .i64 a0_0, .int .i64 a0_1] 29 (0, 0)) (by (with_reducible repeat (first | refine blk_drewN ?_ _ | refine blk_drew ?_ | refine blk_alloc ?_ _)); exact BK120.out) hb); have n1_ := Aside0.mk (blk_below (g := gb121) (o := .cells #[.int .i64 a1_0, .int .i64 a1_1] 29 (0, 0)) (by (with_reducible repeat (first | refine blk_drewN ?_ _ | refine blk_drew ?_ | refine blk_alloc ?_ _)); exact BK121.out) hb); have n2_ := Aside0.mk (blk_below (g := gb122) (o := .cells #[.int .i64 a2_0, .int .i64 a2_1, .int .i64 a2_2, .int .i64 a2_3] 31 (0, 0)) (by (with_reducible repeat (first | refine blk_drewN ?_ _ | refine blk_drew ?_ | refine blk_alloc ?_ _)); exact BK122.out) hb); have n3_ := Aside0.mk (blk_below (g := gb123) (o := .cells #[.int .i64 0, .int .i64 0] 23 (0, 0)) (by (with_reducible repeat (first | refine blk_drewN ?_ _ | refine blk_drew ?_ | refine blk_alloc ?_ _)); exact BK123.out) hb); have n4_ := Aside0.mk (below_step (by repeat (first | (with_reducible first | exact HB.out | apply below_alloc | apply pw_below_drewN | apply below_drew1 | refine below_set ?_ GE120.out | refine below_set ?_ GE121.out | refine below_set ?_ GE122.out | refine below_set ?_ GE123.out) | exact HB.out)) hb); clear BK120; clear BK121; clear BK122; clear BK123; clear HB; have BK120 := n0_; have BK121 := n1_; have BK122 := n2_; have BK123 := n3_; have HB := n4_; clear n0_ n1_ n2_ n3_ n4_; (try clear hb); (try clear hb2); (try clear hk); (try clear hi)))
      go_meet
      case rel => exact ⟨_, (true), (by first | rfl | (simp; done) | (simp [*]; done)), H', ⟨by first | omega | exact Nat.le_refl _⟩, ⟨by (with_reducible repeat (first | refine blk_drewN ?_ _ | refine blk_drew ?_ | refine blk_alloc ?_ _)); exact BK120.out⟩, ⟨by (with_reducible repeat (first | refine blk_drewN ?_ _ | refine blk_drew ?_ | refine blk_alloc ?_ _)); exact BK121.out⟩, ⟨by (with_reducible repeat (first | refine blk_drewN ?_ _ | refine blk_drew ?_ | refine blk_alloc ?_ _)); exact BK122.out⟩, ⟨by (with_reducible repeat (first | refine blk_drewN ?_ _ | refine blk_drew ?_ | refine blk_alloc ?_ _)); exact BK123.out⟩, ⟨by repeat (first | (with_reducible first | exact HB.out | apply below_alloc | apply pw_below_drewN | apply below_drew1 | refine below_set ?_ GE120.out | refine below_set ?_ GE121.out | refine below_set ?_ GE122.out | refine below_set ?_ GE123.out) | exact HB.out)⟩⟩
  case rest =>
    clear HC4
    try clear c1
    try clear c2
    try clear p2
    try clear c3
    try clear c10
    try clear c12
    try clear c14
    try clear c15
    try clear c16
    try clear c19
    try clear c20
    try clear c23
    try clear c26
    try clear c27
    try clear c28
    try clear c31
    try clear c32
    try clear c35
    try clear c36
    try clear c37
    try clear hcz17_0
    try clear hcz17_1
    try clear hcz21_0
    try clear hcz21_1
    try clear hcz24_0
    try clear hcz24_1
    try clear hcz24_2
    try clear hcz24_3
    try clear hcz29_0
    try clear hcz29_1
    try clear hcz33_0
    try clear hcz33_1
    try clear hcz38_0
    try clear hcz38_1
    try clear hfz17_0
    try clear hfz17_1
    try clear hfz21_0
    try clear hfz21_1
    try clear hfz24_0
    try clear hfz24_1
    try clear hfz24_2
    try clear hfz24_3
    try clear hfz29_0
    try clear hfz29_1
    try clear hfz33_0
    try clear hfz33_1
    try clear hfz38_0
    try clear hfz38_1
    obtain ⟨kq, x26_3, rfl, HA, HJ3, BK120, BK121, BK122, BK123, HB⟩ := hcut
    cases kq with
    | zero => exact absurd HA.out (by simp [box_Meet.j0])
    | succ kj3 =>
      have H := HA.out
      clear HA
      simp only [box_Meet.j0] at H
      by_cases c40 : x26_3 = true
      · subst c40
        have H1 : (some (0, 0, false)) = some (r1, r2, r3) := by rw [if_pos rfl] at H; exact H
        clear H
        have H := H1
        clear H1
        simp only [Option.some.injEq, Prod.mk.injEq] at H
        obtain ⟨rfl, rfl, rfl⟩ := H
        have hnb41 := NB123_120.out
        have hnc41 := NB120_123.out
        have hnb42 := NB123_121.out
        have hnc42 := NB121_123.out
        have hnb43 := NB123_122.out
        have hnc43 := NB122_123.out
        have hcz44_0 : wc.cell? ⟨gb123, 0, none⟩ = some (.int .i64 0) := (blk_cell BK123.out 0).trans rfl
        have hcz44_1 : wc.cell? ⟨gb123, 1, none⟩ = some (.int .i64 0) := (blk_cell BK123.out 1).trans rfl
        have hfz44_0 := blk_frozen BK123.out 0
        have hfz44_1 := blk_frozen BK123.out 1
        go_wp2
        refine bodyPost_ret (results_ct rfl _ _ gb123 23 #[.int .i64 0, .int .i64 0] (0, 0) _ rfl (by (with_reducible repeat (first | refine blk_drewN ?_ _ | refine blk_drew ?_ | refine blk_alloc ?_ _)); refine blk_put (cs := #[.int .i64 0, .int .i64 0]) ?_ 1 _ rfl; (with_reducible repeat (first | refine blk_drewN ?_ _ | refine blk_drew ?_ | refine blk_alloc ?_ _)); refine blk_put (cs := #[.int .i64 0, .int .i64 0]) ?_ 0 _ rfl; (with_reducible repeat (first | refine blk_drewN ?_ _ | refine blk_drew ?_ | refine blk_alloc ?_ _)); exact BK123.out) Try.underlying23 rfl (by kernel_rfl)) rfl ?_
        exact ⟨by first | rfl | (simp [errW_none, errW_some] <;> rfl) | (simp [*, errW_none, errW_some] <;> rfl), by repeat (first | (with_reducible first | exact HB.out | apply below_alloc | apply pw_below_drewN | apply below_drew1 | refine below_set ?_ GE120.out | refine below_set ?_ GE121.out | refine below_set ?_ GE122.out | refine below_set ?_ GE123.out) | exact HB.out)⟩
      · replace c40 := Bool.eq_false_iff.mpr c40
        subst c40
        have H1 : ((box_span.f kj3 a0_0 a1_0 a2_0 a2_2).bind fun bt127 => ((box_span.f kj3 a0_1 a1_1 a2_1 a2_3).bind fun bt134 => (if bt127.2.2.2.2 = true then (box_Meet.j1 kj3 (!bt134.2.2.2.2) bt127.1 bt127.2.1 bt127.2.2.1 bt127.2.2.2.1 bt134.1 bt134.2.1 bt134.2.2.1 bt134.2.2.2.1) else (box_Meet.j1 kj3 true bt127.1 bt127.2.1 bt127.2.2.1 bt127.2.2.2.1 bt134.1 bt134.2.1 bt134.2.2.1 bt134.2.2.2.1)))) = some (r1, r2, r3) := by rw [if_neg (show ¬ (false = true) by decide)] at H; exact H
        clear H
        have H := H1
        clear H1
        replace H := Option.bind_eq_some_iff.mp H
        obtain ⟨⟨t127, t128, t129, t130, t131⟩, A450, H⟩ := H
        replace H : ((box_span.f kj3 a0_1 a1_1 a2_1 a2_3).bind fun bt134 => (if t131 = true then (box_Meet.j1 kj3 (!bt134.2.2.2.2) t127 t128 t129 t130 bt134.1 bt134.2.1 bt134.2.2.1 bt134.2.2.2.1) else (box_Meet.j1 kj3 true t127 t128 t129 t130 bt134.1 bt134.2.1 bt134.2.2.1 bt134.2.2.2.1))) = some (r1, r2, r3) := H
        have A45 := Aside0.mk A450
        clear A450
        replace H := Option.bind_eq_some_iff.mp H
        obtain ⟨⟨t134, t135, t136, t137, t138⟩, A460, H⟩ := H
        replace H : (if t131 = true then (box_Meet.j1 kj3 (!t138) t127 t128 t129 t130 t134 t135 t136 t137) else (box_Meet.j1 kj3 true t127 t128 t129 t130 t134 t135 t136 t137)) = some (r1, r2, r3) := H
        have A46 := Aside0.mk A460
        clear A460
        have HC47 := Aside0.mk H
        clear H
        have hnb48 := NB120_121.out
        have hnc48 := NB121_120.out
        have hnb49 := NB120_122.out
        have hnc49 := NB122_120.out
        have hnb50 := NB120_123.out
        have hnc50 := NB123_120.out
        have hcz51_0 : wc.cell? ⟨gb120, 0, none⟩ = some (.int .i64 a0_0) := (blk_cell BK120.out 0).trans rfl
        have hcz51_1 : wc.cell? ⟨gb120, 1, none⟩ = some (.int .i64 a0_1) := (blk_cell BK120.out 1).trans rfl
        have hfz51_0 := blk_frozen BK120.out 0
        have hfz51_1 := blk_frozen BK120.out 1
        have hnb52 := NB121_122.out
        have hnc52 := NB122_121.out
        have hnb53 := NB121_123.out
        have hnc53 := NB123_121.out
        have hcz54_0 : wc.cell? ⟨gb121, 0, none⟩ = some (.int .i64 a1_0) := (blk_cell BK121.out 0).trans rfl
        have hcz54_1 : wc.cell? ⟨gb121, 1, none⟩ = some (.int .i64 a1_1) := (blk_cell BK121.out 1).trans rfl
        have hfz54_0 := blk_frozen BK121.out 0
        have hfz54_1 := blk_frozen BK121.out 1
        have hnb55 := NB122_123.out
        have hnc55 := NB123_122.out
        have hcz56_0 : wc.cell? ⟨gb122, 0, none⟩ = some (.int .i64 a2_0) := (blk_cell BK122.out 0).trans rfl
        have hcz56_1 : wc.cell? ⟨gb122, 1, none⟩ = some (.int .i64 a2_1) := (blk_cell BK122.out 1).trans rfl
        have hcz56_2 : wc.cell? ⟨gb122, 2, none⟩ = some (.int .i64 a2_2) := (blk_cell BK122.out 2).trans rfl
        have hcz56_3 : wc.cell? ⟨gb122, 3, none⟩ = some (.int .i64 a2_3) := (blk_cell BK122.out 3).trans rfl
        have hfz56_0 := blk_frozen BK122.out 0
        have hfz56_1 := blk_frozen BK122.out 1
        have hfz56_2 := blk_frozen BK122.out 2
        have hfz56_3 := blk_frozen BK122.out 3
        go_upto_region 5 with (first | ((with_reducible refine gate_callee (f := 34) rfl ?_); refine goesL_ (some 39) rfl rfl Try.func34 (by kernel_rfl) rfl #[.int .i64 a0_0, .int .i64 a1_0, .int .i64 a2_0, .int .i64 a2_2] rfl (by (try simp only [List.map_toArray, List.map_cons, List.map_nil]); first | done | rfl | (simp only [List.length_drop, List.length_take]; rfl)) ?_; (with_reducible refine (box_span.calls kj3 a0_0 a1_0 a2_0 a2_2 t127 t128 t129 t130 t131 _ A45.out).mono ?_); rintro e w57 ⟨rfl, hb⟩; refine ⟨_, rfl, ?_⟩; have n0_ := Aside0.mk (blk_below (g := gb120) (o := .cells #[.int .i64 a0_0, .int .i64 a0_1] 29 (0, 0)) (by (with_reducible repeat (first | refine blk_drewN ?_ _ | refine blk_drew ?_ | refine blk_alloc ?_ _)); exact BK120.out) hb); have n1_ := Aside0.mk (blk_below (g := gb121) (o := .cells #[.int .i64 a1_0, .int .i64 a1_1] 29 (0, 0)) (by (with_reducible repeat (first | refine blk_drewN ?_ _ | refine blk_drew ?_ | refine blk_alloc ?_ _)); exact BK121.out) hb); have n2_ := Aside0.mk (blk_below (g := gb122) (o := .cells #[.int .i64 a2_0, .int .i64 a2_1, .int .i64 a2_2, .int .i64 a2_3] 31 (0, 0)) (by (with_reducible repeat (first | refine blk_drewN ?_ _ | refine blk_drew ?_ | refine blk_alloc ?_ _)); exact BK122.out) hb); have n3_ := Aside0.mk (blk_below (g := gb123) (o := .cells #[.int .i64 0, .int .i64 0] 23 (0, 0)) (by (with_reducible repeat (first | refine blk_drewN ?_ _ | refine blk_drew ?_ | refine blk_alloc ?_ _)); exact BK123.out) hb); have n4_ := Aside0.mk (below_step (by repeat (first | (with_reducible first | exact HB.out | apply below_alloc | apply pw_below_drewN | apply below_drew1 | refine below_set ?_ GE120.out | refine below_set ?_ GE121.out | refine below_set ?_ GE122.out | refine below_set ?_ GE123.out) | exact HB.out)) hb); clear BK120; clear BK121; clear BK122; clear BK123; clear HB; have BK120 := n0_; have BK121 := n1_; have BK122 := n2_; have BK123 := n3_; have HB := n4_; clear n0_ n1_ n2_ n3_ n4_; (try clear hb); (try clear hb2); (try clear hk); (try clear hi)) | ((with_reducible refine gate_dst (N := 8) rfl ?_); refine box_event ?hg (N := 8) ?hd (cs := #[.int .i64 0, .int .i64 0]) (t := 23) ?hr ?_; (case hd => rfl); (case hg => rfl); (case hr => first | (go_simp; done) | (go_simp; rfl)); intro gb132 hg w58 hbox hb; have n0_ := Aside0.mk (blk_below (g := gb120) (o := .cells #[.int .i64 a0_0, .int .i64 a0_1] 29 (0, 0)) (by (with_reducible repeat (first | refine blk_drewN ?_ _ | refine blk_drew ?_ | refine blk_alloc ?_ _)); exact BK120.out) hb); have n1_ := Aside0.mk (blk_below (g := gb121) (o := .cells #[.int .i64 a1_0, .int .i64 a1_1] 29 (0, 0)) (by (with_reducible repeat (first | refine blk_drewN ?_ _ | refine blk_drew ?_ | refine blk_alloc ?_ _)); exact BK121.out) hb); have n2_ := Aside0.mk (blk_below (g := gb122) (o := .cells #[.int .i64 a2_0, .int .i64 a2_1, .int .i64 a2_2, .int .i64 a2_3] 31 (0, 0)) (by (with_reducible repeat (first | refine blk_drewN ?_ _ | refine blk_drew ?_ | refine blk_alloc ?_ _)); exact BK122.out) hb); have n3_ := Aside0.mk (blk_below (g := gb123) (o := .cells #[.int .i64 0, .int .i64 0] 23 (0, 0)) (by (with_reducible repeat (first | refine blk_drewN ?_ _ | refine blk_drew ?_ | refine blk_alloc ?_ _)); exact BK123.out) hb); have n4_ := Aside0.mk (below_step (by repeat (first | (with_reducible first | exact HB.out | apply below_alloc | apply pw_below_drewN | apply below_drew1 | refine below_set ?_ GE120.out | refine below_set ?_ GE121.out | refine below_set ?_ GE122.out | refine below_set ?_ GE123.out) | exact HB.out)) hb); have n5_ := Aside0.mk (hbox); have n6_ := Aside0.mk ((by rw [hg]; exact (below_size (by repeat (first | (with_reducible first | exact HB.out | apply below_alloc | apply pw_below_drewN | apply below_drew1 | refine below_set ?_ GE120.out | refine below_set ?_ GE121.out | refine below_set ?_ GE122.out | refine below_set ?_ GE123.out) | exact HB.out))) : w.heap.size ≤ gb132)); have n7_ := Aside0.mk ((by rw [hg]; exact (below_size (by repeat (first | (with_reducible first | exact HB.out | apply below_alloc | apply pw_below_drewN | apply below_drew1 | refine below_set ?_ GE120.out | refine below_set ?_ GE121.out | refine below_set ?_ GE122.out | refine below_set ?_ GE123.out) | exact HB.out))) : w.heap.size ≤ gb132)); have n8_ := Aside0.mk ((by rw [hg]; exact Nat.ne_of_lt (blk_lt (g := gb120) (o := .cells #[.int .i64 a0_0, .int .i64 a0_1] 29 (0, 0)) (by (with_reducible repeat (first | refine blk_drewN ?_ _ | refine blk_drew ?_ | refine blk_alloc ?_ _)); exact BK120.out)) : gb120 ≠ gb132)); have n9_ := Aside0.mk ((by rw [hg]; exact Nat.ne_of_gt (blk_lt (g := gb120) (o := .cells #[.int .i64 a0_0, .int .i64 a0_1] 29 (0, 0)) (by (with_reducible repeat (first | refine blk_drewN ?_ _ | refine blk_drew ?_ | refine blk_alloc ?_ _)); exact BK120.out)) : gb132 ≠ gb120)); have n10_ := Aside0.mk ((by rw [hg]; exact Nat.ne_of_lt (blk_lt (g := gb121) (o := .cells #[.int .i64 a1_0, .int .i64 a1_1] 29 (0, 0)) (by (with_reducible repeat (first | refine blk_drewN ?_ _ | refine blk_drew ?_ | refine blk_alloc ?_ _)); exact BK121.out)) : gb121 ≠ gb132)); have n11_ := Aside0.mk ((by rw [hg]; exact Nat.ne_of_gt (blk_lt (g := gb121) (o := .cells #[.int .i64 a1_0, .int .i64 a1_1] 29 (0, 0)) (by (with_reducible repeat (first | refine blk_drewN ?_ _ | refine blk_drew ?_ | refine blk_alloc ?_ _)); exact BK121.out)) : gb132 ≠ gb121)); have n12_ := Aside0.mk ((by rw [hg]; exact Nat.ne_of_lt (blk_lt (g := gb122) (o := .cells #[.int .i64 a2_0, .int .i64 a2_1, .int .i64 a2_2, .int .i64 a2_3] 31 (0, 0)) (by (with_reducible repeat (first | refine blk_drewN ?_ _ | refine blk_drew ?_ | refine blk_alloc ?_ _)); exact BK122.out)) : gb122 ≠ gb132)); have n13_ := Aside0.mk ((by rw [hg]; exact Nat.ne_of_gt (blk_lt (g := gb122) (o := .cells #[.int .i64 a2_0, .int .i64 a2_1, .int .i64 a2_2, .int .i64 a2_3] 31 (0, 0)) (by (with_reducible repeat (first | refine blk_drewN ?_ _ | refine blk_drew ?_ | refine blk_alloc ?_ _)); exact BK122.out)) : gb132 ≠ gb122)); have n14_ := Aside0.mk ((by rw [hg]; exact Nat.ne_of_lt (blk_lt (g := gb123) (o := .cells #[.int .i64 0, .int .i64 0] 23 (0, 0)) (by (with_reducible repeat (first | refine blk_drewN ?_ _ | refine blk_drew ?_ | refine blk_alloc ?_ _)); exact BK123.out)) : gb123 ≠ gb132)); have n15_ := Aside0.mk ((by rw [hg]; exact Nat.ne_of_gt (blk_lt (g := gb123) (o := .cells #[.int .i64 0, .int .i64 0] 23 (0, 0)) (by (with_reducible repeat (first | refine blk_drewN ?_ _ | refine blk_drew ?_ | refine blk_alloc ?_ _)); exact BK123.out)) : gb132 ≠ gb123)); clear BK120; clear BK121; clear BK122; clear BK123; clear HB; have BK120 := n0_; have BK121 := n1_; have BK122 := n2_; have BK123 := n3_; have HB := n4_; have BK132 := n5_; have GW132 := n6_; have GE132 := n7_; have NB120_132 := n8_; have NB132_120 := n9_; have NB121_132 := n10_; have NB132_121 := n11_; have NB122_132 := n12_; have NB132_122 := n13_; have NB123_132 := n14_; have NB132_123 := n15_; clear n0_ n1_ n2_ n3_ n4_ n5_ n6_ n7_ n8_ n9_ n10_ n11_ n12_ n13_ n14_ n15_; clear hb hbox hg) | ((with_reducible refine gate_dst (N := 9) rfl ?_); refine box_event ?hg (N := 9) ?hd (cs := #[.int .i64 0, .int .i64 0]) (t := 23) ?hr ?_; (case hd => rfl); (case hg => rfl); (case hr => first | (go_simp; done) | (go_simp; rfl)); intro gb133 hg w59 hbox hb; have n0_ := Aside0.mk (blk_below (g := gb120) (o := .cells #[.int .i64 a0_0, .int .i64 a0_1] 29 (0, 0)) (by (with_reducible repeat (first | refine blk_drewN ?_ _ | refine blk_drew ?_ | refine blk_alloc ?_ _)); exact BK120.out) hb); have n1_ := Aside0.mk (blk_below (g := gb121) (o := .cells #[.int .i64 a1_0, .int .i64 a1_1] 29 (0, 0)) (by (with_reducible repeat (first | refine blk_drewN ?_ _ | refine blk_drew ?_ | refine blk_alloc ?_ _)); exact BK121.out) hb); have n2_ := Aside0.mk (blk_below (g := gb122) (o := .cells #[.int .i64 a2_0, .int .i64 a2_1, .int .i64 a2_2, .int .i64 a2_3] 31 (0, 0)) (by (with_reducible repeat (first | refine blk_drewN ?_ _ | refine blk_drew ?_ | refine blk_alloc ?_ _)); exact BK122.out) hb); have n3_ := Aside0.mk (blk_below (g := gb123) (o := .cells #[.int .i64 0, .int .i64 0] 23 (0, 0)) (by (with_reducible repeat (first | refine blk_drewN ?_ _ | refine blk_drew ?_ | refine blk_alloc ?_ _)); exact BK123.out) hb); have n4_ := Aside0.mk (blk_below (g := gb132) (o := .cells #[.int .i64 0, .int .i64 0] 23 (0, 0)) (by (with_reducible repeat (first | refine blk_drewN ?_ _ | refine blk_drew ?_ | refine blk_alloc ?_ _)); exact BK132.out) hb); have n5_ := Aside0.mk (below_step (by repeat (first | (with_reducible first | exact HB.out | apply below_alloc | apply pw_below_drewN | apply below_drew1 | refine below_set ?_ GE120.out | refine below_set ?_ GE121.out | refine below_set ?_ GE122.out | refine below_set ?_ GE123.out | refine below_set ?_ GE132.out) | exact HB.out)) hb); have n6_ := Aside0.mk (hbox); have n7_ := Aside0.mk ((by rw [hg]; exact (below_size (by repeat (first | (with_reducible first | exact HB.out | apply below_alloc | apply pw_below_drewN | apply below_drew1 | refine below_set ?_ GE120.out | refine below_set ?_ GE121.out | refine below_set ?_ GE122.out | refine below_set ?_ GE123.out | refine below_set ?_ GE132.out) | exact HB.out))) : w.heap.size ≤ gb133)); have n8_ := Aside0.mk ((by rw [hg]; exact (below_size (by repeat (first | (with_reducible first | exact HB.out | apply below_alloc | apply pw_below_drewN | apply below_drew1 | refine below_set ?_ GE120.out | refine below_set ?_ GE121.out | refine below_set ?_ GE122.out | refine below_set ?_ GE123.out | refine below_set ?_ GE132.out) | exact HB.out))) : w.heap.size ≤ gb133)); have n9_ := Aside0.mk ((by rw [hg]; exact Nat.ne_of_lt (blk_lt (g := gb120) (o := .cells #[.int .i64 a0_0, .int .i64 a0_1] 29 (0, 0)) (by (with_reducible repeat (first | refine blk_drewN ?_ _ | refine blk_drew ?_ | refine blk_alloc ?_ _)); exact BK120.out)) : gb120 ≠ gb133)); have n10_ := Aside0.mk ((by rw [hg]; exact Nat.ne_of_gt (blk_lt (g := gb120) (o := .cells #[.int .i64 a0_0, .int .i64 a0_1] 29 (0, 0)) (by (with_reducible repeat (first | refine blk_drewN ?_ _ | refine blk_drew ?_ | refine blk_alloc ?_ _)); exact BK120.out)) : gb133 ≠ gb120)); have n11_ := Aside0.mk ((by rw [hg]; exact Nat.ne_of_lt (blk_lt (g := gb121) (o := .cells #[.int .i64 a1_0, .int .i64 a1_1] 29 (0, 0)) (by (with_reducible repeat (first | refine blk_drewN ?_ _ | refine blk_drew ?_ | refine blk_alloc ?_ _)); exact BK121.out)) : gb121 ≠ gb133)); have n12_ := Aside0.mk ((by rw [hg]; exact Nat.ne_of_gt (blk_lt (g := gb121) (o := .cells #[.int .i64 a1_0, .int .i64 a1_1] 29 (0, 0)) (by (with_reducible repeat (first | refine blk_drewN ?_ _ | refine blk_drew ?_ | refine blk_alloc ?_ _)); exact BK121.out)) : gb133 ≠ gb121)); have n13_ := Aside0.mk ((by rw [hg]; exact Nat.ne_of_lt (blk_lt (g := gb122) (o := .cells #[.int .i64 a2_0, .int .i64 a2_1, .int .i64 a2_2, .int .i64 a2_3] 31 (0, 0)) (by (with_reducible repeat (first | refine blk_drewN ?_ _ | refine blk_drew ?_ | refine blk_alloc ?_ _)); exact BK122.out)) : gb122 ≠ gb133)); have n14_ := Aside0.mk ((by rw [hg]; exact Nat.ne_of_gt (blk_lt (g := gb122) (o := .cells #[.int .i64 a2_0, .int .i64 a2_1, .int .i64 a2_2, .int .i64 a2_3] 31 (0, 0)) (by (with_reducible repeat (first | refine blk_drewN ?_ _ | refine blk_drew ?_ | refine blk_alloc ?_ _)); exact BK122.out)) : gb133 ≠ gb122)); have n15_ := Aside0.mk ((by rw [hg]; exact Nat.ne_of_lt (blk_lt (g := gb123) (o := .cells #[.int .i64 0, .int .i64 0] 23 (0, 0)) (by (with_reducible repeat (first | refine blk_drewN ?_ _ | refine blk_drew ?_ | refine blk_alloc ?_ _)); exact BK123.out)) : gb123 ≠ gb133)); have n16_ := Aside0.mk ((by rw [hg]; exact Nat.ne_of_gt (blk_lt (g := gb123) (o := .cells #[.int .i64 0, .int .i64 0] 23 (0, 0)) (by (with_reducible repeat (first | refine blk_drewN ?_ _ | refine blk_drew ?_ | refine blk_alloc ?_ _)); exact BK123.out)) : gb133 ≠ gb123)); have n17_ := Aside0.mk ((by rw [hg]; exact Nat.ne_of_lt (blk_lt (g := gb132) (o := .cells #[.int .i64 0, .int .i64 0] 23 (0, 0)) (by (with_reducible repeat (first | refine blk_drewN ?_ _ | refine blk_drew ?_ | refine blk_alloc ?_ _)); exact BK132.out)) : gb132 ≠ gb133)); have n18_ := Aside0.mk ((by rw [hg]; exact Nat.ne_of_gt (blk_lt (g := gb132) (o := .cells #[.int .i64 0, .int .i64 0] 23 (0, 0)) (by (with_reducible repeat (first | refine blk_drewN ?_ _ | refine blk_drew ?_ | refine blk_alloc ?_ _)); exact BK132.out)) : gb133 ≠ gb132)); clear BK120; clear BK121; clear BK122; clear BK123; clear BK132; clear HB; have BK120 := n0_; have BK121 := n1_; have BK122 := n2_; have BK123 := n3_; have BK132 := n4_; have HB := n5_; have BK133 := n6_; have GW133 := n7_; have GE133 := n8_; have NB120_133 := n9_; have NB133_120 := n10_; have NB121_133 := n11_; have NB133_121 := n12_; have NB122_133 := n13_; have NB133_122 := n14_; have NB123_133 := n15_; have NB133_123 := n16_; have NB132_133 := n17_; have NB133_132 := n18_; clear n0_ n1_ n2_ n3_ n4_ n5_ n6_ n7_ n8_ n9_ n10_ n11_ n12_ n13_ n14_ n15_ n16_ n17_ n18_; clear hb hbox hg; have hnb60 := NB132_120.out; have hnc60 := NB120_132.out; have hnb61 := NB132_121.out; have hnc61 := NB121_132.out; have hnb62 := NB132_122.out; have hnc62 := NB122_132.out; have hnb63 := NB132_123.out; have hnc63 := NB123_132.out; have hnb64 := NB132_133.out; have hnc64 := NB133_132.out; have hcz65_0 : w59.cell? ⟨gb132, 0, none⟩ = some (.int .i64 0) := (blk_cell BK132.out 0).trans rfl; have hcz65_1 : w59.cell? ⟨gb132, 1, none⟩ = some (.int .i64 0) := (blk_cell BK132.out 1).trans rfl; have hfz65_0 := blk_frozen BK132.out 0; have hfz65_1 := blk_frozen BK132.out 1; have hnb66 := NB133_120.out; have hnc66 := NB120_133.out; have hnb67 := NB133_121.out; have hnc67 := NB121_133.out; have hnb68 := NB133_122.out; have hnc68 := NB122_133.out; have hnb69 := NB133_123.out; have hnc69 := NB123_133.out; have hcz70_0 : w59.cell? ⟨gb133, 0, none⟩ = some (.int .i64 0) := (blk_cell BK133.out 0).trans rfl; have hcz70_1 : w59.cell? ⟨gb133, 1, none⟩ = some (.int .i64 0) := (blk_cell BK133.out 1).trans rfl; have hfz70_0 := blk_frozen BK133.out 0; have hfz70_1 := blk_frozen BK133.out 1; have hcz71_0 : w59.cell? ⟨gb120, 0, none⟩ = some (.int .i64 a0_0) := (blk_cell BK120.out 0).trans rfl; have hcz71_1 : w59.cell? ⟨gb120, 1, none⟩ = some (.int .i64 a0_1) := (blk_cell BK120.out 1).trans rfl; have hfz71_0 := blk_frozen BK120.out 0; have hfz71_1 := blk_frozen BK120.out 1; have hcz72_0 : w59.cell? ⟨gb121, 0, none⟩ = some (.int .i64 a1_0) := (blk_cell BK121.out 0).trans rfl; have hcz72_1 : w59.cell? ⟨gb121, 1, none⟩ = some (.int .i64 a1_1) := (blk_cell BK121.out 1).trans rfl; have hfz72_0 := blk_frozen BK121.out 0; have hfz72_1 := blk_frozen BK121.out 1; have hcz73_0 : w59.cell? ⟨gb122, 0, none⟩ = some (.int .i64 a2_0) := (blk_cell BK122.out 0).trans rfl; have hcz73_1 : w59.cell? ⟨gb122, 1, none⟩ = some (.int .i64 a2_1) := (blk_cell BK122.out 1).trans rfl; have hcz73_2 : w59.cell? ⟨gb122, 2, none⟩ = some (.int .i64 a2_2) := (blk_cell BK122.out 2).trans rfl; have hcz73_3 : w59.cell? ⟨gb122, 3, none⟩ = some (.int .i64 a2_3) := (blk_cell BK122.out 3).trans rfl; have hfz73_0 := blk_frozen BK122.out 0; have hfz73_1 := blk_frozen BK122.out 1; have hfz73_2 := blk_frozen BK122.out 2; have hfz73_3 := blk_frozen BK122.out 3) | ((with_reducible refine gate_callee (f := 34) rfl ?_); refine goesL_ (some 54) rfl rfl Try.func34 (by kernel_rfl) rfl #[.int .i64 a0_1, .int .i64 a1_1, .int .i64 a2_1, .int .i64 a2_3] rfl (by (try simp only [List.map_toArray, List.map_cons, List.map_nil]); first | done | rfl | (simp only [List.length_drop, List.length_take]; rfl)) ?_; (with_reducible refine (box_span.calls kj3 a0_1 a1_1 a2_1 a2_3 t134 t135 t136 t137 t138 _ A46.out).mono ?_); rintro e w74 ⟨rfl, hb⟩; refine ⟨_, rfl, ?_⟩; have n0_ := Aside0.mk (blk_below (g := gb120) (o := .cells #[.int .i64 a0_0, .int .i64 a0_1] 29 (0, 0)) (by (with_reducible repeat (first | refine blk_drewN ?_ _ | refine blk_drew ?_ | refine blk_alloc ?_ _)); refine blk_far ?_ NB120_133.out _; (with_reducible repeat (first | refine blk_drewN ?_ _ | refine blk_drew ?_ | refine blk_alloc ?_ _)); refine blk_far ?_ NB120_133.out _; (with_reducible repeat (first | refine blk_drewN ?_ _ | refine blk_drew ?_ | refine blk_alloc ?_ _)); refine blk_far ?_ NB120_132.out _; (with_reducible repeat (first | refine blk_drewN ?_ _ | refine blk_drew ?_ | refine blk_alloc ?_ _)); refine blk_far ?_ NB120_132.out _; (with_reducible repeat (first | refine blk_drewN ?_ _ | refine blk_drew ?_ | refine blk_alloc ?_ _)); exact BK120.out) hb); have n1_ := Aside0.mk (blk_below (g := gb121) (o := .cells #[.int .i64 a1_0, .int .i64 a1_1] 29 (0, 0)) (by (with_reducible repeat (first | refine blk_drewN ?_ _ | refine blk_drew ?_ | refine blk_alloc ?_ _)); refine blk_far ?_ NB121_133.out _; (with_reducible repeat (first | refine blk_drewN ?_ _ | refine blk_drew ?_ | refine blk_alloc ?_ _)); refine blk_far ?_ NB121_133.out _; (with_reducible repeat (first | refine blk_drewN ?_ _ | refine blk_drew ?_ | refine blk_alloc ?_ _)); refine blk_far ?_ NB121_132.out _; (with_reducible repeat (first | refine blk_drewN ?_ _ | refine blk_drew ?_ | refine blk_alloc ?_ _)); refine blk_far ?_ NB121_132.out _; (with_reducible repeat (first | refine blk_drewN ?_ _ | refine blk_drew ?_ | refine blk_alloc ?_ _)); exact BK121.out) hb); have n2_ := Aside0.mk (blk_below (g := gb122) (o := .cells #[.int .i64 a2_0, .int .i64 a2_1, .int .i64 a2_2, .int .i64 a2_3] 31 (0, 0)) (by (with_reducible repeat (first | refine blk_drewN ?_ _ | refine blk_drew ?_ | refine blk_alloc ?_ _)); refine blk_far ?_ NB122_133.out _; (with_reducible repeat (first | refine blk_drewN ?_ _ | refine blk_drew ?_ | refine blk_alloc ?_ _)); refine blk_far ?_ NB122_133.out _; (with_reducible repeat (first | refine blk_drewN ?_ _ | refine blk_drew ?_ | refine blk_alloc ?_ _)); refine blk_far ?_ NB122_132.out _; (with_reducible repeat (first | refine blk_drewN ?_ _ | refine blk_drew ?_ | refine blk_alloc ?_ _)); refine blk_far ?_ NB122_132.out _; (with_reducible repeat (first | refine blk_drewN ?_ _ | refine blk_drew ?_ | refine blk_alloc ?_ _)); exact BK122.out) hb); have n3_ := Aside0.mk (blk_below (g := gb123) (o := .cells #[.int .i64 0, .int .i64 0] 23 (0, 0)) (by (with_reducible repeat (first | refine blk_drewN ?_ _ | refine blk_drew ?_ | refine blk_alloc ?_ _)); refine blk_far ?_ NB123_133.out _; (with_reducible repeat (first | refine blk_drewN ?_ _ | refine blk_drew ?_ | refine blk_alloc ?_ _)); refine blk_far ?_ NB123_133.out _; (with_reducible repeat (first | refine blk_drewN ?_ _ | refine blk_drew ?_ | refine blk_alloc ?_ _)); refine blk_far ?_ NB123_132.out _; (with_reducible repeat (first | refine blk_drewN ?_ _ | refine blk_drew ?_ | refine blk_alloc ?_ _)); refine blk_far ?_ NB123_132.out _; (with_reducible repeat (first | refine blk_drewN ?_ _ | refine blk_drew ?_ | refine blk_alloc ?_ _)); exact BK123.out) hb); have n4_ := Aside0.mk (blk_below (g := gb132) (o := .cells #[.int .i64 t127, .int .i64 t128] 23 (0, 0)) (by (with_reducible repeat (first | refine blk_drewN ?_ _ | refine blk_drew ?_ | refine blk_alloc ?_ _)); refine blk_far ?_ NB132_133.out _; (with_reducible repeat (first | refine blk_drewN ?_ _ | refine blk_drew ?_ | refine blk_alloc ?_ _)); refine blk_far ?_ NB132_133.out _; (with_reducible repeat (first | refine blk_drewN ?_ _ | refine blk_drew ?_ | refine blk_alloc ?_ _)); refine blk_put (cs := #[.int .i64 t127, .int .i64 0]) ?_ 1 _ rfl; (with_reducible repeat (first | refine blk_drewN ?_ _ | refine blk_drew ?_ | refine blk_alloc ?_ _)); refine blk_put (cs := #[.int .i64 0, .int .i64 0]) ?_ 0 _ rfl; (with_reducible repeat (first | refine blk_drewN ?_ _ | refine blk_drew ?_ | refine blk_alloc ?_ _)); exact BK132.out) hb); have n5_ := Aside0.mk (blk_below (g := gb133) (o := .cells #[.int .i64 t129, .int .i64 t130] 23 (0, 0)) (by (with_reducible repeat (first | refine blk_drewN ?_ _ | refine blk_drew ?_ | refine blk_alloc ?_ _)); refine blk_put (cs := #[.int .i64 t129, .int .i64 0]) ?_ 1 _ rfl; (with_reducible repeat (first | refine blk_drewN ?_ _ | refine blk_drew ?_ | refine blk_alloc ?_ _)); refine blk_put (cs := #[.int .i64 0, .int .i64 0]) ?_ 0 _ rfl; (with_reducible repeat (first | refine blk_drewN ?_ _ | refine blk_drew ?_ | refine blk_alloc ?_ _)); refine blk_far ?_ NB133_132.out _; (with_reducible repeat (first | refine blk_drewN ?_ _ | refine blk_drew ?_ | refine blk_alloc ?_ _)); refine blk_far ?_ NB133_132.out _; (with_reducible repeat (first | refine blk_drewN ?_ _ | refine blk_drew ?_ | refine blk_alloc ?_ _)); exact BK133.out) hb); have n6_ := Aside0.mk (below_step (by repeat (first | (with_reducible first | exact HB.out | apply below_alloc | apply pw_below_drewN | apply below_drew1 | refine below_set ?_ GE120.out | refine below_set ?_ GE121.out | refine below_set ?_ GE122.out | refine below_set ?_ GE123.out | refine below_set ?_ GE132.out | refine below_set ?_ GE133.out) | exact HB.out)) hb); clear BK120; clear BK121; clear BK122; clear BK123; clear BK132; clear BK133; clear HB; have BK120 := n0_; have BK121 := n1_; have BK122 := n2_; have BK123 := n3_; have BK132 := n4_; have BK133 := n5_; have HB := n6_; clear n0_ n1_ n2_ n3_ n4_ n5_ n6_; (try clear hb); (try clear hb2); (try clear hk); (try clear hi)) | ((with_reducible refine gate_dst (N := 11) rfl ?_); refine box_event ?hg (N := 11) ?hd (cs := #[.int .i64 0, .int .i64 0]) (t := 23) ?hr ?_; (case hd => rfl); (case hg => rfl); (case hr => first | (go_simp; done) | (go_simp; rfl)); intro gb139 hg w75 hbox hb; have n0_ := Aside0.mk (blk_below (g := gb120) (o := .cells #[.int .i64 a0_0, .int .i64 a0_1] 29 (0, 0)) (by (with_reducible repeat (first | refine blk_drewN ?_ _ | refine blk_drew ?_ | refine blk_alloc ?_ _)); exact BK120.out) hb); have n1_ := Aside0.mk (blk_below (g := gb121) (o := .cells #[.int .i64 a1_0, .int .i64 a1_1] 29 (0, 0)) (by (with_reducible repeat (first | refine blk_drewN ?_ _ | refine blk_drew ?_ | refine blk_alloc ?_ _)); exact BK121.out) hb); have n2_ := Aside0.mk (blk_below (g := gb122) (o := .cells #[.int .i64 a2_0, .int .i64 a2_1, .int .i64 a2_2, .int .i64 a2_3] 31 (0, 0)) (by (with_reducible repeat (first | refine blk_drewN ?_ _ | refine blk_drew ?_ | refine blk_alloc ?_ _)); exact BK122.out) hb); have n3_ := Aside0.mk (blk_below (g := gb123) (o := .cells #[.int .i64 0, .int .i64 0] 23 (0, 0)) (by (with_reducible repeat (first | refine blk_drewN ?_ _ | refine blk_drew ?_ | refine blk_alloc ?_ _)); exact BK123.out) hb); have n4_ := Aside0.mk (blk_below (g := gb132) (o := .cells #[.int .i64 t127, .int .i64 t128] 23 (0, 0)) (by (with_reducible repeat (first | refine blk_drewN ?_ _ | refine blk_drew ?_ | refine blk_alloc ?_ _)); exact BK132.out) hb); have n5_ := Aside0.mk (blk_below (g := gb133) (o := .cells #[.int .i64 t129, .int .i64 t130] 23 (0, 0)) (by (with_reducible repeat (first | refine blk_drewN ?_ _ | refine blk_drew ?_ | refine blk_alloc ?_ _)); exact BK133.out) hb); have n6_ := Aside0.mk (below_step (by repeat (first | (with_reducible first | exact HB.out | apply below_alloc | apply pw_below_drewN | apply below_drew1 | refine below_set ?_ GE120.out | refine below_set ?_ GE121.out | refine below_set ?_ GE122.out | refine below_set ?_ GE123.out | refine below_set ?_ GE132.out | refine below_set ?_ GE133.out) | exact HB.out)) hb); have n7_ := Aside0.mk (hbox); have n8_ := Aside0.mk ((by rw [hg]; exact (below_size (by repeat (first | (with_reducible first | exact HB.out | apply below_alloc | apply pw_below_drewN | apply below_drew1 | refine below_set ?_ GE120.out | refine below_set ?_ GE121.out | refine below_set ?_ GE122.out | refine below_set ?_ GE123.out | refine below_set ?_ GE132.out | refine below_set ?_ GE133.out) | exact HB.out))) : w.heap.size ≤ gb139)); have n9_ := Aside0.mk ((by rw [hg]; exact (below_size (by repeat (first | (with_reducible first | exact HB.out | apply below_alloc | apply pw_below_drewN | apply below_drew1 | refine below_set ?_ GE120.out | refine below_set ?_ GE121.out | refine below_set ?_ GE122.out | refine below_set ?_ GE123.out | refine below_set ?_ GE132.out | refine below_set ?_ GE133.out) | exact HB.out))) : w.heap.size ≤ gb139)); have n10_ := Aside0.mk ((by rw [hg]; exact Nat.ne_of_lt (blk_lt (g := gb120) (o := .cells #[.int .i64 a0_0, .int .i64 a0_1] 29 (0, 0)) (by (with_reducible repeat (first | refine blk_drewN ?_ _ | refine blk_drew ?_ | refine blk_alloc ?_ _)); exact BK120.out)) : gb120 ≠ gb139)); have n11_ := Aside0.mk ((by rw [hg]; exact Nat.ne_of_gt (blk_lt (g := gb120) (o := .cells #[.int .i64 a0_0, .int .i64 a0_1] 29 (0, 0)) (by (with_reducible repeat (first | refine blk_drewN ?_ _ | refine blk_drew ?_ | refine blk_alloc ?_ _)); exact BK120.out)) : gb139 ≠ gb120)); have n12_ := Aside0.mk ((by rw [hg]; exact Nat.ne_of_lt (blk_lt (g := gb121) (o := .cells #[.int .i64 a1_0, .int .i64 a1_1] 29 (0, 0)) (by (with_reducible repeat (first | refine blk_drewN ?_ _ | refine blk_drew ?_ | refine blk_alloc ?_ _)); exact BK121.out)) : gb121 ≠ gb139)); have n13_ := Aside0.mk ((by rw [hg]; exact Nat.ne_of_gt (blk_lt (g := gb121) (o := .cells #[.int .i64 a1_0, .int .i64 a1_1] 29 (0, 0)) (by (with_reducible repeat (first | refine blk_drewN ?_ _ | refine blk_drew ?_ | refine blk_alloc ?_ _)); exact BK121.out)) : gb139 ≠ gb121)); have n14_ := Aside0.mk ((by rw [hg]; exact Nat.ne_of_lt (blk_lt (g := gb122) (o := .cells #[.int .i64 a2_0, .int .i64 a2_1, .int .i64 a2_2, .int .i64 a2_3] 31 (0, 0)) (by (with_reducible repeat (first | refine blk_drewN ?_ _ | refine blk_drew ?_ | refine blk_alloc ?_ _)); exact BK122.out)) : gb122 ≠ gb139)); have n15_ := Aside0.mk ((by rw [hg]; exact Nat.ne_of_gt (blk_lt (g := gb122) (o := .cells #[.int .i64 a2_0, .int .i64 a2_1, .int .i64 a2_2, .int .i64 a2_3] 31 (0, 0)) (by (with_reducible repeat (first | refine blk_drewN ?_ _ | refine blk_drew ?_ | refine blk_alloc ?_ _)); exact BK122.out)) : gb139 ≠ gb122)); have n16_ := Aside0.mk ((by rw [hg]; exact Nat.ne_of_lt (blk_lt (g := gb123) (o := .cells #[.int .i64 0, .int .i64 0] 23 (0, 0)) (by (with_reducible repeat (first | refine blk_drewN ?_ _ | refine blk_drew ?_ | refine blk_alloc ?_ _)); exact BK123.out)) : gb123 ≠ gb139)); have n17_ := Aside0.mk ((by rw [hg]; exact Nat.ne_of_gt (blk_lt (g := gb123) (o := .cells #[.int .i64 0, .int .i64 0] 23 (0, 0)) (by (with_reducible repeat (first | refine blk_drewN ?_ _ | refine blk_drew ?_ | refine blk_alloc ?_ _)); exact BK123.out)) : gb139 ≠ gb123)); have n18_ := Aside0.mk ((by rw [hg]; exact Nat.ne_of_lt (blk_lt (g := gb132) (o := .cells #[.int .i64 t127, .int .i64 t128] 23 (0, 0)) (by (with_reducible repeat (first | refine blk_drewN ?_ _ | refine blk_drew ?_ | refine blk_alloc ?_ _)); exact BK132.out)) : gb132 ≠ gb139)); have n19_ := Aside0.mk ((by rw [hg]; exact Nat.ne_of_gt (blk_lt (g := gb132) (o := .cells #[.int .i64 t127, .int .i64 t128] 23 (0, 0)) (by (with_reducible repeat (first | refine blk_drewN ?_ _ | refine blk_drew ?_ | refine blk_alloc ?_ _)); exact BK132.out)) : gb139 ≠ gb132)); have n20_ := Aside0.mk ((by rw [hg]; exact Nat.ne_of_lt (blk_lt (g := gb133) (o := .cells #[.int .i64 t129, .int .i64 t130] 23 (0, 0)) (by (with_reducible repeat (first | refine blk_drewN ?_ _ | refine blk_drew ?_ | refine blk_alloc ?_ _)); exact BK133.out)) : gb133 ≠ gb139)); have n21_ := Aside0.mk ((by rw [hg]; exact Nat.ne_of_gt (blk_lt (g := gb133) (o := .cells #[.int .i64 t129, .int .i64 t130] 23 (0, 0)) (by (with_reducible repeat (first | refine blk_drewN ?_ _ | refine blk_drew ?_ | refine blk_alloc ?_ _)); exact BK133.out)) : gb139 ≠ gb133)); clear BK120; clear BK121; clear BK122; clear BK123; clear BK132; clear BK133; clear HB; have BK120 := n0_; have BK121 := n1_; have BK122 := n2_; have BK123 := n3_; have BK132 := n4_; have BK133 := n5_; have HB := n6_; have BK139 := n7_; have GW139 := n8_; have GE139 := n9_; have NB120_139 := n10_; have NB139_120 := n11_; have NB121_139 := n12_; have NB139_121 := n13_; have NB122_139 := n14_; have NB139_122 := n15_; have NB123_139 := n16_; have NB139_123 := n17_; have NB132_139 := n18_; have NB139_132 := n19_; have NB133_139 := n20_; have NB139_133 := n21_; clear n0_ n1_ n2_ n3_ n4_ n5_ n6_ n7_ n8_ n9_ n10_ n11_ n12_ n13_ n14_ n15_ n16_ n17_ n18_ n19_ n20_ n21_; clear hb hbox hg) | ((with_reducible refine gate_dst (N := 12) rfl ?_); refine box_event ?hg (N := 12) ?hd (cs := #[.int .i64 0, .int .i64 0]) (t := 23) ?hr ?_; (case hd => rfl); (case hg => rfl); (case hr => first | (go_simp; done) | (go_simp; rfl)); intro gb140 hg w76 hbox hb; have n0_ := Aside0.mk (blk_below (g := gb120) (o := .cells #[.int .i64 a0_0, .int .i64 a0_1] 29 (0, 0)) (by (with_reducible repeat (first | refine blk_drewN ?_ _ | refine blk_drew ?_ | refine blk_alloc ?_ _)); exact BK120.out) hb); have n1_ := Aside0.mk (blk_below (g := gb121) (o := .cells #[.int .i64 a1_0, .int .i64 a1_1] 29 (0, 0)) (by (with_reducible repeat (first | refine blk_drewN ?_ _ | refine blk_drew ?_ | refine blk_alloc ?_ _)); exact BK121.out) hb); have n2_ := Aside0.mk (blk_below (g := gb122) (o := .cells #[.int .i64 a2_0, .int .i64 a2_1, .int .i64 a2_2, .int .i64 a2_3] 31 (0, 0)) (by (with_reducible repeat (first | refine blk_drewN ?_ _ | refine blk_drew ?_ | refine blk_alloc ?_ _)); exact BK122.out) hb); have n3_ := Aside0.mk (blk_below (g := gb123) (o := .cells #[.int .i64 0, .int .i64 0] 23 (0, 0)) (by (with_reducible repeat (first | refine blk_drewN ?_ _ | refine blk_drew ?_ | refine blk_alloc ?_ _)); exact BK123.out) hb); have n4_ := Aside0.mk (blk_below (g := gb132) (o := .cells #[.int .i64 t127, .int .i64 t128] 23 (0, 0)) (by (with_reducible repeat (first | refine blk_drewN ?_ _ | refine blk_drew ?_ | refine blk_alloc ?_ _)); exact BK132.out) hb); have n5_ := Aside0.mk (blk_below (g := gb133) (o := .cells #[.int .i64 t129, .int .i64 t130] 23 (0, 0)) (by (with_reducible repeat (first | refine blk_drewN ?_ _ | refine blk_drew ?_ | refine blk_alloc ?_ _)); exact BK133.out) hb); have n6_ := Aside0.mk (blk_below (g := gb139) (o := .cells #[.int .i64 0, .int .i64 0] 23 (0, 0)) (by (with_reducible repeat (first | refine blk_drewN ?_ _ | refine blk_drew ?_ | refine blk_alloc ?_ _)); exact BK139.out) hb); have n7_ := Aside0.mk (below_step (by repeat (first | (with_reducible first | exact HB.out | apply below_alloc | apply pw_below_drewN | apply below_drew1 | refine below_set ?_ GE120.out | refine below_set ?_ GE121.out | refine below_set ?_ GE122.out | refine below_set ?_ GE123.out | refine below_set ?_ GE132.out | refine below_set ?_ GE133.out | refine below_set ?_ GE139.out) | exact HB.out)) hb); have n8_ := Aside0.mk (hbox); have n9_ := Aside0.mk ((by rw [hg]; exact (below_size (by repeat (first | (with_reducible first | exact HB.out | apply below_alloc | apply pw_below_drewN | apply below_drew1 | refine below_set ?_ GE120.out | refine below_set ?_ GE121.out | refine below_set ?_ GE122.out | refine below_set ?_ GE123.out | refine below_set ?_ GE132.out | refine below_set ?_ GE133.out | refine below_set ?_ GE139.out) | exact HB.out))) : w.heap.size ≤ gb140)); have n10_ := Aside0.mk ((by rw [hg]; exact (below_size (by repeat (first | (with_reducible first | exact HB.out | apply below_alloc | apply pw_below_drewN | apply below_drew1 | refine below_set ?_ GE120.out | refine below_set ?_ GE121.out | refine below_set ?_ GE122.out | refine below_set ?_ GE123.out | refine below_set ?_ GE132.out | refine below_set ?_ GE133.out | refine below_set ?_ GE139.out) | exact HB.out))) : w.heap.size ≤ gb140)); have n11_ := Aside0.mk ((by rw [hg]; exact Nat.ne_of_lt (blk_lt (g := gb120) (o := .cells #[.int .i64 a0_0, .int .i64 a0_1] 29 (0, 0)) (by (with_reducible repeat (first | refine blk_drewN ?_ _ | refine blk_drew ?_ | refine blk_alloc ?_ _)); exact BK120.out)) : gb120 ≠ gb140)); have n12_ := Aside0.mk ((by rw [hg]; exact Nat.ne_of_gt (blk_lt (g := gb120) (o := .cells #[.int .i64 a0_0, .int .i64 a0_1] 29 (0, 0)) (by (with_reducible repeat (first | refine blk_drewN ?_ _ | refine blk_drew ?_ | refine blk_alloc ?_ _)); exact BK120.out)) : gb140 ≠ gb120)); have n13_ := Aside0.mk ((by rw [hg]; exact Nat.ne_of_lt (blk_lt (g := gb121) (o := .cells #[.int .i64 a1_0, .int .i64 a1_1] 29 (0, 0)) (by (with_reducible repeat (first | refine blk_drewN ?_ _ | refine blk_drew ?_ | refine blk_alloc ?_ _)); exact BK121.out)) : gb121 ≠ gb140)); have n14_ := Aside0.mk ((by rw [hg]; exact Nat.ne_of_gt (blk_lt (g := gb121) (o := .cells #[.int .i64 a1_0, .int .i64 a1_1] 29 (0, 0)) (by (with_reducible repeat (first | refine blk_drewN ?_ _ | refine blk_drew ?_ | refine blk_alloc ?_ _)); exact BK121.out)) : gb140 ≠ gb121)); have n15_ := Aside0.mk ((by rw [hg]; exact Nat.ne_of_lt (blk_lt (g := gb122) (o := .cells #[.int .i64 a2_0, .int .i64 a2_1, .int .i64 a2_2, .int .i64 a2_3] 31 (0, 0)) (by (with_reducible repeat (first | refine blk_drewN ?_ _ | refine blk_drew ?_ | refine blk_alloc ?_ _)); exact BK122.out)) : gb122 ≠ gb140)); have n16_ := Aside0.mk ((by rw [hg]; exact Nat.ne_of_gt (blk_lt (g := gb122) (o := .cells #[.int .i64 a2_0, .int .i64 a2_1, .int .i64 a2_2, .int .i64 a2_3] 31 (0, 0)) (by (with_reducible repeat (first | refine blk_drewN ?_ _ | refine blk_drew ?_ | refine blk_alloc ?_ _)); exact BK122.out)) : gb140 ≠ gb122)); have n17_ := Aside0.mk ((by rw [hg]; exact Nat.ne_of_lt (blk_lt (g := gb123) (o := .cells #[.int .i64 0, .int .i64 0] 23 (0, 0)) (by (with_reducible repeat (first | refine blk_drewN ?_ _ | refine blk_drew ?_ | refine blk_alloc ?_ _)); exact BK123.out)) : gb123 ≠ gb140)); have n18_ := Aside0.mk ((by rw [hg]; exact Nat.ne_of_gt (blk_lt (g := gb123) (o := .cells #[.int .i64 0, .int .i64 0] 23 (0, 0)) (by (with_reducible repeat (first | refine blk_drewN ?_ _ | refine blk_drew ?_ | refine blk_alloc ?_ _)); exact BK123.out)) : gb140 ≠ gb123)); have n19_ := Aside0.mk ((by rw [hg]; exact Nat.ne_of_lt (blk_lt (g := gb132) (o := .cells #[.int .i64 t127, .int .i64 t128] 23 (0, 0)) (by (with_reducible repeat (first | refine blk_drewN ?_ _ | refine blk_drew ?_ | refine blk_alloc ?_ _)); exact BK132.out)) : gb132 ≠ gb140)); have n20_ := Aside0.mk ((by rw [hg]; exact Nat.ne_of_gt (blk_lt (g := gb132) (o := .cells #[.int .i64 t127, .int .i64 t128] 23 (0, 0)) (by (with_reducible repeat (first | refine blk_drewN ?_ _ | refine blk_drew ?_ | refine blk_alloc ?_ _)); exact BK132.out)) : gb140 ≠ gb132)); have n21_ := Aside0.mk ((by rw [hg]; exact Nat.ne_of_lt (blk_lt (g := gb133) (o := .cells #[.int .i64 t129, .int .i64 t130] 23 (0, 0)) (by (with_reducible repeat (first | refine blk_drewN ?_ _ | refine blk_drew ?_ | refine blk_alloc ?_ _)); exact BK133.out)) : gb133 ≠ gb140)); have n22_ := Aside0.mk ((by rw [hg]; exact Nat.ne_of_gt (blk_lt (g := gb133) (o := .cells #[.int .i64 t129, .int .i64 t130] 23 (0, 0)) (by (with_reducible repeat (first | refine blk_drewN ?_ _ | refine blk_drew ?_ | refine blk_alloc ?_ _)); exact BK133.out)) : gb140 ≠ gb133)); have n23_ := Aside0.mk ((by rw [hg]; exact Nat.ne_of_lt (blk_lt (g := gb139) (o := .cells #[.int .i64 0, .int .i64 0] 23 (0, 0)) (by (with_reducible repeat (first | refine blk_drewN ?_ _ | refine blk_drew ?_ | refine blk_alloc ?_ _)); exact BK139.out)) : gb139 ≠ gb140)); have n24_ := Aside0.mk ((by rw [hg]; exact Nat.ne_of_gt (blk_lt (g := gb139) (o := .cells #[.int .i64 0, .int .i64 0] 23 (0, 0)) (by (with_reducible repeat (first | refine blk_drewN ?_ _ | refine blk_drew ?_ | refine blk_alloc ?_ _)); exact BK139.out)) : gb140 ≠ gb139)); clear BK120; clear BK121; clear BK122; clear BK123; clear BK132; clear BK133; clear BK139; clear HB; have BK120 := n0_; have BK121 := n1_; have BK122 := n2_; have BK123 := n3_; have BK132 := n4_; have BK133 := n5_; have BK139 := n6_; have HB := n7_; have BK140 := n8_; have GW140 := n9_; have GE140 := n10_; have NB120_140 := n11_; have NB140_120 := n12_; have NB121_140 := n13_; have NB140_121 := n14_; have NB122_140 := n15_; have NB140_122 := n16_; have NB123_140 := n17_; have NB140_123 := n18_; have NB132_140 := n19_; have NB140_132 := n20_; have NB133_140 := n21_; have NB140_133 := n22_; have NB139_140 := n23_; have NB140_139 := n24_; clear n0_ n1_ n2_ n3_ n4_ n5_ n6_ n7_ n8_ n9_ n10_ n11_ n12_ n13_ n14_ n15_ n16_ n17_ n18_ n19_ n20_ n21_ n22_ n23_ n24_; clear hb hbox hg; have hnb77 := NB139_120.out; have hnc77 := NB120_139.out; have hnb78 := NB139_121.out; have hnc78 := NB121_139.out; have hnb79 := NB139_122.out; have hnc79 := NB122_139.out; have hnb80 := NB139_123.out; have hnc80 := NB123_139.out; have hnb81 := NB139_132.out; have hnc81 := NB132_139.out; have hnb82 := NB139_133.out; have hnc82 := NB133_139.out; have hnb83 := NB139_140.out; have hnc83 := NB140_139.out; have hcz84_0 : w76.cell? ⟨gb139, 0, none⟩ = some (.int .i64 0) := (blk_cell BK139.out 0).trans rfl; have hcz84_1 : w76.cell? ⟨gb139, 1, none⟩ = some (.int .i64 0) := (blk_cell BK139.out 1).trans rfl; have hfz84_0 := blk_frozen BK139.out 0; have hfz84_1 := blk_frozen BK139.out 1; have hnb85 := NB140_120.out; have hnc85 := NB120_140.out; have hnb86 := NB140_121.out; have hnc86 := NB121_140.out; have hnb87 := NB140_122.out; have hnc87 := NB122_140.out; have hnb88 := NB140_123.out; have hnc88 := NB123_140.out; have hnb89 := NB140_132.out; have hnc89 := NB132_140.out; have hnb90 := NB140_133.out; have hnc90 := NB133_140.out; have hcz91_0 : w76.cell? ⟨gb140, 0, none⟩ = some (.int .i64 0) := (blk_cell BK140.out 0).trans rfl; have hcz91_1 : w76.cell? ⟨gb140, 1, none⟩ = some (.int .i64 0) := (blk_cell BK140.out 1).trans rfl; have hfz91_0 := blk_frozen BK140.out 0; have hfz91_1 := blk_frozen BK140.out 1))
        (try simp only [Act.put, List.setIfInBounds_toArray, List.set_cons_zero, List.set_cons_succ])
        go_cut [63] (fun v63 wc => ∃ (kq : Nat) (x63_46 : Bool), v63 = .bool x63_46 ∧ Aside0 (box_Meet.j1 kq x63_46 t127 t128 t129 t130 t134 t135 t136 t137 = some (r1, r2, r3)) ∧ Aside0 (kq ≤ kj3) ∧ Aside0 (wc.heap[gb120]? = some (.cells #[.int .i64 a0_0, .int .i64 a0_1] 29 (0, 0))) ∧ Aside0 (wc.heap[gb121]? = some (.cells #[.int .i64 a1_0, .int .i64 a1_1] 29 (0, 0))) ∧ Aside0 (wc.heap[gb122]? = some (.cells #[.int .i64 a2_0, .int .i64 a2_1, .int .i64 a2_2, .int .i64 a2_3] 31 (0, 0))) ∧ Aside0 (wc.heap[gb123]? = some (.cells #[.int .i64 0, .int .i64 0] 23 (0, 0))) ∧ Aside0 (wc.heap[gb132]? = some (.cells #[.int .i64 t127, .int .i64 t128] 23 (0, 0))) ∧ Aside0 (wc.heap[gb133]? = some (.cells #[.int .i64 t129, .int .i64 t130] 23 (0, 0))) ∧ Aside0 (wc.heap[gb139]? = some (.cells #[.int .i64 t134, .int .i64 t135] 23 (0, 0))) ∧ Aside0 (wc.heap[gb140]? = some (.cells #[.int .i64 t136, .int .i64 t137] 23 (0, 0))) ∧ Aside0 (Below w.heap.size w wc))
        case first =>
          have H := HC47.out
          clear HC47
          by_cases c92 : t131 = true
          · subst c92
            have H1 : (box_Meet.j1 kj3 (!t138) t127 t128 t129 t130 t134 t135 t136 t137) = some (r1, r2, r3) := by rw [if_pos rfl] at H; exact H
            clear H
            have H := H1
            clear H1
            have H' := Aside0.mk H
            clear H
            go_wp2
            go_meet
            case rel => exact ⟨_, (!t138), (by first | rfl | (simp; done) | (simp [*]; done)), H', ⟨by have := HJ3.out; first | omega | exact Nat.le_refl _⟩, ⟨by (with_reducible repeat (first | refine blk_drewN ?_ _ | refine blk_drew ?_ | refine blk_alloc ?_ _)); refine blk_far ?_ NB120_140.out _; (with_reducible repeat (first | refine blk_drewN ?_ _ | refine blk_drew ?_ | refine blk_alloc ?_ _)); refine blk_far ?_ NB120_140.out _; (with_reducible repeat (first | refine blk_drewN ?_ _ | refine blk_drew ?_ | refine blk_alloc ?_ _)); refine blk_far ?_ NB120_139.out _; (with_reducible repeat (first | refine blk_drewN ?_ _ | refine blk_drew ?_ | refine blk_alloc ?_ _)); refine blk_far ?_ NB120_139.out _; (with_reducible repeat (first | refine blk_drewN ?_ _ | refine blk_drew ?_ | refine blk_alloc ?_ _)); exact BK120.out⟩, ⟨by (with_reducible repeat (first | refine blk_drewN ?_ _ | refine blk_drew ?_ | refine blk_alloc ?_ _)); refine blk_far ?_ NB121_140.out _; (with_reducible repeat (first | refine blk_drewN ?_ _ | refine blk_drew ?_ | refine blk_alloc ?_ _)); refine blk_far ?_ NB121_140.out _; (with_reducible repeat (first | refine blk_drewN ?_ _ | refine blk_drew ?_ | refine blk_alloc ?_ _)); refine blk_far ?_ NB121_139.out _; (with_reducible repeat (first | refine blk_drewN ?_ _ | refine blk_drew ?_ | refine blk_alloc ?_ _)); refine blk_far ?_ NB121_139.out _; (with_reducible repeat (first | refine blk_drewN ?_ _ | refine blk_drew ?_ | refine blk_alloc ?_ _)); exact BK121.out⟩, ⟨by (with_reducible repeat (first | refine blk_drewN ?_ _ | refine blk_drew ?_ | refine blk_alloc ?_ _)); refine blk_far ?_ NB122_140.out _; (with_reducible repeat (first | refine blk_drewN ?_ _ | refine blk_drew ?_ | refine blk_alloc ?_ _)); refine blk_far ?_ NB122_140.out _; (with_reducible repeat (first | refine blk_drewN ?_ _ | refine blk_drew ?_ | refine blk_alloc ?_ _)); refine blk_far ?_ NB122_139.out _; (with_reducible repeat (first | refine blk_drewN ?_ _ | refine blk_drew ?_ | refine blk_alloc ?_ _)); refine blk_far ?_ NB122_139.out _; (with_reducible repeat (first | refine blk_drewN ?_ _ | refine blk_drew ?_ | refine blk_alloc ?_ _)); exact BK122.out⟩, ⟨by (with_reducible repeat (first | refine blk_drewN ?_ _ | refine blk_drew ?_ | refine blk_alloc ?_ _)); refine blk_far ?_ NB123_140.out _; (with_reducible repeat (first | refine blk_drewN ?_ _ | refine blk_drew ?_ | refine blk_alloc ?_ _)); refine blk_far ?_ NB123_140.out _; (with_reducible repeat (first | refine blk_drewN ?_ _ | refine blk_drew ?_ | refine blk_alloc ?_ _)); refine blk_far ?_ NB123_139.out _; (with_reducible repeat (first | refine blk_drewN ?_ _ | refine blk_drew ?_ | refine blk_alloc ?_ _)); refine blk_far ?_ NB123_139.out _; (with_reducible repeat (first | refine blk_drewN ?_ _ | refine blk_drew ?_ | refine blk_alloc ?_ _)); exact BK123.out⟩, ⟨by (with_reducible repeat (first | refine blk_drewN ?_ _ | refine blk_drew ?_ | refine blk_alloc ?_ _)); refine blk_far ?_ NB132_140.out _; (with_reducible repeat (first | refine blk_drewN ?_ _ | refine blk_drew ?_ | refine blk_alloc ?_ _)); refine blk_far ?_ NB132_140.out _; (with_reducible repeat (first | refine blk_drewN ?_ _ | refine blk_drew ?_ | refine blk_alloc ?_ _)); refine blk_far ?_ NB132_139.out _; (with_reducible repeat (first | refine blk_drewN ?_ _ | refine blk_drew ?_ | refine blk_alloc ?_ _)); refine blk_far ?_ NB132_139.out _; (with_reducible repeat (first | refine blk_drewN ?_ _ | refine blk_drew ?_ | refine blk_alloc ?_ _)); exact BK132.out⟩, ⟨by (with_reducible repeat (first | refine blk_drewN ?_ _ | refine blk_drew ?_ | refine blk_alloc ?_ _)); refine blk_far ?_ NB133_140.out _; (with_reducible repeat (first | refine blk_drewN ?_ _ | refine blk_drew ?_ | refine blk_alloc ?_ _)); refine blk_far ?_ NB133_140.out _; (with_reducible repeat (first | refine blk_drewN ?_ _ | refine blk_drew ?_ | refine blk_alloc ?_ _)); refine blk_far ?_ NB133_139.out _; (with_reducible repeat (first | refine blk_drewN ?_ _ | refine blk_drew ?_ | refine blk_alloc ?_ _)); refine blk_far ?_ NB133_139.out _; (with_reducible repeat (first | refine blk_drewN ?_ _ | refine blk_drew ?_ | refine blk_alloc ?_ _)); exact BK133.out⟩, ⟨by (with_reducible repeat (first | refine blk_drewN ?_ _ | refine blk_drew ?_ | refine blk_alloc ?_ _)); refine blk_far ?_ NB139_140.out _; (with_reducible repeat (first | refine blk_drewN ?_ _ | refine blk_drew ?_ | refine blk_alloc ?_ _)); refine blk_far ?_ NB139_140.out _; (with_reducible repeat (first | refine blk_drewN ?_ _ | refine blk_drew ?_ | refine blk_alloc ?_ _)); refine blk_put (cs := #[.int .i64 t134, .int .i64 0]) ?_ 1 _ rfl; (with_reducible repeat (first | refine blk_drewN ?_ _ | refine blk_drew ?_ | refine blk_alloc ?_ _)); refine blk_put (cs := #[.int .i64 0, .int .i64 0]) ?_ 0 _ rfl; (with_reducible repeat (first | refine blk_drewN ?_ _ | refine blk_drew ?_ | refine blk_alloc ?_ _)); exact BK139.out⟩, ⟨by (with_reducible repeat (first | refine blk_drewN ?_ _ | refine blk_drew ?_ | refine blk_alloc ?_ _)); refine blk_put (cs := #[.int .i64 t136, .int .i64 0]) ?_ 1 _ rfl; (with_reducible repeat (first | refine blk_drewN ?_ _ | refine blk_drew ?_ | refine blk_alloc ?_ _)); refine blk_put (cs := #[.int .i64 0, .int .i64 0]) ?_ 0 _ rfl; (with_reducible repeat (first | refine blk_drewN ?_ _ | refine blk_drew ?_ | refine blk_alloc ?_ _)); refine blk_far ?_ NB140_139.out _; (with_reducible repeat (first | refine blk_drewN ?_ _ | refine blk_drew ?_ | refine blk_alloc ?_ _)); refine blk_far ?_ NB140_139.out _; (with_reducible repeat (first | refine blk_drewN ?_ _ | refine blk_drew ?_ | refine blk_alloc ?_ _)); exact BK140.out⟩, ⟨by repeat (first | (with_reducible first | exact HB.out | apply below_alloc | apply pw_below_drewN | apply below_drew1 | refine below_set ?_ GE120.out | refine below_set ?_ GE121.out | refine below_set ?_ GE122.out | refine below_set ?_ GE123.out | refine below_set ?_ GE132.out | refine below_set ?_ GE133.out | refine below_set ?_ GE139.out | refine below_set ?_ GE140.out) | exact HB.out)⟩⟩
          · replace c92 := Bool.eq_false_iff.mpr c92
            subst c92
            have H1 : (box_Meet.j1 kj3 true t127 t128 t129 t130 t134 t135 t136 t137) = some (r1, r2, r3) := by rw [if_neg (show ¬ (false = true) by decide)] at H; exact H
            clear H
            have H := H1
            clear H1
            have H' := Aside0.mk H
            clear H
            go_wp2
            go_meet
            case rel => exact ⟨_, (true), (by first | rfl | (simp; done) | (simp [*]; done)), H', ⟨by have := HJ3.out; first | omega | exact Nat.le_refl _⟩, ⟨by (with_reducible repeat (first | refine blk_drewN ?_ _ | refine blk_drew ?_ | refine blk_alloc ?_ _)); refine blk_far ?_ NB120_140.out _; (with_reducible repeat (first | refine blk_drewN ?_ _ | refine blk_drew ?_ | refine blk_alloc ?_ _)); refine blk_far ?_ NB120_140.out _; (with_reducible repeat (first | refine blk_drewN ?_ _ | refine blk_drew ?_ | refine blk_alloc ?_ _)); refine blk_far ?_ NB120_139.out _; (with_reducible repeat (first | refine blk_drewN ?_ _ | refine blk_drew ?_ | refine blk_alloc ?_ _)); refine blk_far ?_ NB120_139.out _; (with_reducible repeat (first | refine blk_drewN ?_ _ | refine blk_drew ?_ | refine blk_alloc ?_ _)); exact BK120.out⟩, ⟨by (with_reducible repeat (first | refine blk_drewN ?_ _ | refine blk_drew ?_ | refine blk_alloc ?_ _)); refine blk_far ?_ NB121_140.out _; (with_reducible repeat (first | refine blk_drewN ?_ _ | refine blk_drew ?_ | refine blk_alloc ?_ _)); refine blk_far ?_ NB121_140.out _; (with_reducible repeat (first | refine blk_drewN ?_ _ | refine blk_drew ?_ | refine blk_alloc ?_ _)); refine blk_far ?_ NB121_139.out _; (with_reducible repeat (first | refine blk_drewN ?_ _ | refine blk_drew ?_ | refine blk_alloc ?_ _)); refine blk_far ?_ NB121_139.out _; (with_reducible repeat (first | refine blk_drewN ?_ _ | refine blk_drew ?_ | refine blk_alloc ?_ _)); exact BK121.out⟩, ⟨by (with_reducible repeat (first | refine blk_drewN ?_ _ | refine blk_drew ?_ | refine blk_alloc ?_ _)); refine blk_far ?_ NB122_140.out _; (with_reducible repeat (first | refine blk_drewN ?_ _ | refine blk_drew ?_ | refine blk_alloc ?_ _)); refine blk_far ?_ NB122_140.out _; (with_reducible repeat (first | refine blk_drewN ?_ _ | refine blk_drew ?_ | refine blk_alloc ?_ _)); refine blk_far ?_ NB122_139.out _; (with_reducible repeat (first | refine blk_drewN ?_ _ | refine blk_drew ?_ | refine blk_alloc ?_ _)); refine blk_far ?_ NB122_139.out _; (with_reducible repeat (first | refine blk_drewN ?_ _ | refine blk_drew ?_ | refine blk_alloc ?_ _)); exact BK122.out⟩, ⟨by (with_reducible repeat (first | refine blk_drewN ?_ _ | refine blk_drew ?_ | refine blk_alloc ?_ _)); refine blk_far ?_ NB123_140.out _; (with_reducible repeat (first | refine blk_drewN ?_ _ | refine blk_drew ?_ | refine blk_alloc ?_ _)); refine blk_far ?_ NB123_140.out _; (with_reducible repeat (first | refine blk_drewN ?_ _ | refine blk_drew ?_ | refine blk_alloc ?_ _)); refine blk_far ?_ NB123_139.out _; (with_reducible repeat (first | refine blk_drewN ?_ _ | refine blk_drew ?_ | refine blk_alloc ?_ _)); refine blk_far ?_ NB123_139.out _; (with_reducible repeat (first | refine blk_drewN ?_ _ | refine blk_drew ?_ | refine blk_alloc ?_ _)); exact BK123.out⟩, ⟨by (with_reducible repeat (first | refine blk_drewN ?_ _ | refine blk_drew ?_ | refine blk_alloc ?_ _)); refine blk_far ?_ NB132_140.out _; (with_reducible repeat (first | refine blk_drewN ?_ _ | refine blk_drew ?_ | refine blk_alloc ?_ _)); refine blk_far ?_ NB132_140.out _; (with_reducible repeat (first | refine blk_drewN ?_ _ | refine blk_drew ?_ | refine blk_alloc ?_ _)); refine blk_far ?_ NB132_139.out _; (with_reducible repeat (first | refine blk_drewN ?_ _ | refine blk_drew ?_ | refine blk_alloc ?_ _)); refine blk_far ?_ NB132_139.out _; (with_reducible repeat (first | refine blk_drewN ?_ _ | refine blk_drew ?_ | refine blk_alloc ?_ _)); exact BK132.out⟩, ⟨by (with_reducible repeat (first | refine blk_drewN ?_ _ | refine blk_drew ?_ | refine blk_alloc ?_ _)); refine blk_far ?_ NB133_140.out _; (with_reducible repeat (first | refine blk_drewN ?_ _ | refine blk_drew ?_ | refine blk_alloc ?_ _)); refine blk_far ?_ NB133_140.out _; (with_reducible repeat (first | refine blk_drewN ?_ _ | refine blk_drew ?_ | refine blk_alloc ?_ _)); refine blk_far ?_ NB133_139.out _; (with_reducible repeat (first | refine blk_drewN ?_ _ | refine blk_drew ?_ | refine blk_alloc ?_ _)); refine blk_far ?_ NB133_139.out _; (with_reducible repeat (first | refine blk_drewN ?_ _ | refine blk_drew ?_ | refine blk_alloc ?_ _)); exact BK133.out⟩, ⟨by (with_reducible repeat (first | refine blk_drewN ?_ _ | refine blk_drew ?_ | refine blk_alloc ?_ _)); refine blk_far ?_ NB139_140.out _; (with_reducible repeat (first | refine blk_drewN ?_ _ | refine blk_drew ?_ | refine blk_alloc ?_ _)); refine blk_far ?_ NB139_140.out _; (with_reducible repeat (first | refine blk_drewN ?_ _ | refine blk_drew ?_ | refine blk_alloc ?_ _)); refine blk_put (cs := #[.int .i64 t134, .int .i64 0]) ?_ 1 _ rfl; (with_reducible repeat (first | refine blk_drewN ?_ _ | refine blk_drew ?_ | refine blk_alloc ?_ _)); refine blk_put (cs := #[.int .i64 0, .int .i64 0]) ?_ 0 _ rfl; (with_reducible repeat (first | refine blk_drewN ?_ _ | refine blk_drew ?_ | refine blk_alloc ?_ _)); exact BK139.out⟩, ⟨by (with_reducible repeat (first | refine blk_drewN ?_ _ | refine blk_drew ?_ | refine blk_alloc ?_ _)); refine blk_put (cs := #[.int .i64 t136, .int .i64 0]) ?_ 1 _ rfl; (with_reducible repeat (first | refine blk_drewN ?_ _ | refine blk_drew ?_ | refine blk_alloc ?_ _)); refine blk_put (cs := #[.int .i64 0, .int .i64 0]) ?_ 0 _ rfl; (with_reducible repeat (first | refine blk_drewN ?_ _ | refine blk_drew ?_ | refine blk_alloc ?_ _)); refine blk_far ?_ NB140_139.out _; (with_reducible repeat (first | refine blk_drewN ?_ _ | refine blk_drew ?_ | refine blk_alloc ?_ _)); refine blk_far ?_ NB140_139.out _; (with_reducible repeat (first | refine blk_drewN ?_ _ | refine blk_drew ?_ | refine blk_alloc ?_ _)); exact BK140.out⟩, ⟨by repeat (first | (with_reducible first | exact HB.out | apply below_alloc | apply pw_below_drewN | apply below_drew1 | refine below_set ?_ GE120.out | refine below_set ?_ GE121.out | refine below_set ?_ GE122.out | refine below_set ?_ GE123.out | refine below_set ?_ GE132.out | refine below_set ?_ GE133.out | refine below_set ?_ GE139.out | refine below_set ?_ GE140.out) | exact HB.out)⟩⟩
        case rest =>
          clear HC47
          try clear c1
          try clear c2
          try clear p2
          try clear c3
          try clear c4
          try clear c5
          try clear c6
          try clear c7
          try clear c8
          try clear c9
          try clear c10
          try clear c12
          try clear c14
          try clear c15
          try clear c16
          try clear c19
          try clear c20
          try clear c23
          try clear c26
          try clear c27
          try clear c28
          try clear c31
          try clear c32
          try clear c34
          try clear c35
          try clear c36
          try clear c37
          try clear c40
          try clear c41
          try clear c42
          try clear c43
          try clear c48
          try clear c49
          try clear c50
          try clear c52
          try clear c53
          try clear c55
          try clear c60
          try clear c61
          try clear c62
          try clear c63
          try clear c64
          try clear c66
          try clear c67
          try clear c68
          try clear c69
          try clear c77
          try clear c78
          try clear c79
          try clear c80
          try clear c81
          try clear c82
          try clear c83
          try clear c85
          try clear c86
          try clear c87
          try clear c88
          try clear c89
          try clear c90
          try clear c92
          try clear hcz17_0
          try clear hcz17_1
          try clear hcz21_0
          try clear hcz21_1
          try clear hcz24_0
          try clear hcz24_1
          try clear hcz24_2
          try clear hcz24_3
          try clear hcz29_0
          try clear hcz29_1
          try clear hcz33_0
          try clear hcz33_1
          try clear hcz38_0
          try clear hcz38_1
          try clear hcz44_0
          try clear hcz44_1
          try clear hcz51_0
          try clear hcz51_1
          try clear hcz54_0
          try clear hcz54_1
          try clear hcz56_0
          try clear hcz56_1
          try clear hcz56_2
          try clear hcz56_3
          try clear hcz65_0
          try clear hcz65_1
          try clear hcz70_0
          try clear hcz70_1
          try clear hcz71_0
          try clear hcz71_1
          try clear hcz72_0
          try clear hcz72_1
          try clear hcz73_0
          try clear hcz73_1
          try clear hcz73_2
          try clear hcz73_3
          try clear hcz84_0
          try clear hcz84_1
          try clear hcz91_0
          try clear hcz91_1
          try clear hfz17_0
          try clear hfz17_1
          try clear hfz21_0
          try clear hfz21_1
          try clear hfz24_0
          try clear hfz24_1
          try clear hfz24_2
          try clear hfz24_3
          try clear hfz29_0
          try clear hfz29_1
          try clear hfz33_0
          try clear hfz33_1
          try clear hfz38_0
          try clear hfz38_1
          try clear hfz44_0
          try clear hfz44_1
          try clear hfz51_0
          try clear hfz51_1
          try clear hfz54_0
          try clear hfz54_1
          try clear hfz56_0
          try clear hfz56_1
          try clear hfz56_2
          try clear hfz56_3
          try clear hfz65_0
          try clear hfz65_1
          try clear hfz70_0
          try clear hfz70_1
          try clear hfz71_0
          try clear hfz71_1
          try clear hfz72_0
          try clear hfz72_1
          try clear hfz73_0
          try clear hfz73_1
          try clear hfz73_2
          try clear hfz73_3
          try clear hfz84_0
          try clear hfz84_1
          try clear hfz91_0
          try clear hfz91_1
          try clear p2
          obtain ⟨kq, x63_46, rfl, HA, HJ46, BK120, BK121, BK122, BK123, BK132, BK133, BK139, BK140, HB⟩ := hcut
          cases kq with
          | zero => exact absurd HA.out (by simp [box_Meet.j1])
          | succ kj46 =>
            have H := HA.out
            clear HA
            simp only [box_Meet.j1] at H
            by_cases c93 : x63_46 = true
            · subst c93
              have H1 : (some (0, 0, false)) = some (r1, r2, r3) := by rw [if_pos rfl] at H; exact H
              clear H
              have H := H1
              clear H1
              simp only [Option.some.injEq, Prod.mk.injEq] at H
              obtain ⟨rfl, rfl, rfl⟩ := H
              have hnb94 := NB123_120.out
              have hnc94 := NB120_123.out
              have hnb95 := NB123_121.out
              have hnc95 := NB121_123.out
              have hnb96 := NB123_122.out
              have hnc96 := NB122_123.out
              have hnb97 := NB123_132.out
              have hnc97 := NB132_123.out
              have hnb98 := NB123_133.out
              have hnc98 := NB133_123.out
              have hnb99 := NB123_139.out
              have hnc99 := NB139_123.out
              have hnb100 := NB123_140.out
              have hnc100 := NB140_123.out
              have hcz101_0 : wc.cell? ⟨gb123, 0, none⟩ = some (.int .i64 0) := (blk_cell BK123.out 0).trans rfl
              have hcz101_1 : wc.cell? ⟨gb123, 1, none⟩ = some (.int .i64 0) := (blk_cell BK123.out 1).trans rfl
              have hfz101_0 := blk_frozen BK123.out 0
              have hfz101_1 := blk_frozen BK123.out 1
              go_wp2
              refine bodyPost_ret (results_ct rfl _ _ gb123 23 #[.int .i64 0, .int .i64 0] (0, 0) _ rfl (by (with_reducible repeat (first | refine blk_drewN ?_ _ | refine blk_drew ?_ | refine blk_alloc ?_ _)); refine blk_put (cs := #[.int .i64 0, .int .i64 0]) ?_ 1 _ rfl; (with_reducible repeat (first | refine blk_drewN ?_ _ | refine blk_drew ?_ | refine blk_alloc ?_ _)); refine blk_put (cs := #[.int .i64 0, .int .i64 0]) ?_ 0 _ rfl; (with_reducible repeat (first | refine blk_drewN ?_ _ | refine blk_drew ?_ | refine blk_alloc ?_ _)); exact BK123.out) Try.underlying23 rfl (by kernel_rfl)) rfl ?_
              exact ⟨by first | rfl | (simp [errW_none, errW_some] <;> rfl) | (simp [*, errW_none, errW_some] <;> rfl), by repeat (first | (with_reducible first | exact HB.out | apply below_alloc | apply pw_below_drewN | apply below_drew1 | refine below_set ?_ GE120.out | refine below_set ?_ GE121.out | refine below_set ?_ GE122.out | refine below_set ?_ GE123.out | refine below_set ?_ GE132.out | refine below_set ?_ GE133.out | refine below_set ?_ GE139.out | refine below_set ?_ GE140.out) | exact HB.out)⟩
            · replace c93 := Bool.eq_false_iff.mpr c93
              subst c93
              have H1 : ((box_Ahead.f t127 t128 t134 t135).bind fun t141 => (if t141 = true then (box_Meet.j2 kj46 t134 t135 t129 t130 t136 t137) else (box_Meet.j2 kj46 t127 t128 t129 t130 t136 t137))) = some (r1, r2, r3) := by rw [if_neg (show ¬ (false = true) by decide)] at H; exact H
              clear H
              have H := H1
              clear H1
              replace H := Option.bind_eq_some_iff.mp H
              obtain ⟨t141, A1020, H⟩ := H
              replace H : (if t141 = true then (box_Meet.j2 kj46 t134 t135 t129 t130 t136 t137) else (box_Meet.j2 kj46 t127 t128 t129 t130 t136 t137)) = some (r1, r2, r3) := H
              have A102 := Aside0.mk A1020
              clear A1020
              have HC103 := Aside0.mk H
              clear H
              have hnb104 := NB132_120.out
              have hnc104 := NB120_132.out
              have hnb105 := NB132_121.out
              have hnc105 := NB121_132.out
              have hnb106 := NB132_122.out
              have hnc106 := NB122_132.out
              have hnb107 := NB132_123.out
              have hnc107 := NB123_132.out
              have hnb108 := NB132_133.out
              have hnc108 := NB133_132.out
              have hnb109 := NB132_139.out
              have hnc109 := NB139_132.out
              have hnb110 := NB132_140.out
              have hnc110 := NB140_132.out
              have hcz111_0 : wc.cell? ⟨gb132, 0, none⟩ = some (.int .i64 t127) := (blk_cell BK132.out 0).trans rfl
              have hcz111_1 : wc.cell? ⟨gb132, 1, none⟩ = some (.int .i64 t128) := (blk_cell BK132.out 1).trans rfl
              have hfz111_0 := blk_frozen BK132.out 0
              have hfz111_1 := blk_frozen BK132.out 1
              have hnb112 := NB139_120.out
              have hnc112 := NB120_139.out
              have hnb113 := NB139_121.out
              have hnc113 := NB121_139.out
              have hnb114 := NB139_122.out
              have hnc114 := NB122_139.out
              have hnb115 := NB139_123.out
              have hnc115 := NB123_139.out
              have hnb116 := NB139_133.out
              have hnc116 := NB133_139.out
              have hnb117 := NB139_140.out
              have hnc117 := NB140_139.out
              have hcz118_0 : wc.cell? ⟨gb139, 0, none⟩ = some (.int .i64 t134) := (blk_cell BK139.out 0).trans rfl
              have hcz118_1 : wc.cell? ⟨gb139, 1, none⟩ = some (.int .i64 t135) := (blk_cell BK139.out 1).trans rfl
              have hfz118_0 := blk_frozen BK139.out 0
              have hfz118_1 := blk_frozen BK139.out 1
              go_upto_if 67 with (first | ((with_reducible refine gate_callee (f := 11) rfl ?_); refine goesL_ (some 67) rfl rfl Try.func11 (by kernel_rfl) rfl #[.agg #[.int .i64 t127, .int .i64 t128], .agg #[.int .i64 t134, .int .i64 t135]] rfl (by (try simp only [List.map_toArray, List.map_cons, List.map_nil]); first | done | rfl | (simp only [List.length_drop, List.length_take]; rfl)) ?_; (with_reducible refine (box_Ahead.calls t127 t128 t134 t135 t141 _ A102.out).mono ?_); rintro e w119 ⟨rfl, hb⟩; refine ⟨_, rfl, ?_⟩; have n0_ := Aside0.mk (blk_below (g := gb120) (o := .cells #[.int .i64 a0_0, .int .i64 a0_1] 29 (0, 0)) (by (with_reducible repeat (first | refine blk_drewN ?_ _ | refine blk_drew ?_ | refine blk_alloc ?_ _)); exact BK120.out) hb); have n1_ := Aside0.mk (blk_below (g := gb121) (o := .cells #[.int .i64 a1_0, .int .i64 a1_1] 29 (0, 0)) (by (with_reducible repeat (first | refine blk_drewN ?_ _ | refine blk_drew ?_ | refine blk_alloc ?_ _)); exact BK121.out) hb); have n2_ := Aside0.mk (blk_below (g := gb122) (o := .cells #[.int .i64 a2_0, .int .i64 a2_1, .int .i64 a2_2, .int .i64 a2_3] 31 (0, 0)) (by (with_reducible repeat (first | refine blk_drewN ?_ _ | refine blk_drew ?_ | refine blk_alloc ?_ _)); exact BK122.out) hb); have n3_ := Aside0.mk (blk_below (g := gb123) (o := .cells #[.int .i64 0, .int .i64 0] 23 (0, 0)) (by (with_reducible repeat (first | refine blk_drewN ?_ _ | refine blk_drew ?_ | refine blk_alloc ?_ _)); exact BK123.out) hb); have n4_ := Aside0.mk (blk_below (g := gb132) (o := .cells #[.int .i64 t127, .int .i64 t128] 23 (0, 0)) (by (with_reducible repeat (first | refine blk_drewN ?_ _ | refine blk_drew ?_ | refine blk_alloc ?_ _)); exact BK132.out) hb); have n5_ := Aside0.mk (blk_below (g := gb133) (o := .cells #[.int .i64 t129, .int .i64 t130] 23 (0, 0)) (by (with_reducible repeat (first | refine blk_drewN ?_ _ | refine blk_drew ?_ | refine blk_alloc ?_ _)); exact BK133.out) hb); have n6_ := Aside0.mk (blk_below (g := gb139) (o := .cells #[.int .i64 t134, .int .i64 t135] 23 (0, 0)) (by (with_reducible repeat (first | refine blk_drewN ?_ _ | refine blk_drew ?_ | refine blk_alloc ?_ _)); exact BK139.out) hb); have n7_ := Aside0.mk (blk_below (g := gb140) (o := .cells #[.int .i64 t136, .int .i64 t137] 23 (0, 0)) (by (with_reducible repeat (first | refine blk_drewN ?_ _ | refine blk_drew ?_ | refine blk_alloc ?_ _)); exact BK140.out) hb); have n8_ := Aside0.mk (below_step (by repeat (first | (with_reducible first | exact HB.out | apply below_alloc | apply pw_below_drewN | apply below_drew1 | refine below_set ?_ GE120.out | refine below_set ?_ GE121.out | refine below_set ?_ GE122.out | refine below_set ?_ GE123.out | refine below_set ?_ GE132.out | refine below_set ?_ GE133.out | refine below_set ?_ GE139.out | refine below_set ?_ GE140.out) | exact HB.out)) hb); clear BK120; clear BK121; clear BK122; clear BK123; clear BK132; clear BK133; clear BK139; clear BK140; clear HB; have BK120 := n0_; have BK121 := n1_; have BK122 := n2_; have BK123 := n3_; have BK132 := n4_; have BK133 := n5_; have BK139 := n6_; have BK140 := n7_; have HB := n8_; clear n0_ n1_ n2_ n3_ n4_ n5_ n6_ n7_ n8_; (try clear hb); (try clear hb2); (try clear hk); (try clear hi)))
              (try simp only [Act.put, List.setIfInBounds_toArray, List.set_cons_zero, List.set_cons_succ])
              go_cut [] (fun wc => ∃ (kq : Nat) (x133000_102 : Int) (x133001_102 : Int), Aside0 (box_Meet.j2 kq x133000_102 x133001_102 t129 t130 t136 t137 = some (r1, r2, r3)) ∧ Aside0 (kq ≤ kj46) ∧ Aside0 (wc.heap[gb120]? = some (.cells #[.int .i64 a0_0, .int .i64 a0_1] 29 (0, 0))) ∧ Aside0 (wc.heap[gb121]? = some (.cells #[.int .i64 a1_0, .int .i64 a1_1] 29 (0, 0))) ∧ Aside0 (wc.heap[gb122]? = some (.cells #[.int .i64 a2_0, .int .i64 a2_1, .int .i64 a2_2, .int .i64 a2_3] 31 (0, 0))) ∧ Aside0 (wc.heap[gb123]? = some (.cells #[.int .i64 0, .int .i64 0] 23 (0, 0))) ∧ Aside0 (wc.heap[gb132]? = some (.cells #[.int .i64 x133000_102, .int .i64 x133001_102] 23 (0, 0))) ∧ Aside0 (wc.heap[gb133]? = some (.cells #[.int .i64 t129, .int .i64 t130] 23 (0, 0))) ∧ Aside0 (wc.heap[gb139]? = some (.cells #[.int .i64 t134, .int .i64 t135] 23 (0, 0))) ∧ Aside0 (wc.heap[gb140]? = some (.cells #[.int .i64 t136, .int .i64 t137] 23 (0, 0))) ∧ Aside0 (Below w.heap.size w wc))
              case first =>
                have H := HC103.out
                clear HC103
                by_cases c120 : t141 = true
                · subst c120
                  have H1 : (box_Meet.j2 kj46 t134 t135 t129 t130 t136 t137) = some (r1, r2, r3) := by rw [if_pos rfl] at H; exact H
                  clear H
                  have H := H1
                  clear H1
                  have H' := Aside0.mk H
                  clear H
                  have hnb121 := NB139_120.out
                  have hnc121 := NB120_139.out
                  have hnb122 := NB139_121.out
                  have hnc122 := NB121_139.out
                  have hnb123 := NB139_122.out
                  have hnc123 := NB122_139.out
                  have hnb124 := NB139_123.out
                  have hnc124 := NB123_139.out
                  have hnb125 := NB139_132.out
                  have hnc125 := NB132_139.out
                  have hnb126 := NB139_133.out
                  have hnc126 := NB133_139.out
                  have hnb127 := NB139_140.out
                  have hnc127 := NB140_139.out
                  have hcz128_0 : w119.cell? ⟨gb139, 0, none⟩ = some (.int .i64 t134) := (blk_cell BK139.out 0).trans rfl
                  have hcz128_1 : w119.cell? ⟨gb139, 1, none⟩ = some (.int .i64 t135) := (blk_cell BK139.out 1).trans rfl
                  have hfz128_0 := blk_frozen BK139.out 0
                  have hfz128_1 := blk_frozen BK139.out 1
                  have hnb129 := NB132_120.out
                  have hnc129 := NB120_132.out
                  have hnb130 := NB132_121.out
                  have hnc130 := NB121_132.out
                  have hnb131 := NB132_122.out
                  have hnc131 := NB122_132.out
                  have hnb132 := NB132_123.out
                  have hnc132 := NB123_132.out
                  have hnb133 := NB132_133.out
                  have hnc133 := NB133_132.out
                  have hnb134 := NB132_140.out
                  have hnc134 := NB140_132.out
                  have hcz135_0 : w119.cell? ⟨gb132, 0, none⟩ = some (.int .i64 t127) := (blk_cell BK132.out 0).trans rfl
                  have hcz135_1 : w119.cell? ⟨gb132, 1, none⟩ = some (.int .i64 t128) := (blk_cell BK132.out 1).trans rfl
                  have hfz135_0 := blk_frozen BK132.out 0
                  have hfz135_1 := blk_frozen BK132.out 1
                  go_wp2
                  go_meet
                  case rel => exact ⟨_, (t134), (t135), H', ⟨by have := HJ3.out; have := HJ46.out; first | omega | exact Nat.le_refl _⟩, ⟨by (with_reducible repeat (first | refine blk_drewN ?_ _ | refine blk_drew ?_ | refine blk_alloc ?_ _)); refine blk_far ?_ NB120_132.out _; (with_reducible repeat (first | refine blk_drewN ?_ _ | refine blk_drew ?_ | refine blk_alloc ?_ _)); refine blk_far ?_ NB120_132.out _; (with_reducible repeat (first | refine blk_drewN ?_ _ | refine blk_drew ?_ | refine blk_alloc ?_ _)); exact BK120.out⟩, ⟨by (with_reducible repeat (first | refine blk_drewN ?_ _ | refine blk_drew ?_ | refine blk_alloc ?_ _)); refine blk_far ?_ NB121_132.out _; (with_reducible repeat (first | refine blk_drewN ?_ _ | refine blk_drew ?_ | refine blk_alloc ?_ _)); refine blk_far ?_ NB121_132.out _; (with_reducible repeat (first | refine blk_drewN ?_ _ | refine blk_drew ?_ | refine blk_alloc ?_ _)); exact BK121.out⟩, ⟨by (with_reducible repeat (first | refine blk_drewN ?_ _ | refine blk_drew ?_ | refine blk_alloc ?_ _)); refine blk_far ?_ NB122_132.out _; (with_reducible repeat (first | refine blk_drewN ?_ _ | refine blk_drew ?_ | refine blk_alloc ?_ _)); refine blk_far ?_ NB122_132.out _; (with_reducible repeat (first | refine blk_drewN ?_ _ | refine blk_drew ?_ | refine blk_alloc ?_ _)); exact BK122.out⟩, ⟨by (with_reducible repeat (first | refine blk_drewN ?_ _ | refine blk_drew ?_ | refine blk_alloc ?_ _)); refine blk_far ?_ NB123_132.out _; (with_reducible repeat (first | refine blk_drewN ?_ _ | refine blk_drew ?_ | refine blk_alloc ?_ _)); refine blk_far ?_ NB123_132.out _; (with_reducible repeat (first | refine blk_drewN ?_ _ | refine blk_drew ?_ | refine blk_alloc ?_ _)); exact BK123.out⟩, ⟨by (with_reducible repeat (first | refine blk_drewN ?_ _ | refine blk_drew ?_ | refine blk_alloc ?_ _)); refine blk_put (cs := #[.int .i64 t134, .int .i64 t128]) ?_ 1 _ rfl; (with_reducible repeat (first | refine blk_drewN ?_ _ | refine blk_drew ?_ | refine blk_alloc ?_ _)); refine blk_put (cs := #[.int .i64 t127, .int .i64 t128]) ?_ 0 _ rfl; (with_reducible repeat (first | refine blk_drewN ?_ _ | refine blk_drew ?_ | refine blk_alloc ?_ _)); exact BK132.out⟩, ⟨by (with_reducible repeat (first | refine blk_drewN ?_ _ | refine blk_drew ?_ | refine blk_alloc ?_ _)); refine blk_far ?_ NB133_132.out _; (with_reducible repeat (first | refine blk_drewN ?_ _ | refine blk_drew ?_ | refine blk_alloc ?_ _)); refine blk_far ?_ NB133_132.out _; (with_reducible repeat (first | refine blk_drewN ?_ _ | refine blk_drew ?_ | refine blk_alloc ?_ _)); exact BK133.out⟩, ⟨by (with_reducible repeat (first | refine blk_drewN ?_ _ | refine blk_drew ?_ | refine blk_alloc ?_ _)); refine blk_far ?_ NB139_132.out _; (with_reducible repeat (first | refine blk_drewN ?_ _ | refine blk_drew ?_ | refine blk_alloc ?_ _)); refine blk_far ?_ NB139_132.out _; (with_reducible repeat (first | refine blk_drewN ?_ _ | refine blk_drew ?_ | refine blk_alloc ?_ _)); exact BK139.out⟩, ⟨by (with_reducible repeat (first | refine blk_drewN ?_ _ | refine blk_drew ?_ | refine blk_alloc ?_ _)); refine blk_far ?_ NB140_132.out _; (with_reducible repeat (first | refine blk_drewN ?_ _ | refine blk_drew ?_ | refine blk_alloc ?_ _)); refine blk_far ?_ NB140_132.out _; (with_reducible repeat (first | refine blk_drewN ?_ _ | refine blk_drew ?_ | refine blk_alloc ?_ _)); exact BK140.out⟩, ⟨by repeat (first | (with_reducible first | exact HB.out | apply below_alloc | apply pw_below_drewN | apply below_drew1 | refine below_set ?_ GE120.out | refine below_set ?_ GE121.out | refine below_set ?_ GE122.out | refine below_set ?_ GE123.out | refine below_set ?_ GE132.out | refine below_set ?_ GE133.out | refine below_set ?_ GE139.out | refine below_set ?_ GE140.out) | exact HB.out)⟩⟩
                · replace c120 := Bool.eq_false_iff.mpr c120
                  subst c120
                  have H1 : (box_Meet.j2 kj46 t127 t128 t129 t130 t136 t137) = some (r1, r2, r3) := by rw [if_neg (show ¬ (false = true) by decide)] at H; exact H
                  clear H
                  have H := H1
                  clear H1
                  have H' := Aside0.mk H
                  clear H
                  go_wp2
                  go_meet
                  case rel => exact ⟨_, (t127), (t128), H', ⟨by have := HJ3.out; have := HJ46.out; first | omega | exact Nat.le_refl _⟩, ⟨by (with_reducible repeat (first | refine blk_drewN ?_ _ | refine blk_drew ?_ | refine blk_alloc ?_ _)); exact BK120.out⟩, ⟨by (with_reducible repeat (first | refine blk_drewN ?_ _ | refine blk_drew ?_ | refine blk_alloc ?_ _)); exact BK121.out⟩, ⟨by (with_reducible repeat (first | refine blk_drewN ?_ _ | refine blk_drew ?_ | refine blk_alloc ?_ _)); exact BK122.out⟩, ⟨by (with_reducible repeat (first | refine blk_drewN ?_ _ | refine blk_drew ?_ | refine blk_alloc ?_ _)); exact BK123.out⟩, ⟨by (with_reducible repeat (first | refine blk_drewN ?_ _ | refine blk_drew ?_ | refine blk_alloc ?_ _)); exact BK132.out⟩, ⟨by (with_reducible repeat (first | refine blk_drewN ?_ _ | refine blk_drew ?_ | refine blk_alloc ?_ _)); exact BK133.out⟩, ⟨by (with_reducible repeat (first | refine blk_drewN ?_ _ | refine blk_drew ?_ | refine blk_alloc ?_ _)); exact BK139.out⟩, ⟨by (with_reducible repeat (first | refine blk_drewN ?_ _ | refine blk_drew ?_ | refine blk_alloc ?_ _)); exact BK140.out⟩, ⟨by repeat (first | (with_reducible first | exact HB.out | apply below_alloc | apply pw_below_drewN | apply below_drew1 | refine below_set ?_ GE120.out | refine below_set ?_ GE121.out | refine below_set ?_ GE122.out | refine below_set ?_ GE123.out | refine below_set ?_ GE132.out | refine below_set ?_ GE133.out | refine below_set ?_ GE139.out | refine below_set ?_ GE140.out) | exact HB.out)⟩⟩
              case rest =>
                clear HC103
                try clear c1
                try clear c2
                try clear p2
                try clear c3
                try clear c4
                try clear c5
                try clear c6
                try clear c7
                try clear c8
                try clear c9
                try clear c10
                try clear c11
                try clear c12
                try clear c13
                try clear c14
                try clear c15
                try clear c16
                try clear c19
                try clear c20
                try clear c23
                try clear c26
                try clear c27
                try clear c28
                try clear c31
                try clear c32
                try clear c34
                try clear c35
                try clear c36
                try clear c37
                try clear c40
                try clear c41
                try clear c42
                try clear c43
                try clear c48
                try clear c49
                try clear c50
                try clear c52
                try clear c53
                try clear c55
                try clear c60
                try clear c61
                try clear c62
                try clear c63
                try clear c64
                try clear c66
                try clear c67
                try clear c68
                try clear c69
                try clear c77
                try clear c78
                try clear c79
                try clear c80
                try clear c81
                try clear c82
                try clear c83
                try clear c85
                try clear c86
                try clear c87
                try clear c88
                try clear c89
                try clear c90
                try clear c92
                try clear c93
                try clear c94
                try clear c95
                try clear c96
                try clear c97
                try clear c98
                try clear c99
                try clear c100
                try clear c104
                try clear c105
                try clear c106
                try clear c107
                try clear c108
                try clear c109
                try clear c110
                try clear c112
                try clear c113
                try clear c114
                try clear c115
                try clear c116
                try clear c117
                try clear c120
                try clear c121
                try clear c122
                try clear c123
                try clear c124
                try clear c125
                try clear c126
                try clear c127
                try clear c129
                try clear c130
                try clear c131
                try clear c132
                try clear c133
                try clear c134
                try clear hcz101_0
                try clear hcz101_1
                try clear hcz111_0
                try clear hcz111_1
                try clear hcz118_0
                try clear hcz118_1
                try clear hcz128_0
                try clear hcz128_1
                try clear hcz135_0
                try clear hcz135_1
                try clear hcz17_0
                try clear hcz17_1
                try clear hcz21_0
                try clear hcz21_1
                try clear hcz24_0
                try clear hcz24_1
                try clear hcz24_2
                try clear hcz24_3
                try clear hcz29_0
                try clear hcz29_1
                try clear hcz33_0
                try clear hcz33_1
                try clear hcz38_0
                try clear hcz38_1
                try clear hcz44_0
                try clear hcz44_1
                try clear hcz51_0
                try clear hcz51_1
                try clear hcz54_0
                try clear hcz54_1
                try clear hcz56_0
                try clear hcz56_1
                try clear hcz56_2
                try clear hcz56_3
                try clear hcz65_0
                try clear hcz65_1
                try clear hcz70_0
                try clear hcz70_1
                try clear hcz71_0
                try clear hcz71_1
                try clear hcz72_0
                try clear hcz72_1
                try clear hcz73_0
                try clear hcz73_1
                try clear hcz73_2
                try clear hcz73_3
                try clear hcz84_0
                try clear hcz84_1
                try clear hcz91_0
                try clear hcz91_1
                try clear hfz101_0
                try clear hfz101_1
                try clear hfz111_0
                try clear hfz111_1
                try clear hfz118_0
                try clear hfz118_1
                try clear hfz128_0
                try clear hfz128_1
                try clear hfz135_0
                try clear hfz135_1
                try clear hfz17_0
                try clear hfz17_1
                try clear hfz21_0
                try clear hfz21_1
                try clear hfz24_0
                try clear hfz24_1
                try clear hfz24_2
                try clear hfz24_3
                try clear hfz29_0
                try clear hfz29_1
                try clear hfz33_0
                try clear hfz33_1
                try clear hfz38_0
                try clear hfz38_1
                try clear hfz44_0
                try clear hfz44_1
                try clear hfz51_0
                try clear hfz51_1
                try clear hfz54_0
                try clear hfz54_1
                try clear hfz56_0
                try clear hfz56_1
                try clear hfz56_2
                try clear hfz56_3
                try clear hfz65_0
                try clear hfz65_1
                try clear hfz70_0
                try clear hfz70_1
                try clear hfz71_0
                try clear hfz71_1
                try clear hfz72_0
                try clear hfz72_1
                try clear hfz73_0
                try clear hfz73_1
                try clear hfz73_2
                try clear hfz73_3
                try clear hfz84_0
                try clear hfz84_1
                try clear hfz91_0
                try clear hfz91_1
                try clear p2
                obtain ⟨kq, x133000_102, x133001_102, HA, HJ102, BK120, BK121, BK122, BK123, BK132, BK133, BK139, BK140, HB⟩ := hcut
                cases kq with
                | zero => exact absurd HA.out (by simp [box_Meet.j2])
                | succ kj102 =>
                  have H := HA.out
                  clear HA
                  simp only [box_Meet.j2] at H
                  replace H := Option.bind_eq_some_iff.mp H
                  obtain ⟨t142, A1360, H⟩ := H
                  replace H : (if t142 = true then ((box_Ahead.f t136 t137 x133000_102 x133001_102).bind fun t143 => (if t143 = true then (some (0, 0, false)) else (some (x133000_102, x133001_102, true)))) else ((box_Ahead.f t129 t130 x133000_102 x133001_102).bind fun t144 => (if t144 = true then (some (0, 0, false)) else (some (x133000_102, x133001_102, true))))) = some (r1, r2, r3) := H
                  have A136 := Aside0.mk A1360
                  clear A1360
                  by_cases c137 : t142 = true
                  · subst c137
                    have H1 : ((box_Ahead.f t136 t137 x133000_102 x133001_102).bind fun t143 => (if t143 = true then (some (0, 0, false)) else (some (x133000_102, x133001_102, true)))) = some (r1, r2, r3) := by rw [if_pos rfl] at H; exact H
                    clear H
                    have H := H1
                    clear H1
                    replace H := Option.bind_eq_some_iff.mp H
                    obtain ⟨t143, A1380, H⟩ := H
                    replace H : (if t143 = true then (some (0, 0, false)) else (some (x133000_102, x133001_102, true))) = some (r1, r2, r3) := H
                    have A138 := Aside0.mk A1380
                    clear A1380
                    by_cases c139 : t143 = true
                    · subst c139
                      have H1 : (some (0, 0, false)) = some (r1, r2, r3) := by rw [if_pos rfl] at H; exact H
                      clear H
                      have H := H1
                      clear H1
                      simp only [Option.some.injEq, Prod.mk.injEq] at H
                      obtain ⟨rfl, rfl, rfl⟩ := H
                      have hnb140 := NB140_120.out
                      have hnc140 := NB120_140.out
                      have hnb141 := NB140_121.out
                      have hnc141 := NB121_140.out
                      have hnb142 := NB140_122.out
                      have hnc142 := NB122_140.out
                      have hnb143 := NB140_123.out
                      have hnc143 := NB123_140.out
                      have hnb144 := NB140_132.out
                      have hnc144 := NB132_140.out
                      have hnb145 := NB140_133.out
                      have hnc145 := NB133_140.out
                      have hnb146 := NB140_139.out
                      have hnc146 := NB139_140.out
                      have hcz147_0 : wc.cell? ⟨gb140, 0, none⟩ = some (.int .i64 t136) := (blk_cell BK140.out 0).trans rfl
                      have hcz147_1 : wc.cell? ⟨gb140, 1, none⟩ = some (.int .i64 t137) := (blk_cell BK140.out 1).trans rfl
                      have hfz147_0 := blk_frozen BK140.out 0
                      have hfz147_1 := blk_frozen BK140.out 1
                      have hnb148 := NB133_120.out
                      have hnc148 := NB120_133.out
                      have hnb149 := NB133_121.out
                      have hnc149 := NB121_133.out
                      have hnb150 := NB133_122.out
                      have hnc150 := NB122_133.out
                      have hnb151 := NB133_123.out
                      have hnc151 := NB123_133.out
                      have hnb152 := NB133_132.out
                      have hnc152 := NB132_133.out
                      have hnb153 := NB133_139.out
                      have hnc153 := NB139_133.out
                      have hcz154_0 : wc.cell? ⟨gb133, 0, none⟩ = some (.int .i64 t129) := (blk_cell BK133.out 0).trans rfl
                      have hcz154_1 : wc.cell? ⟨gb133, 1, none⟩ = some (.int .i64 t130) := (blk_cell BK133.out 1).trans rfl
                      have hfz154_0 := blk_frozen BK133.out 0
                      have hfz154_1 := blk_frozen BK133.out 1
                      go_wp2_with (first | ((with_reducible refine gate_callee (f := 11) rfl ?_); refine goesL_ (some 71) rfl rfl Try.func11 (by kernel_rfl) rfl #[.agg #[.int .i64 t136, .int .i64 t137], .agg #[.int .i64 t129, .int .i64 t130]] rfl (by (try simp only [List.map_toArray, List.map_cons, List.map_nil]); first | done | rfl | (simp only [List.length_drop, List.length_take]; rfl)) ?_; (with_reducible refine (box_Ahead.calls t136 t137 t129 t130 true _ A136.out).mono ?_); rintro e w155 ⟨rfl, hb⟩; refine ⟨_, rfl, ?_⟩; have n0_ := Aside0.mk (blk_below (g := gb120) (o := .cells #[.int .i64 a0_0, .int .i64 a0_1] 29 (0, 0)) (by (with_reducible repeat (first | refine blk_drewN ?_ _ | refine blk_drew ?_ | refine blk_alloc ?_ _)); exact BK120.out) hb); have n1_ := Aside0.mk (blk_below (g := gb121) (o := .cells #[.int .i64 a1_0, .int .i64 a1_1] 29 (0, 0)) (by (with_reducible repeat (first | refine blk_drewN ?_ _ | refine blk_drew ?_ | refine blk_alloc ?_ _)); exact BK121.out) hb); have n2_ := Aside0.mk (blk_below (g := gb122) (o := .cells #[.int .i64 a2_0, .int .i64 a2_1, .int .i64 a2_2, .int .i64 a2_3] 31 (0, 0)) (by (with_reducible repeat (first | refine blk_drewN ?_ _ | refine blk_drew ?_ | refine blk_alloc ?_ _)); exact BK122.out) hb); have n3_ := Aside0.mk (blk_below (g := gb123) (o := .cells #[.int .i64 0, .int .i64 0] 23 (0, 0)) (by (with_reducible repeat (first | refine blk_drewN ?_ _ | refine blk_drew ?_ | refine blk_alloc ?_ _)); exact BK123.out) hb); have n4_ := Aside0.mk (blk_below (g := gb132) (o := .cells #[.int .i64 x133000_102, .int .i64 x133001_102] 23 (0, 0)) (by (with_reducible repeat (first | refine blk_drewN ?_ _ | refine blk_drew ?_ | refine blk_alloc ?_ _)); exact BK132.out) hb); have n5_ := Aside0.mk (blk_below (g := gb133) (o := .cells #[.int .i64 t129, .int .i64 t130] 23 (0, 0)) (by (with_reducible repeat (first | refine blk_drewN ?_ _ | refine blk_drew ?_ | refine blk_alloc ?_ _)); exact BK133.out) hb); have n6_ := Aside0.mk (blk_below (g := gb139) (o := .cells #[.int .i64 t134, .int .i64 t135] 23 (0, 0)) (by (with_reducible repeat (first | refine blk_drewN ?_ _ | refine blk_drew ?_ | refine blk_alloc ?_ _)); exact BK139.out) hb); have n7_ := Aside0.mk (blk_below (g := gb140) (o := .cells #[.int .i64 t136, .int .i64 t137] 23 (0, 0)) (by (with_reducible repeat (first | refine blk_drewN ?_ _ | refine blk_drew ?_ | refine blk_alloc ?_ _)); exact BK140.out) hb); have n8_ := Aside0.mk (below_step (by repeat (first | (with_reducible first | exact HB.out | apply below_alloc | apply pw_below_drewN | apply below_drew1 | refine below_set ?_ GE120.out | refine below_set ?_ GE121.out | refine below_set ?_ GE122.out | refine below_set ?_ GE123.out | refine below_set ?_ GE132.out | refine below_set ?_ GE133.out | refine below_set ?_ GE139.out | refine below_set ?_ GE140.out) | exact HB.out)) hb); clear BK120; clear BK121; clear BK122; clear BK123; clear BK132; clear BK133; clear BK139; clear BK140; clear HB; have BK120 := n0_; have BK121 := n1_; have BK122 := n2_; have BK123 := n3_; have BK132 := n4_; have BK133 := n5_; have BK139 := n6_; have BK140 := n7_; have HB := n8_; clear n0_ n1_ n2_ n3_ n4_ n5_ n6_ n7_ n8_; (try clear hb); (try clear hb2); (try clear hk); (try clear hi); have hcz156_0 : w155.cell? ⟨gb140, 0, none⟩ = some (.int .i64 t136) := (blk_cell BK140.out 0).trans rfl; have hcz156_1 : w155.cell? ⟨gb140, 1, none⟩ = some (.int .i64 t137) := (blk_cell BK140.out 1).trans rfl; have hfz156_0 := blk_frozen BK140.out 0; have hfz156_1 := blk_frozen BK140.out 1; have hcz157_0 : w155.cell? ⟨gb133, 0, none⟩ = some (.int .i64 t129) := (blk_cell BK133.out 0).trans rfl; have hcz157_1 : w155.cell? ⟨gb133, 1, none⟩ = some (.int .i64 t130) := (blk_cell BK133.out 1).trans rfl; have hfz157_0 := blk_frozen BK133.out 0; have hfz157_1 := blk_frozen BK133.out 1; have hnb158 := NB132_120.out; have hnc158 := NB120_132.out; have hnb159 := NB132_121.out; have hnc159 := NB121_132.out; have hnb160 := NB132_122.out; have hnc160 := NB122_132.out; have hnb161 := NB132_123.out; have hnc161 := NB123_132.out; have hnb162 := NB132_139.out; have hnc162 := NB139_132.out; have hcz163_0 : w155.cell? ⟨gb132, 0, none⟩ = some (.int .i64 x133000_102) := (blk_cell BK132.out 0).trans rfl; have hcz163_1 : w155.cell? ⟨gb132, 1, none⟩ = some (.int .i64 x133001_102) := (blk_cell BK132.out 1).trans rfl; have hfz163_0 := blk_frozen BK132.out 0; have hfz163_1 := blk_frozen BK132.out 1) | ((with_reducible refine gate_callee (f := 11) rfl ?_); refine goesL_ (some 75) rfl rfl Try.func11 (by kernel_rfl) rfl #[.agg #[.int .i64 t136, .int .i64 t137], .agg #[.int .i64 x133000_102, .int .i64 x133001_102]] rfl (by (try simp only [List.map_toArray, List.map_cons, List.map_nil]); first | done | rfl | (simp only [List.length_drop, List.length_take]; rfl)) ?_; (with_reducible refine (box_Ahead.calls t136 t137 x133000_102 x133001_102 true _ A138.out).mono ?_); rintro e w164 ⟨rfl, hb⟩; refine ⟨_, rfl, ?_⟩; have n0_ := Aside0.mk (blk_below (g := gb120) (o := .cells #[.int .i64 a0_0, .int .i64 a0_1] 29 (0, 0)) (by (with_reducible repeat (first | refine blk_drewN ?_ _ | refine blk_drew ?_ | refine blk_alloc ?_ _)); refine blk_far ?_ NB120_133.out _; (with_reducible repeat (first | refine blk_drewN ?_ _ | refine blk_drew ?_ | refine blk_alloc ?_ _)); refine blk_far ?_ NB120_133.out _; (with_reducible repeat (first | refine blk_drewN ?_ _ | refine blk_drew ?_ | refine blk_alloc ?_ _)); exact BK120.out) hb); have n1_ := Aside0.mk (blk_below (g := gb121) (o := .cells #[.int .i64 a1_0, .int .i64 a1_1] 29 (0, 0)) (by (with_reducible repeat (first | refine blk_drewN ?_ _ | refine blk_drew ?_ | refine blk_alloc ?_ _)); refine blk_far ?_ NB121_133.out _; (with_reducible repeat (first | refine blk_drewN ?_ _ | refine blk_drew ?_ | refine blk_alloc ?_ _)); refine blk_far ?_ NB121_133.out _; (with_reducible repeat (first | refine blk_drewN ?_ _ | refine blk_drew ?_ | refine blk_alloc ?_ _)); exact BK121.out) hb); have n2_ := Aside0.mk (blk_below (g := gb122) (o := .cells #[.int .i64 a2_0, .int .i64 a2_1, .int .i64 a2_2, .int .i64 a2_3] 31 (0, 0)) (by (with_reducible repeat (first | refine blk_drewN ?_ _ | refine blk_drew ?_ | refine blk_alloc ?_ _)); refine blk_far ?_ NB122_133.out _; (with_reducible repeat (first | refine blk_drewN ?_ _ | refine blk_drew ?_ | refine blk_alloc ?_ _)); refine blk_far ?_ NB122_133.out _; (with_reducible repeat (first | refine blk_drewN ?_ _ | refine blk_drew ?_ | refine blk_alloc ?_ _)); exact BK122.out) hb); have n3_ := Aside0.mk (blk_below (g := gb123) (o := .cells #[.int .i64 0, .int .i64 0] 23 (0, 0)) (by (with_reducible repeat (first | refine blk_drewN ?_ _ | refine blk_drew ?_ | refine blk_alloc ?_ _)); refine blk_far ?_ NB123_133.out _; (with_reducible repeat (first | refine blk_drewN ?_ _ | refine blk_drew ?_ | refine blk_alloc ?_ _)); refine blk_far ?_ NB123_133.out _; (with_reducible repeat (first | refine blk_drewN ?_ _ | refine blk_drew ?_ | refine blk_alloc ?_ _)); exact BK123.out) hb); have n4_ := Aside0.mk (blk_below (g := gb132) (o := .cells #[.int .i64 x133000_102, .int .i64 x133001_102] 23 (0, 0)) (by (with_reducible repeat (first | refine blk_drewN ?_ _ | refine blk_drew ?_ | refine blk_alloc ?_ _)); refine blk_far ?_ NB132_133.out _; (with_reducible repeat (first | refine blk_drewN ?_ _ | refine blk_drew ?_ | refine blk_alloc ?_ _)); refine blk_far ?_ NB132_133.out _; (with_reducible repeat (first | refine blk_drewN ?_ _ | refine blk_drew ?_ | refine blk_alloc ?_ _)); exact BK132.out) hb); have n5_ := Aside0.mk (blk_below (g := gb133) (o := .cells #[.int .i64 t136, .int .i64 t137] 23 (0, 0)) (by (with_reducible repeat (first | refine blk_drewN ?_ _ | refine blk_drew ?_ | refine blk_alloc ?_ _)); refine blk_put (cs := #[.int .i64 t136, .int .i64 t130]) ?_ 1 _ rfl; (with_reducible repeat (first | refine blk_drewN ?_ _ | refine blk_drew ?_ | refine blk_alloc ?_ _)); refine blk_put (cs := #[.int .i64 t129, .int .i64 t130]) ?_ 0 _ rfl; (with_reducible repeat (first | refine blk_drewN ?_ _ | refine blk_drew ?_ | refine blk_alloc ?_ _)); exact BK133.out) hb); have n6_ := Aside0.mk (blk_below (g := gb139) (o := .cells #[.int .i64 t134, .int .i64 t135] 23 (0, 0)) (by (with_reducible repeat (first | refine blk_drewN ?_ _ | refine blk_drew ?_ | refine blk_alloc ?_ _)); refine blk_far ?_ NB139_133.out _; (with_reducible repeat (first | refine blk_drewN ?_ _ | refine blk_drew ?_ | refine blk_alloc ?_ _)); refine blk_far ?_ NB139_133.out _; (with_reducible repeat (first | refine blk_drewN ?_ _ | refine blk_drew ?_ | refine blk_alloc ?_ _)); exact BK139.out) hb); have n7_ := Aside0.mk (blk_below (g := gb140) (o := .cells #[.int .i64 t136, .int .i64 t137] 23 (0, 0)) (by (with_reducible repeat (first | refine blk_drewN ?_ _ | refine blk_drew ?_ | refine blk_alloc ?_ _)); refine blk_far ?_ NB140_133.out _; (with_reducible repeat (first | refine blk_drewN ?_ _ | refine blk_drew ?_ | refine blk_alloc ?_ _)); refine blk_far ?_ NB140_133.out _; (with_reducible repeat (first | refine blk_drewN ?_ _ | refine blk_drew ?_ | refine blk_alloc ?_ _)); exact BK140.out) hb); have n8_ := Aside0.mk (below_step (by repeat (first | (with_reducible first | exact HB.out | apply below_alloc | apply pw_below_drewN | apply below_drew1 | refine below_set ?_ GE120.out | refine below_set ?_ GE121.out | refine below_set ?_ GE122.out | refine below_set ?_ GE123.out | refine below_set ?_ GE132.out | refine below_set ?_ GE133.out | refine below_set ?_ GE139.out | refine below_set ?_ GE140.out) | exact HB.out)) hb); clear BK120; clear BK121; clear BK122; clear BK123; clear BK132; clear BK133; clear BK139; clear BK140; clear HB; have BK120 := n0_; have BK121 := n1_; have BK122 := n2_; have BK123 := n3_; have BK132 := n4_; have BK133 := n5_; have BK139 := n6_; have BK140 := n7_; have HB := n8_; clear n0_ n1_ n2_ n3_ n4_ n5_ n6_ n7_ n8_; (try clear hb); (try clear hb2); (try clear hk); (try clear hi); have hnb165 := NB123_120.out; have hnc165 := NB120_123.out; have hnb166 := NB123_121.out; have hnc166 := NB121_123.out; have hnb167 := NB123_122.out; have hnc167 := NB122_123.out; have hnb168 := NB123_139.out; have hnc168 := NB139_123.out; have hcz169_0 : w164.cell? ⟨gb123, 0, none⟩ = some (.int .i64 0) := (blk_cell BK123.out 0).trans rfl; have hcz169_1 : w164.cell? ⟨gb123, 1, none⟩ = some (.int .i64 0) := (blk_cell BK123.out 1).trans rfl; have hfz169_0 := blk_frozen BK123.out 0; have hfz169_1 := blk_frozen BK123.out 1))
                      refine bodyPost_ret (results_ct rfl _ _ gb123 23 #[.int .i64 0, .int .i64 0] (0, 0) _ rfl (by (with_reducible repeat (first | refine blk_drewN ?_ _ | refine blk_drew ?_ | refine blk_alloc ?_ _)); refine blk_put (cs := #[.int .i64 0, .int .i64 0]) ?_ 1 _ rfl; (with_reducible repeat (first | refine blk_drewN ?_ _ | refine blk_drew ?_ | refine blk_alloc ?_ _)); refine blk_put (cs := #[.int .i64 0, .int .i64 0]) ?_ 0 _ rfl; (with_reducible repeat (first | refine blk_drewN ?_ _ | refine blk_drew ?_ | refine blk_alloc ?_ _)); exact BK123.out) Try.underlying23 rfl (by kernel_rfl)) rfl ?_
                      exact ⟨by first | rfl | (simp [errW_none, errW_some] <;> rfl) | (simp [*, errW_none, errW_some] <;> rfl), by repeat (first | (with_reducible first | exact HB.out | apply below_alloc | apply pw_below_drewN | apply below_drew1 | refine below_set ?_ GE120.out | refine below_set ?_ GE121.out | refine below_set ?_ GE122.out | refine below_set ?_ GE123.out | refine below_set ?_ GE132.out | refine below_set ?_ GE133.out | refine below_set ?_ GE139.out | refine below_set ?_ GE140.out) | exact HB.out)⟩
                    · replace c139 := Bool.eq_false_iff.mpr c139
                      subst c139
                      have H1 : (some (x133000_102, x133001_102, true)) = some (r1, r2, r3) := by rw [if_neg (show ¬ (false = true) by decide)] at H; exact H
                      clear H
                      have H := H1
                      clear H1
                      simp only [Option.some.injEq, Prod.mk.injEq] at H
                      obtain ⟨rfl, rfl, rfl⟩ := H
                      have hnb170 := NB140_120.out
                      have hnc170 := NB120_140.out
                      have hnb171 := NB140_121.out
                      have hnc171 := NB121_140.out
                      have hnb172 := NB140_122.out
                      have hnc172 := NB122_140.out
                      have hnb173 := NB140_123.out
                      have hnc173 := NB123_140.out
                      have hnb174 := NB140_132.out
                      have hnc174 := NB132_140.out
                      have hnb175 := NB140_133.out
                      have hnc175 := NB133_140.out
                      have hnb176 := NB140_139.out
                      have hnc176 := NB139_140.out
                      have hcz177_0 : wc.cell? ⟨gb140, 0, none⟩ = some (.int .i64 t136) := (blk_cell BK140.out 0).trans rfl
                      have hcz177_1 : wc.cell? ⟨gb140, 1, none⟩ = some (.int .i64 t137) := (blk_cell BK140.out 1).trans rfl
                      have hfz177_0 := blk_frozen BK140.out 0
                      have hfz177_1 := blk_frozen BK140.out 1
                      have hnb178 := NB133_120.out
                      have hnc178 := NB120_133.out
                      have hnb179 := NB133_121.out
                      have hnc179 := NB121_133.out
                      have hnb180 := NB133_122.out
                      have hnc180 := NB122_133.out
                      have hnb181 := NB133_123.out
                      have hnc181 := NB123_133.out
                      have hnb182 := NB133_132.out
                      have hnc182 := NB132_133.out
                      have hnb183 := NB133_139.out
                      have hnc183 := NB139_133.out
                      have hcz184_0 : wc.cell? ⟨gb133, 0, none⟩ = some (.int .i64 t129) := (blk_cell BK133.out 0).trans rfl
                      have hcz184_1 : wc.cell? ⟨gb133, 1, none⟩ = some (.int .i64 t130) := (blk_cell BK133.out 1).trans rfl
                      have hfz184_0 := blk_frozen BK133.out 0
                      have hfz184_1 := blk_frozen BK133.out 1
                      go_wp2_with (first | ((with_reducible refine gate_callee (f := 11) rfl ?_); refine goesL_ (some 71) rfl rfl Try.func11 (by kernel_rfl) rfl #[.agg #[.int .i64 t136, .int .i64 t137], .agg #[.int .i64 t129, .int .i64 t130]] rfl (by (try simp only [List.map_toArray, List.map_cons, List.map_nil]); first | done | rfl | (simp only [List.length_drop, List.length_take]; rfl)) ?_; (with_reducible refine (box_Ahead.calls t136 t137 t129 t130 true _ A136.out).mono ?_); rintro e w185 ⟨rfl, hb⟩; refine ⟨_, rfl, ?_⟩; have n0_ := Aside0.mk (blk_below (g := gb120) (o := .cells #[.int .i64 a0_0, .int .i64 a0_1] 29 (0, 0)) (by (with_reducible repeat (first | refine blk_drewN ?_ _ | refine blk_drew ?_ | refine blk_alloc ?_ _)); exact BK120.out) hb); have n1_ := Aside0.mk (blk_below (g := gb121) (o := .cells #[.int .i64 a1_0, .int .i64 a1_1] 29 (0, 0)) (by (with_reducible repeat (first | refine blk_drewN ?_ _ | refine blk_drew ?_ | refine blk_alloc ?_ _)); exact BK121.out) hb); have n2_ := Aside0.mk (blk_below (g := gb122) (o := .cells #[.int .i64 a2_0, .int .i64 a2_1, .int .i64 a2_2, .int .i64 a2_3] 31 (0, 0)) (by (with_reducible repeat (first | refine blk_drewN ?_ _ | refine blk_drew ?_ | refine blk_alloc ?_ _)); exact BK122.out) hb); have n3_ := Aside0.mk (blk_below (g := gb123) (o := .cells #[.int .i64 0, .int .i64 0] 23 (0, 0)) (by (with_reducible repeat (first | refine blk_drewN ?_ _ | refine blk_drew ?_ | refine blk_alloc ?_ _)); exact BK123.out) hb); have n4_ := Aside0.mk (blk_below (g := gb132) (o := .cells #[.int .i64 x133000_102, .int .i64 x133001_102] 23 (0, 0)) (by (with_reducible repeat (first | refine blk_drewN ?_ _ | refine blk_drew ?_ | refine blk_alloc ?_ _)); exact BK132.out) hb); have n5_ := Aside0.mk (blk_below (g := gb133) (o := .cells #[.int .i64 t129, .int .i64 t130] 23 (0, 0)) (by (with_reducible repeat (first | refine blk_drewN ?_ _ | refine blk_drew ?_ | refine blk_alloc ?_ _)); exact BK133.out) hb); have n6_ := Aside0.mk (blk_below (g := gb139) (o := .cells #[.int .i64 t134, .int .i64 t135] 23 (0, 0)) (by (with_reducible repeat (first | refine blk_drewN ?_ _ | refine blk_drew ?_ | refine blk_alloc ?_ _)); exact BK139.out) hb); have n7_ := Aside0.mk (blk_below (g := gb140) (o := .cells #[.int .i64 t136, .int .i64 t137] 23 (0, 0)) (by (with_reducible repeat (first | refine blk_drewN ?_ _ | refine blk_drew ?_ | refine blk_alloc ?_ _)); exact BK140.out) hb); have n8_ := Aside0.mk (below_step (by repeat (first | (with_reducible first | exact HB.out | apply below_alloc | apply pw_below_drewN | apply below_drew1 | refine below_set ?_ GE120.out | refine below_set ?_ GE121.out | refine below_set ?_ GE122.out | refine below_set ?_ GE123.out | refine below_set ?_ GE132.out | refine below_set ?_ GE133.out | refine below_set ?_ GE139.out | refine below_set ?_ GE140.out) | exact HB.out)) hb); clear BK120; clear BK121; clear BK122; clear BK123; clear BK132; clear BK133; clear BK139; clear BK140; clear HB; have BK120 := n0_; have BK121 := n1_; have BK122 := n2_; have BK123 := n3_; have BK132 := n4_; have BK133 := n5_; have BK139 := n6_; have BK140 := n7_; have HB := n8_; clear n0_ n1_ n2_ n3_ n4_ n5_ n6_ n7_ n8_; (try clear hb); (try clear hb2); (try clear hk); (try clear hi); have hcz186_0 : w185.cell? ⟨gb140, 0, none⟩ = some (.int .i64 t136) := (blk_cell BK140.out 0).trans rfl; have hcz186_1 : w185.cell? ⟨gb140, 1, none⟩ = some (.int .i64 t137) := (blk_cell BK140.out 1).trans rfl; have hfz186_0 := blk_frozen BK140.out 0; have hfz186_1 := blk_frozen BK140.out 1; have hcz187_0 : w185.cell? ⟨gb133, 0, none⟩ = some (.int .i64 t129) := (blk_cell BK133.out 0).trans rfl; have hcz187_1 : w185.cell? ⟨gb133, 1, none⟩ = some (.int .i64 t130) := (blk_cell BK133.out 1).trans rfl; have hfz187_0 := blk_frozen BK133.out 0; have hfz187_1 := blk_frozen BK133.out 1; have hnb188 := NB132_120.out; have hnc188 := NB120_132.out; have hnb189 := NB132_121.out; have hnc189 := NB121_132.out; have hnb190 := NB132_122.out; have hnc190 := NB122_132.out; have hnb191 := NB132_123.out; have hnc191 := NB123_132.out; have hnb192 := NB132_139.out; have hnc192 := NB139_132.out; have hcz193_0 : w185.cell? ⟨gb132, 0, none⟩ = some (.int .i64 x133000_102) := (blk_cell BK132.out 0).trans rfl; have hcz193_1 : w185.cell? ⟨gb132, 1, none⟩ = some (.int .i64 x133001_102) := (blk_cell BK132.out 1).trans rfl; have hfz193_0 := blk_frozen BK132.out 0; have hfz193_1 := blk_frozen BK132.out 1) | ((with_reducible refine gate_callee (f := 11) rfl ?_); refine goesL_ (some 75) rfl rfl Try.func11 (by kernel_rfl) rfl #[.agg #[.int .i64 t136, .int .i64 t137], .agg #[.int .i64 x133000_102, .int .i64 x133001_102]] rfl (by (try simp only [List.map_toArray, List.map_cons, List.map_nil]); first | done | rfl | (simp only [List.length_drop, List.length_take]; rfl)) ?_; (with_reducible refine (box_Ahead.calls t136 t137 x133000_102 x133001_102 false _ A138.out).mono ?_); rintro e w194 ⟨rfl, hb⟩; refine ⟨_, rfl, ?_⟩; have n0_ := Aside0.mk (blk_below (g := gb120) (o := .cells #[.int .i64 a0_0, .int .i64 a0_1] 29 (0, 0)) (by (with_reducible repeat (first | refine blk_drewN ?_ _ | refine blk_drew ?_ | refine blk_alloc ?_ _)); refine blk_far ?_ NB120_133.out _; (with_reducible repeat (first | refine blk_drewN ?_ _ | refine blk_drew ?_ | refine blk_alloc ?_ _)); refine blk_far ?_ NB120_133.out _; (with_reducible repeat (first | refine blk_drewN ?_ _ | refine blk_drew ?_ | refine blk_alloc ?_ _)); exact BK120.out) hb); have n1_ := Aside0.mk (blk_below (g := gb121) (o := .cells #[.int .i64 a1_0, .int .i64 a1_1] 29 (0, 0)) (by (with_reducible repeat (first | refine blk_drewN ?_ _ | refine blk_drew ?_ | refine blk_alloc ?_ _)); refine blk_far ?_ NB121_133.out _; (with_reducible repeat (first | refine blk_drewN ?_ _ | refine blk_drew ?_ | refine blk_alloc ?_ _)); refine blk_far ?_ NB121_133.out _; (with_reducible repeat (first | refine blk_drewN ?_ _ | refine blk_drew ?_ | refine blk_alloc ?_ _)); exact BK121.out) hb); have n2_ := Aside0.mk (blk_below (g := gb122) (o := .cells #[.int .i64 a2_0, .int .i64 a2_1, .int .i64 a2_2, .int .i64 a2_3] 31 (0, 0)) (by (with_reducible repeat (first | refine blk_drewN ?_ _ | refine blk_drew ?_ | refine blk_alloc ?_ _)); refine blk_far ?_ NB122_133.out _; (with_reducible repeat (first | refine blk_drewN ?_ _ | refine blk_drew ?_ | refine blk_alloc ?_ _)); refine blk_far ?_ NB122_133.out _; (with_reducible repeat (first | refine blk_drewN ?_ _ | refine blk_drew ?_ | refine blk_alloc ?_ _)); exact BK122.out) hb); have n3_ := Aside0.mk (blk_below (g := gb123) (o := .cells #[.int .i64 0, .int .i64 0] 23 (0, 0)) (by (with_reducible repeat (first | refine blk_drewN ?_ _ | refine blk_drew ?_ | refine blk_alloc ?_ _)); refine blk_far ?_ NB123_133.out _; (with_reducible repeat (first | refine blk_drewN ?_ _ | refine blk_drew ?_ | refine blk_alloc ?_ _)); refine blk_far ?_ NB123_133.out _; (with_reducible repeat (first | refine blk_drewN ?_ _ | refine blk_drew ?_ | refine blk_alloc ?_ _)); exact BK123.out) hb); have n4_ := Aside0.mk (blk_below (g := gb132) (o := .cells #[.int .i64 x133000_102, .int .i64 x133001_102] 23 (0, 0)) (by (with_reducible repeat (first | refine blk_drewN ?_ _ | refine blk_drew ?_ | refine blk_alloc ?_ _)); refine blk_far ?_ NB132_133.out _; (with_reducible repeat (first | refine blk_drewN ?_ _ | refine blk_drew ?_ | refine blk_alloc ?_ _)); refine blk_far ?_ NB132_133.out _; (with_reducible repeat (first | refine blk_drewN ?_ _ | refine blk_drew ?_ | refine blk_alloc ?_ _)); exact BK132.out) hb); have n5_ := Aside0.mk (blk_below (g := gb133) (o := .cells #[.int .i64 t136, .int .i64 t137] 23 (0, 0)) (by (with_reducible repeat (first | refine blk_drewN ?_ _ | refine blk_drew ?_ | refine blk_alloc ?_ _)); refine blk_put (cs := #[.int .i64 t136, .int .i64 t130]) ?_ 1 _ rfl; (with_reducible repeat (first | refine blk_drewN ?_ _ | refine blk_drew ?_ | refine blk_alloc ?_ _)); refine blk_put (cs := #[.int .i64 t129, .int .i64 t130]) ?_ 0 _ rfl; (with_reducible repeat (first | refine blk_drewN ?_ _ | refine blk_drew ?_ | refine blk_alloc ?_ _)); exact BK133.out) hb); have n6_ := Aside0.mk (blk_below (g := gb139) (o := .cells #[.int .i64 t134, .int .i64 t135] 23 (0, 0)) (by (with_reducible repeat (first | refine blk_drewN ?_ _ | refine blk_drew ?_ | refine blk_alloc ?_ _)); refine blk_far ?_ NB139_133.out _; (with_reducible repeat (first | refine blk_drewN ?_ _ | refine blk_drew ?_ | refine blk_alloc ?_ _)); refine blk_far ?_ NB139_133.out _; (with_reducible repeat (first | refine blk_drewN ?_ _ | refine blk_drew ?_ | refine blk_alloc ?_ _)); exact BK139.out) hb); have n7_ := Aside0.mk (blk_below (g := gb140) (o := .cells #[.int .i64 t136, .int .i64 t137] 23 (0, 0)) (by (with_reducible repeat (first | refine blk_drewN ?_ _ | refine blk_drew ?_ | refine blk_alloc ?_ _)); refine blk_far ?_ NB140_133.out _; (with_reducible repeat (first | refine blk_drewN ?_ _ | refine blk_drew ?_ | refine blk_alloc ?_ _)); refine blk_far ?_ NB140_133.out _; (with_reducible repeat (first | refine blk_drewN ?_ _ | refine blk_drew ?_ | refine blk_alloc ?_ _)); exact BK140.out) hb); have n8_ := Aside0.mk (below_step (by repeat (first | (with_reducible first | exact HB.out | apply below_alloc | apply pw_below_drewN | apply below_drew1 | refine below_set ?_ GE120.out | refine below_set ?_ GE121.out | refine below_set ?_ GE122.out | refine below_set ?_ GE123.out | refine below_set ?_ GE132.out | refine below_set ?_ GE133.out | refine below_set ?_ GE139.out | refine below_set ?_ GE140.out) | exact HB.out)) hb); clear BK120; clear BK121; clear BK122; clear BK123; clear BK132; clear BK133; clear BK139; clear BK140; clear HB; have BK120 := n0_; have BK121 := n1_; have BK122 := n2_; have BK123 := n3_; have BK132 := n4_; have BK133 := n5_; have BK139 := n6_; have BK140 := n7_; have HB := n8_; clear n0_ n1_ n2_ n3_ n4_ n5_ n6_ n7_ n8_; (try clear hb); (try clear hb2); (try clear hk); (try clear hi); have hcz195_0 : w194.cell? ⟨gb132, 0, none⟩ = some (.int .i64 x133000_102) := (blk_cell BK132.out 0).trans rfl; have hcz195_1 : w194.cell? ⟨gb132, 1, none⟩ = some (.int .i64 x133001_102) := (blk_cell BK132.out 1).trans rfl; have hfz195_0 := blk_frozen BK132.out 0; have hfz195_1 := blk_frozen BK132.out 1; have hnb196 := NB123_120.out; have hnc196 := NB120_123.out; have hnb197 := NB123_121.out; have hnc197 := NB121_123.out; have hnb198 := NB123_122.out; have hnc198 := NB122_123.out; have hnb199 := NB123_139.out; have hnc199 := NB139_123.out; have hcz200_0 : w194.cell? ⟨gb123, 0, none⟩ = some (.int .i64 0) := (blk_cell BK123.out 0).trans rfl; have hcz200_1 : w194.cell? ⟨gb123, 1, none⟩ = some (.int .i64 0) := (blk_cell BK123.out 1).trans rfl; have hfz200_0 := blk_frozen BK123.out 0; have hfz200_1 := blk_frozen BK123.out 1))
                      refine bodyPost_ret (results_ct rfl _ _ gb123 23 #[.int .i64 x133000_102, .int .i64 x133001_102] (0, 0) _ rfl (by (with_reducible repeat (first | refine blk_drewN ?_ _ | refine blk_drew ?_ | refine blk_alloc ?_ _)); refine blk_put (cs := #[.int .i64 x133000_102, .int .i64 0]) ?_ 1 _ rfl; (with_reducible repeat (first | refine blk_drewN ?_ _ | refine blk_drew ?_ | refine blk_alloc ?_ _)); refine blk_put (cs := #[.int .i64 0, .int .i64 0]) ?_ 0 _ rfl; (with_reducible repeat (first | refine blk_drewN ?_ _ | refine blk_drew ?_ | refine blk_alloc ?_ _)); exact BK123.out) Try.underlying23 rfl (by kernel_rfl)) rfl ?_
                      exact ⟨by first | rfl | (simp [errW_none, errW_some] <;> rfl) | (simp [*, errW_none, errW_some] <;> rfl), by repeat (first | (with_reducible first | exact HB.out | apply below_alloc | apply pw_below_drewN | apply below_drew1 | refine below_set ?_ GE120.out | refine below_set ?_ GE121.out | refine below_set ?_ GE122.out | refine below_set ?_ GE123.out | refine below_set ?_ GE132.out | refine below_set ?_ GE133.out | refine below_set ?_ GE139.out | refine below_set ?_ GE140.out) | exact HB.out)⟩
                  · replace c137 := Bool.eq_false_iff.mpr c137
                    subst c137
                    have H1 : ((box_Ahead.f t129 t130 x133000_102 x133001_102).bind fun t144 => (if t144 = true then (some (0, 0, false)) else (some (x133000_102, x133001_102, true)))) = some (r1, r2, r3) := by rw [if_neg (show ¬ (false = true) by decide)] at H; exact H
                    clear H
                    have H := H1
                    clear H1
                    replace H := Option.bind_eq_some_iff.mp H
                    obtain ⟨t144, A2010, H⟩ := H
                    replace H : (if t144 = true then (some (0, 0, false)) else (some (x133000_102, x133001_102, true))) = some (r1, r2, r3) := H
                    have A201 := Aside0.mk A2010
                    clear A2010
                    by_cases c202 : t144 = true
                    · subst c202
                      have H1 : (some (0, 0, false)) = some (r1, r2, r3) := by rw [if_pos rfl] at H; exact H
                      clear H
                      have H := H1
                      clear H1
                      simp only [Option.some.injEq, Prod.mk.injEq] at H
                      obtain ⟨rfl, rfl, rfl⟩ := H
                      have hnb203 := NB140_120.out
                      have hnc203 := NB120_140.out
                      have hnb204 := NB140_121.out
                      have hnc204 := NB121_140.out
                      have hnb205 := NB140_122.out
                      have hnc205 := NB122_140.out
                      have hnb206 := NB140_123.out
                      have hnc206 := NB123_140.out
                      have hnb207 := NB140_132.out
                      have hnc207 := NB132_140.out
                      have hnb208 := NB140_133.out
                      have hnc208 := NB133_140.out
                      have hnb209 := NB140_139.out
                      have hnc209 := NB139_140.out
                      have hcz210_0 : wc.cell? ⟨gb140, 0, none⟩ = some (.int .i64 t136) := (blk_cell BK140.out 0).trans rfl
                      have hcz210_1 : wc.cell? ⟨gb140, 1, none⟩ = some (.int .i64 t137) := (blk_cell BK140.out 1).trans rfl
                      have hfz210_0 := blk_frozen BK140.out 0
                      have hfz210_1 := blk_frozen BK140.out 1
                      have hnb211 := NB133_120.out
                      have hnc211 := NB120_133.out
                      have hnb212 := NB133_121.out
                      have hnc212 := NB121_133.out
                      have hnb213 := NB133_122.out
                      have hnc213 := NB122_133.out
                      have hnb214 := NB133_123.out
                      have hnc214 := NB123_133.out
                      have hnb215 := NB133_132.out
                      have hnc215 := NB132_133.out
                      have hnb216 := NB133_139.out
                      have hnc216 := NB139_133.out
                      have hcz217_0 : wc.cell? ⟨gb133, 0, none⟩ = some (.int .i64 t129) := (blk_cell BK133.out 0).trans rfl
                      have hcz217_1 : wc.cell? ⟨gb133, 1, none⟩ = some (.int .i64 t130) := (blk_cell BK133.out 1).trans rfl
                      have hfz217_0 := blk_frozen BK133.out 0
                      have hfz217_1 := blk_frozen BK133.out 1
                      go_wp2_with (first | ((with_reducible refine gate_callee (f := 11) rfl ?_); refine goesL_ (some 71) rfl rfl Try.func11 (by kernel_rfl) rfl #[.agg #[.int .i64 t136, .int .i64 t137], .agg #[.int .i64 t129, .int .i64 t130]] rfl (by (try simp only [List.map_toArray, List.map_cons, List.map_nil]); first | done | rfl | (simp only [List.length_drop, List.length_take]; rfl)) ?_; (with_reducible refine (box_Ahead.calls t136 t137 t129 t130 false _ A136.out).mono ?_); rintro e w218 ⟨rfl, hb⟩; refine ⟨_, rfl, ?_⟩; have n0_ := Aside0.mk (blk_below (g := gb120) (o := .cells #[.int .i64 a0_0, .int .i64 a0_1] 29 (0, 0)) (by (with_reducible repeat (first | refine blk_drewN ?_ _ | refine blk_drew ?_ | refine blk_alloc ?_ _)); exact BK120.out) hb); have n1_ := Aside0.mk (blk_below (g := gb121) (o := .cells #[.int .i64 a1_0, .int .i64 a1_1] 29 (0, 0)) (by (with_reducible repeat (first | refine blk_drewN ?_ _ | refine blk_drew ?_ | refine blk_alloc ?_ _)); exact BK121.out) hb); have n2_ := Aside0.mk (blk_below (g := gb122) (o := .cells #[.int .i64 a2_0, .int .i64 a2_1, .int .i64 a2_2, .int .i64 a2_3] 31 (0, 0)) (by (with_reducible repeat (first | refine blk_drewN ?_ _ | refine blk_drew ?_ | refine blk_alloc ?_ _)); exact BK122.out) hb); have n3_ := Aside0.mk (blk_below (g := gb123) (o := .cells #[.int .i64 0, .int .i64 0] 23 (0, 0)) (by (with_reducible repeat (first | refine blk_drewN ?_ _ | refine blk_drew ?_ | refine blk_alloc ?_ _)); exact BK123.out) hb); have n4_ := Aside0.mk (blk_below (g := gb132) (o := .cells #[.int .i64 x133000_102, .int .i64 x133001_102] 23 (0, 0)) (by (with_reducible repeat (first | refine blk_drewN ?_ _ | refine blk_drew ?_ | refine blk_alloc ?_ _)); exact BK132.out) hb); have n5_ := Aside0.mk (blk_below (g := gb133) (o := .cells #[.int .i64 t129, .int .i64 t130] 23 (0, 0)) (by (with_reducible repeat (first | refine blk_drewN ?_ _ | refine blk_drew ?_ | refine blk_alloc ?_ _)); exact BK133.out) hb); have n6_ := Aside0.mk (blk_below (g := gb139) (o := .cells #[.int .i64 t134, .int .i64 t135] 23 (0, 0)) (by (with_reducible repeat (first | refine blk_drewN ?_ _ | refine blk_drew ?_ | refine blk_alloc ?_ _)); exact BK139.out) hb); have n7_ := Aside0.mk (blk_below (g := gb140) (o := .cells #[.int .i64 t136, .int .i64 t137] 23 (0, 0)) (by (with_reducible repeat (first | refine blk_drewN ?_ _ | refine blk_drew ?_ | refine blk_alloc ?_ _)); exact BK140.out) hb); have n8_ := Aside0.mk (below_step (by repeat (first | (with_reducible first | exact HB.out | apply below_alloc | apply pw_below_drewN | apply below_drew1 | refine below_set ?_ GE120.out | refine below_set ?_ GE121.out | refine below_set ?_ GE122.out | refine below_set ?_ GE123.out | refine below_set ?_ GE132.out | refine below_set ?_ GE133.out | refine below_set ?_ GE139.out | refine below_set ?_ GE140.out) | exact HB.out)) hb); clear BK120; clear BK121; clear BK122; clear BK123; clear BK132; clear BK133; clear BK139; clear BK140; clear HB; have BK120 := n0_; have BK121 := n1_; have BK122 := n2_; have BK123 := n3_; have BK132 := n4_; have BK133 := n5_; have BK139 := n6_; have BK140 := n7_; have HB := n8_; clear n0_ n1_ n2_ n3_ n4_ n5_ n6_ n7_ n8_; (try clear hb); (try clear hb2); (try clear hk); (try clear hi); have hcz219_0 : w218.cell? ⟨gb133, 0, none⟩ = some (.int .i64 t129) := (blk_cell BK133.out 0).trans rfl; have hcz219_1 : w218.cell? ⟨gb133, 1, none⟩ = some (.int .i64 t130) := (blk_cell BK133.out 1).trans rfl; have hfz219_0 := blk_frozen BK133.out 0; have hfz219_1 := blk_frozen BK133.out 1; have hnb220 := NB132_120.out; have hnc220 := NB120_132.out; have hnb221 := NB132_121.out; have hnc221 := NB121_132.out; have hnb222 := NB132_122.out; have hnc222 := NB122_132.out; have hnb223 := NB132_123.out; have hnc223 := NB123_132.out; have hnb224 := NB132_139.out; have hnc224 := NB139_132.out; have hcz225_0 : w218.cell? ⟨gb132, 0, none⟩ = some (.int .i64 x133000_102) := (blk_cell BK132.out 0).trans rfl; have hcz225_1 : w218.cell? ⟨gb132, 1, none⟩ = some (.int .i64 x133001_102) := (blk_cell BK132.out 1).trans rfl; have hfz225_0 := blk_frozen BK132.out 0; have hfz225_1 := blk_frozen BK132.out 1) | ((with_reducible refine gate_callee (f := 11) rfl ?_); refine goesL_ (some 75) rfl rfl Try.func11 (by kernel_rfl) rfl #[.agg #[.int .i64 t129, .int .i64 t130], .agg #[.int .i64 x133000_102, .int .i64 x133001_102]] rfl (by (try simp only [List.map_toArray, List.map_cons, List.map_nil]); first | done | rfl | (simp only [List.length_drop, List.length_take]; rfl)) ?_; (with_reducible refine (box_Ahead.calls t129 t130 x133000_102 x133001_102 true _ A201.out).mono ?_); rintro e w226 ⟨rfl, hb⟩; refine ⟨_, rfl, ?_⟩; have n0_ := Aside0.mk (blk_below (g := gb120) (o := .cells #[.int .i64 a0_0, .int .i64 a0_1] 29 (0, 0)) (by (with_reducible repeat (first | refine blk_drewN ?_ _ | refine blk_drew ?_ | refine blk_alloc ?_ _)); exact BK120.out) hb); have n1_ := Aside0.mk (blk_below (g := gb121) (o := .cells #[.int .i64 a1_0, .int .i64 a1_1] 29 (0, 0)) (by (with_reducible repeat (first | refine blk_drewN ?_ _ | refine blk_drew ?_ | refine blk_alloc ?_ _)); exact BK121.out) hb); have n2_ := Aside0.mk (blk_below (g := gb122) (o := .cells #[.int .i64 a2_0, .int .i64 a2_1, .int .i64 a2_2, .int .i64 a2_3] 31 (0, 0)) (by (with_reducible repeat (first | refine blk_drewN ?_ _ | refine blk_drew ?_ | refine blk_alloc ?_ _)); exact BK122.out) hb); have n3_ := Aside0.mk (blk_below (g := gb123) (o := .cells #[.int .i64 0, .int .i64 0] 23 (0, 0)) (by (with_reducible repeat (first | refine blk_drewN ?_ _ | refine blk_drew ?_ | refine blk_alloc ?_ _)); exact BK123.out) hb); have n4_ := Aside0.mk (blk_below (g := gb132) (o := .cells #[.int .i64 x133000_102, .int .i64 x133001_102] 23 (0, 0)) (by (with_reducible repeat (first | refine blk_drewN ?_ _ | refine blk_drew ?_ | refine blk_alloc ?_ _)); exact BK132.out) hb); have n5_ := Aside0.mk (blk_below (g := gb133) (o := .cells #[.int .i64 t129, .int .i64 t130] 23 (0, 0)) (by (with_reducible repeat (first | refine blk_drewN ?_ _ | refine blk_drew ?_ | refine blk_alloc ?_ _)); exact BK133.out) hb); have n6_ := Aside0.mk (blk_below (g := gb139) (o := .cells #[.int .i64 t134, .int .i64 t135] 23 (0, 0)) (by (with_reducible repeat (first | refine blk_drewN ?_ _ | refine blk_drew ?_ | refine blk_alloc ?_ _)); exact BK139.out) hb); have n7_ := Aside0.mk (blk_below (g := gb140) (o := .cells #[.int .i64 t136, .int .i64 t137] 23 (0, 0)) (by (with_reducible repeat (first | refine blk_drewN ?_ _ | refine blk_drew ?_ | refine blk_alloc ?_ _)); exact BK140.out) hb); have n8_ := Aside0.mk (below_step (by repeat (first | (with_reducible first | exact HB.out | apply below_alloc | apply pw_below_drewN | apply below_drew1 | refine below_set ?_ GE120.out | refine below_set ?_ GE121.out | refine below_set ?_ GE122.out | refine below_set ?_ GE123.out | refine below_set ?_ GE132.out | refine below_set ?_ GE133.out | refine below_set ?_ GE139.out | refine below_set ?_ GE140.out) | exact HB.out)) hb); clear BK120; clear BK121; clear BK122; clear BK123; clear BK132; clear BK133; clear BK139; clear BK140; clear HB; have BK120 := n0_; have BK121 := n1_; have BK122 := n2_; have BK123 := n3_; have BK132 := n4_; have BK133 := n5_; have BK139 := n6_; have BK140 := n7_; have HB := n8_; clear n0_ n1_ n2_ n3_ n4_ n5_ n6_ n7_ n8_; (try clear hb); (try clear hb2); (try clear hk); (try clear hi); have hnb227 := NB123_120.out; have hnc227 := NB120_123.out; have hnb228 := NB123_121.out; have hnc228 := NB121_123.out; have hnb229 := NB123_122.out; have hnc229 := NB122_123.out; have hnb230 := NB123_139.out; have hnc230 := NB139_123.out; have hcz231_0 : w226.cell? ⟨gb123, 0, none⟩ = some (.int .i64 0) := (blk_cell BK123.out 0).trans rfl; have hcz231_1 : w226.cell? ⟨gb123, 1, none⟩ = some (.int .i64 0) := (blk_cell BK123.out 1).trans rfl; have hfz231_0 := blk_frozen BK123.out 0; have hfz231_1 := blk_frozen BK123.out 1))
                      refine bodyPost_ret (results_ct rfl _ _ gb123 23 #[.int .i64 0, .int .i64 0] (0, 0) _ rfl (by (with_reducible repeat (first | refine blk_drewN ?_ _ | refine blk_drew ?_ | refine blk_alloc ?_ _)); refine blk_put (cs := #[.int .i64 0, .int .i64 0]) ?_ 1 _ rfl; (with_reducible repeat (first | refine blk_drewN ?_ _ | refine blk_drew ?_ | refine blk_alloc ?_ _)); refine blk_put (cs := #[.int .i64 0, .int .i64 0]) ?_ 0 _ rfl; (with_reducible repeat (first | refine blk_drewN ?_ _ | refine blk_drew ?_ | refine blk_alloc ?_ _)); exact BK123.out) Try.underlying23 rfl (by kernel_rfl)) rfl ?_
                      exact ⟨by first | rfl | (simp [errW_none, errW_some] <;> rfl) | (simp [*, errW_none, errW_some] <;> rfl), by repeat (first | (with_reducible first | exact HB.out | apply below_alloc | apply pw_below_drewN | apply below_drew1 | refine below_set ?_ GE120.out | refine below_set ?_ GE121.out | refine below_set ?_ GE122.out | refine below_set ?_ GE123.out | refine below_set ?_ GE132.out | refine below_set ?_ GE133.out | refine below_set ?_ GE139.out | refine below_set ?_ GE140.out) | exact HB.out)⟩
                    · replace c202 := Bool.eq_false_iff.mpr c202
                      subst c202
                      have H1 : (some (x133000_102, x133001_102, true)) = some (r1, r2, r3) := by rw [if_neg (show ¬ (false = true) by decide)] at H; exact H
                      clear H
                      have H := H1
                      clear H1
                      simp only [Option.some.injEq, Prod.mk.injEq] at H
                      obtain ⟨rfl, rfl, rfl⟩ := H
                      have hnb232 := NB140_120.out
                      have hnc232 := NB120_140.out
                      have hnb233 := NB140_121.out
                      have hnc233 := NB121_140.out
                      have hnb234 := NB140_122.out
                      have hnc234 := NB122_140.out
                      have hnb235 := NB140_123.out
                      have hnc235 := NB123_140.out
                      have hnb236 := NB140_132.out
                      have hnc236 := NB132_140.out
                      have hnb237 := NB140_133.out
                      have hnc237 := NB133_140.out
                      have hnb238 := NB140_139.out
                      have hnc238 := NB139_140.out
                      have hcz239_0 : wc.cell? ⟨gb140, 0, none⟩ = some (.int .i64 t136) := (blk_cell BK140.out 0).trans rfl
                      have hcz239_1 : wc.cell? ⟨gb140, 1, none⟩ = some (.int .i64 t137) := (blk_cell BK140.out 1).trans rfl
                      have hfz239_0 := blk_frozen BK140.out 0
                      have hfz239_1 := blk_frozen BK140.out 1
                      have hnb240 := NB133_120.out
                      have hnc240 := NB120_133.out
                      have hnb241 := NB133_121.out
                      have hnc241 := NB121_133.out
                      have hnb242 := NB133_122.out
                      have hnc242 := NB122_133.out
                      have hnb243 := NB133_123.out
                      have hnc243 := NB123_133.out
                      have hnb244 := NB133_132.out
                      have hnc244 := NB132_133.out
                      have hnb245 := NB133_139.out
                      have hnc245 := NB139_133.out
                      have hcz246_0 : wc.cell? ⟨gb133, 0, none⟩ = some (.int .i64 t129) := (blk_cell BK133.out 0).trans rfl
                      have hcz246_1 : wc.cell? ⟨gb133, 1, none⟩ = some (.int .i64 t130) := (blk_cell BK133.out 1).trans rfl
                      have hfz246_0 := blk_frozen BK133.out 0
                      have hfz246_1 := blk_frozen BK133.out 1
                      go_wp2_with (first | ((with_reducible refine gate_callee (f := 11) rfl ?_); refine goesL_ (some 71) rfl rfl Try.func11 (by kernel_rfl) rfl #[.agg #[.int .i64 t136, .int .i64 t137], .agg #[.int .i64 t129, .int .i64 t130]] rfl (by (try simp only [List.map_toArray, List.map_cons, List.map_nil]); first | done | rfl | (simp only [List.length_drop, List.length_take]; rfl)) ?_; (with_reducible refine (box_Ahead.calls t136 t137 t129 t130 false _ A136.out).mono ?_); rintro e w247 ⟨rfl, hb⟩; refine ⟨_, rfl, ?_⟩; have n0_ := Aside0.mk (blk_below (g := gb120) (o := .cells #[.int .i64 a0_0, .int .i64 a0_1] 29 (0, 0)) (by (with_reducible repeat (first | refine blk_drewN ?_ _ | refine blk_drew ?_ | refine blk_alloc ?_ _)); exact BK120.out) hb); have n1_ := Aside0.mk (blk_below (g := gb121) (o := .cells #[.int .i64 a1_0, .int .i64 a1_1] 29 (0, 0)) (by (with_reducible repeat (first | refine blk_drewN ?_ _ | refine blk_drew ?_ | refine blk_alloc ?_ _)); exact BK121.out) hb); have n2_ := Aside0.mk (blk_below (g := gb122) (o := .cells #[.int .i64 a2_0, .int .i64 a2_1, .int .i64 a2_2, .int .i64 a2_3] 31 (0, 0)) (by (with_reducible repeat (first | refine blk_drewN ?_ _ | refine blk_drew ?_ | refine blk_alloc ?_ _)); exact BK122.out) hb); have n3_ := Aside0.mk (blk_below (g := gb123) (o := .cells #[.int .i64 0, .int .i64 0] 23 (0, 0)) (by (with_reducible repeat (first | refine blk_drewN ?_ _ | refine blk_drew ?_ | refine blk_alloc ?_ _)); exact BK123.out) hb); have n4_ := Aside0.mk (blk_below (g := gb132) (o := .cells #[.int .i64 x133000_102, .int .i64 x133001_102] 23 (0, 0)) (by (with_reducible repeat (first | refine blk_drewN ?_ _ | refine blk_drew ?_ | refine blk_alloc ?_ _)); exact BK132.out) hb); have n5_ := Aside0.mk (blk_below (g := gb133) (o := .cells #[.int .i64 t129, .int .i64 t130] 23 (0, 0)) (by (with_reducible repeat (first | refine blk_drewN ?_ _ | refine blk_drew ?_ | refine blk_alloc ?_ _)); exact BK133.out) hb); have n6_ := Aside0.mk (blk_below (g := gb139) (o := .cells #[.int .i64 t134, .int .i64 t135] 23 (0, 0)) (by (with_reducible repeat (first | refine blk_drewN ?_ _ | refine blk_drew ?_ | refine blk_alloc ?_ _)); exact BK139.out) hb); have n7_ := Aside0.mk (blk_below (g := gb140) (o := .cells #[.int .i64 t136, .int .i64 t137] 23 (0, 0)) (by (with_reducible repeat (first | refine blk_drewN ?_ _ | refine blk_drew ?_ | refine blk_alloc ?_ _)); exact BK140.out) hb); have n8_ := Aside0.mk (below_step (by repeat (first | (with_reducible first | exact HB.out | apply below_alloc | apply pw_below_drewN | apply below_drew1 | refine below_set ?_ GE120.out | refine below_set ?_ GE121.out | refine below_set ?_ GE122.out | refine below_set ?_ GE123.out | refine below_set ?_ GE132.out | refine below_set ?_ GE133.out | refine below_set ?_ GE139.out | refine below_set ?_ GE140.out) | exact HB.out)) hb); clear BK120; clear BK121; clear BK122; clear BK123; clear BK132; clear BK133; clear BK139; clear BK140; clear HB; have BK120 := n0_; have BK121 := n1_; have BK122 := n2_; have BK123 := n3_; have BK132 := n4_; have BK133 := n5_; have BK139 := n6_; have BK140 := n7_; have HB := n8_; clear n0_ n1_ n2_ n3_ n4_ n5_ n6_ n7_ n8_; (try clear hb); (try clear hb2); (try clear hk); (try clear hi); have hcz248_0 : w247.cell? ⟨gb133, 0, none⟩ = some (.int .i64 t129) := (blk_cell BK133.out 0).trans rfl; have hcz248_1 : w247.cell? ⟨gb133, 1, none⟩ = some (.int .i64 t130) := (blk_cell BK133.out 1).trans rfl; have hfz248_0 := blk_frozen BK133.out 0; have hfz248_1 := blk_frozen BK133.out 1; have hnb249 := NB132_120.out; have hnc249 := NB120_132.out; have hnb250 := NB132_121.out; have hnc250 := NB121_132.out; have hnb251 := NB132_122.out; have hnc251 := NB122_132.out; have hnb252 := NB132_123.out; have hnc252 := NB123_132.out; have hnb253 := NB132_139.out; have hnc253 := NB139_132.out; have hcz254_0 : w247.cell? ⟨gb132, 0, none⟩ = some (.int .i64 x133000_102) := (blk_cell BK132.out 0).trans rfl; have hcz254_1 : w247.cell? ⟨gb132, 1, none⟩ = some (.int .i64 x133001_102) := (blk_cell BK132.out 1).trans rfl; have hfz254_0 := blk_frozen BK132.out 0; have hfz254_1 := blk_frozen BK132.out 1) | ((with_reducible refine gate_callee (f := 11) rfl ?_); refine goesL_ (some 75) rfl rfl Try.func11 (by kernel_rfl) rfl #[.agg #[.int .i64 t129, .int .i64 t130], .agg #[.int .i64 x133000_102, .int .i64 x133001_102]] rfl (by (try simp only [List.map_toArray, List.map_cons, List.map_nil]); first | done | rfl | (simp only [List.length_drop, List.length_take]; rfl)) ?_; (with_reducible refine (box_Ahead.calls t129 t130 x133000_102 x133001_102 false _ A201.out).mono ?_); rintro e w255 ⟨rfl, hb⟩; refine ⟨_, rfl, ?_⟩; have n0_ := Aside0.mk (blk_below (g := gb120) (o := .cells #[.int .i64 a0_0, .int .i64 a0_1] 29 (0, 0)) (by (with_reducible repeat (first | refine blk_drewN ?_ _ | refine blk_drew ?_ | refine blk_alloc ?_ _)); exact BK120.out) hb); have n1_ := Aside0.mk (blk_below (g := gb121) (o := .cells #[.int .i64 a1_0, .int .i64 a1_1] 29 (0, 0)) (by (with_reducible repeat (first | refine blk_drewN ?_ _ | refine blk_drew ?_ | refine blk_alloc ?_ _)); exact BK121.out) hb); have n2_ := Aside0.mk (blk_below (g := gb122) (o := .cells #[.int .i64 a2_0, .int .i64 a2_1, .int .i64 a2_2, .int .i64 a2_3] 31 (0, 0)) (by (with_reducible repeat (first | refine blk_drewN ?_ _ | refine blk_drew ?_ | refine blk_alloc ?_ _)); exact BK122.out) hb); have n3_ := Aside0.mk (blk_below (g := gb123) (o := .cells #[.int .i64 0, .int .i64 0] 23 (0, 0)) (by (with_reducible repeat (first | refine blk_drewN ?_ _ | refine blk_drew ?_ | refine blk_alloc ?_ _)); exact BK123.out) hb); have n4_ := Aside0.mk (blk_below (g := gb132) (o := .cells #[.int .i64 x133000_102, .int .i64 x133001_102] 23 (0, 0)) (by (with_reducible repeat (first | refine blk_drewN ?_ _ | refine blk_drew ?_ | refine blk_alloc ?_ _)); exact BK132.out) hb); have n5_ := Aside0.mk (blk_below (g := gb133) (o := .cells #[.int .i64 t129, .int .i64 t130] 23 (0, 0)) (by (with_reducible repeat (first | refine blk_drewN ?_ _ | refine blk_drew ?_ | refine blk_alloc ?_ _)); exact BK133.out) hb); have n6_ := Aside0.mk (blk_below (g := gb139) (o := .cells #[.int .i64 t134, .int .i64 t135] 23 (0, 0)) (by (with_reducible repeat (first | refine blk_drewN ?_ _ | refine blk_drew ?_ | refine blk_alloc ?_ _)); exact BK139.out) hb); have n7_ := Aside0.mk (blk_below (g := gb140) (o := .cells #[.int .i64 t136, .int .i64 t137] 23 (0, 0)) (by (with_reducible repeat (first | refine blk_drewN ?_ _ | refine blk_drew ?_ | refine blk_alloc ?_ _)); exact BK140.out) hb); have n8_ := Aside0.mk (below_step (by repeat (first | (with_reducible first | exact HB.out | apply below_alloc | apply pw_below_drewN | apply below_drew1 | refine below_set ?_ GE120.out | refine below_set ?_ GE121.out | refine below_set ?_ GE122.out | refine below_set ?_ GE123.out | refine below_set ?_ GE132.out | refine below_set ?_ GE133.out | refine below_set ?_ GE139.out | refine below_set ?_ GE140.out) | exact HB.out)) hb); clear BK120; clear BK121; clear BK122; clear BK123; clear BK132; clear BK133; clear BK139; clear BK140; clear HB; have BK120 := n0_; have BK121 := n1_; have BK122 := n2_; have BK123 := n3_; have BK132 := n4_; have BK133 := n5_; have BK139 := n6_; have BK140 := n7_; have HB := n8_; clear n0_ n1_ n2_ n3_ n4_ n5_ n6_ n7_ n8_; (try clear hb); (try clear hb2); (try clear hk); (try clear hi); have hcz256_0 : w255.cell? ⟨gb132, 0, none⟩ = some (.int .i64 x133000_102) := (blk_cell BK132.out 0).trans rfl; have hcz256_1 : w255.cell? ⟨gb132, 1, none⟩ = some (.int .i64 x133001_102) := (blk_cell BK132.out 1).trans rfl; have hfz256_0 := blk_frozen BK132.out 0; have hfz256_1 := blk_frozen BK132.out 1; have hnb257 := NB123_120.out; have hnc257 := NB120_123.out; have hnb258 := NB123_121.out; have hnc258 := NB121_123.out; have hnb259 := NB123_122.out; have hnc259 := NB122_123.out; have hnb260 := NB123_139.out; have hnc260 := NB139_123.out; have hcz261_0 : w255.cell? ⟨gb123, 0, none⟩ = some (.int .i64 0) := (blk_cell BK123.out 0).trans rfl; have hcz261_1 : w255.cell? ⟨gb123, 1, none⟩ = some (.int .i64 0) := (blk_cell BK123.out 1).trans rfl; have hfz261_0 := blk_frozen BK123.out 0; have hfz261_1 := blk_frozen BK123.out 1))
                      refine bodyPost_ret (results_ct rfl _ _ gb123 23 #[.int .i64 x133000_102, .int .i64 x133001_102] (0, 0) _ rfl (by (with_reducible repeat (first | refine blk_drewN ?_ _ | refine blk_drew ?_ | refine blk_alloc ?_ _)); refine blk_put (cs := #[.int .i64 x133000_102, .int .i64 0]) ?_ 1 _ rfl; (with_reducible repeat (first | refine blk_drewN ?_ _ | refine blk_drew ?_ | refine blk_alloc ?_ _)); refine blk_put (cs := #[.int .i64 0, .int .i64 0]) ?_ 0 _ rfl; (with_reducible repeat (first | refine blk_drewN ?_ _ | refine blk_drew ?_ | refine blk_alloc ?_ _)); exact BK123.out) Try.underlying23 rfl (by kernel_rfl)) rfl ?_
                      exact ⟨by first | rfl | (simp [errW_none, errW_some] <;> rfl) | (simp [*, errW_none, errW_some] <;> rfl), by repeat (first | (with_reducible first | exact HB.out | apply below_alloc | apply pw_below_drewN | apply below_drew1 | refine below_set ?_ GE120.out | refine below_set ?_ GE121.out | refine below_set ?_ GE122.out | refine below_set ?_ GE123.out | refine below_set ?_ GE132.out | refine below_set ?_ GE133.out | refine below_set ?_ GE139.out | refine below_set ?_ GE140.out) | exact HB.out)⟩

end Go.Proofs.Ytjbeiingfcfdbaa.PBoxFirst
