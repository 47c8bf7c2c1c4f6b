/- The walk of the law 'BoxFirst' over the contracts of what it calls, where its Lean function tells true. (A print of the kit's: four ways are closed by hand, one is walked by hand.) -/
import Derived.Test.YtjbeiingfcfdbaaPBoxFirstx0
import Derived.Deep.RegionHeld3
import Derived.Deep.QuietTactic
import Derived.BigQuiet
import Derived.Test.YtjbeiingfcfdbaaPBoxFirstx1
import Derived.Test.YtjbeiingfcfdbaaPBoxFirstx2
import Derived.Test.YtjbeiingfcfdbaaPBoxFirstx4
import Derived.Test.YtjbeiingfcfdbaaPBoxFirstx5
namespace Go.Proofs.Ytjbeiingfcfdbaa.PBoxFirst
open Go.RowKit Go.Proofs.YtjbeiingfcfdbaaW.PrintWords Go.Proofs.YtjbeiingfcfdbaaW.PrintLast Go.Proofs.YtjbeiingfcfdbaaW.PrintMore
attribute [local go_sem] max2_int min2_int max_two min_two max_three min_three max_four min_four   -- for this text's walks alone
set_option linter.unusedVariables false
set_option linter.unusedSimpArgs false

attribute [local go_sem high] eqA23
/-! ### ricochetlaw03_BoxFirst: function 8 -/
mutual
def ricochetlaw03_BoxFirst.j0 : Nat → Bool → Bool → Int → Int → Int → Int → Int → Int → Int → Int → Int → Int → Option (Bool)
  | 0, _, _, _, _, _, _, _, _, _, _, _, _ => none
  | k + 1, x8, x33, x147000, x147001, x148000, x148001, x149000, x149001, x149002, x149003, x153000, x153001 => if x33 = true then (some false) else (if x8 = true then (if x153001 < 1 then (ricochetlaw03_BoxFirst.j1 k true x147000 x147001 x148000 x148001 x149000 x149001 x149002 x149003 x153000 x153001) else (if x153000 < 0 then (ricochetlaw03_BoxFirst.j1 k true x147000 x147001 x148000 x148001 x149000 x149001 x149002 x149003 x153000 x153001) else (ricochetlaw03_BoxFirst.j1 k (decide (x153000 > x153001)) x147000 x147001 x148000 x148001 x149000 x149001 x149002 x149003 x153000 x153001))) else (if (x153000 == 0 && (x153001 == 0)) = true then ((ricochetref02_Formed.f x147000 x147001).bind fun t158 => (if t158 = true then ((ricochetref02_Formed.f x148000 x148001).bind fun t159 => (if t159 = true then ((box_In.f x147000 x147001 x149000 x149001 x149002 x149003).bind fun t160 => (if t160 = true then (some false) else ((box_In.f x148000 x148001 x149000 x149001 x149002 x149003).bind fun t161 => (some (!t161))))) else (some true))) else (some true))) else (some false)))
def ricochetlaw03_BoxFirst.j1 : Nat → Bool → Int → Int → Int → Int → Int → Int → Int → Int → Int → Int → Option (Bool)
  | 0, _, _, _, _, _, _, _, _, _, _, _ => none
  | k + 1, x75, x147000, x147001, x148000, x148001, x149000, x149001, x149002, x149003, x153000, x153001 => if x75 = true then (some false) else ((ricochetlaw03_small.f x147000).bind fun t162 => ((ricochetlaw03_small.f x148000).bind fun t163 => ((ricochetlaw03_small.f x147000).bind fun t164 => ((ricochetlaw03_small.f x147001).bind fun t165 => ((ricochetlaw03_small.f x148001).bind fun t166 => ((ricochetlaw03_small.f x147001).bind fun t167 => ((ricochetlaw03_small.f x149000).bind fun t168 => (if (wrap64 ((wrap64 (t162 * x153001)) + (wrap64 ((wrap64 (t163 - t164)) * x153000)))) ≥ (wrap64 (t168 * x153001)) then ((ricochetlaw03_small.f x149002).bind fun t169 => (if (wrap64 ((wrap64 (t162 * x153001)) + (wrap64 ((wrap64 (t163 - t164)) * x153000)))) ≤ (wrap64 (t169 * x153001)) then ((ricochetlaw03_small.f x149001).bind fun t170 => (if (wrap64 ((wrap64 (t165 * x153001)) + (wrap64 ((wrap64 (t166 - t167)) * x153000)))) ≥ (wrap64 (t170 * x153001)) then ((ricochetlaw03_small.f x149003).bind fun t171 => (if (wrap64 ((wrap64 (t165 * x153001)) + (wrap64 ((wrap64 (t166 - t167)) * x153000)))) ≤ (wrap64 (t171 * x153001)) then ((box_In.f x147000 x147001 x149000 x149001 x149002 x149003).bind fun t172 => (some (t172 == (x153000 == 0)))) else (some false))) else (some false))) else (some false))) else (some false)))))))))
end
def ricochetlaw03_BoxFirst.f (k : Nat) (a0_0 : Int) (a0_1 : Int) (a1_0 : Int) (a1_1 : Int) (a2_0 : Int) (a2_1 : Int) (a2_2 : Int) (a2_3 : Int) : Option (Bool) := (box_Meet.f k a0_0 a0_1 a1_0 a1_1 a2_0 a2_1 a2_2 a2_3).bind fun bt149 => ((box_Meet.f k a1_0 a1_1 a0_0 a0_1 a2_0 a2_1 a2_2 a2_3).bind fun bt153 => ((ricochetlaw03_awake.f).bind fun t157 => (if t157 = true then (ricochetlaw03_BoxFirst.j0 k bt149.2.2 (bt149.2.2 != bt153.2.2) a0_0 a0_1 a1_0 a1_1 a2_0 a2_1 a2_2 a2_3 bt149.1 bt149.2.1) else (ricochetlaw03_BoxFirst.j0 k bt149.2.2 true a0_0 a0_1 a1_0 a1_1 a2_0 a2_1 a2_2 a2_3 bt149.1 bt149.2.1))))
theorem ricochetlaw03_BoxFirst.mono_l : ∀ k, (∀ y0 y1 y2 y3 y4 y5 y6 y7 y8 y9 y10 y11, LeO (ricochetlaw03_BoxFirst.j0 k y0 y1 y2 y3 y4 y5 y6 y7 y8 y9 y10 y11) (ricochetlaw03_BoxFirst.j0 (k + 1) y0 y1 y2 y3 y4 y5 y6 y7 y8 y9 y10 y11)) ∧ (∀ y0 y1 y2 y3 y4 y5 y6 y7 y8 y9 y10, LeO (ricochetlaw03_BoxFirst.j1 k y0 y1 y2 y3 y4 y5 y6 y7 y8 y9 y10) (ricochetlaw03_BoxFirst.j1 (k + 1) y0 y1 y2 y3 y4 y5 y6 y7 y8 y9 y10))
  | 0 => ⟨fun _ _ _ _ _ _ _ _ _ _ _ _ r h => by simp [ricochetlaw03_BoxFirst.j0] at h, fun _ _ _ _ _ _ _ _ _ _ _ r h => by simp [ricochetlaw03_BoxFirst.j1] at h⟩
  | k + 1 => by
    obtain ⟨ih0, ih1⟩ := ricochetlaw03_BoxFirst.mono_l k
    refine ⟨?_, ?_⟩
    · intro y0 y1 y2 y3 y4 y5 y6 y7 y8 y9 y10 y11
      unfold ricochetlaw03_BoxFirst.j0
      repeat' first
      | (with_reducible exact ih0 _ _ _ _ _ _ _ _ _ _ _ _)
      | (with_reducible exact ih1 _ _ _ _ _ _ _ _ _ _ _)
      | (with_reducible exact box_Meet.mono _ _ _ _ _ _ _ _ _)
      | (with_reducible exact LeO.refl _)
      | (with_reducible exact LeO.none _)
      | (with_reducible refine LeO.ite ?_ ?_)
      | (with_reducible refine LeO.bind ?_ (fun _ => ?_))
      | exact ih0 _ _ _ _ _ _ _ _ _ _ _ _
      | exact ih1 _ _ _ _ _ _ _ _ _ _ _
      | exact box_Meet.mono _ _ _ _ _ _ _ _ _
      | exact LeO.none _
      | refine LeO.ite ?_ ?_
      | refine LeO.bind ?_ (fun _ => ?_)
    · intro y0 y1 y2 y3 y4 y5 y6 y7 y8 y9 y10
      unfold ricochetlaw03_BoxFirst.j1
      repeat' first
      | (with_reducible exact ih0 _ _ _ _ _ _ _ _ _ _ _ _)
      | (with_reducible exact ih1 _ _ _ _ _ _ _ _ _ _ _)
      | (with_reducible exact box_Meet.mono _ _ _ _ _ _ _ _ _)
      | (with_reducible exact LeO.refl _)
      | (with_reducible exact LeO.none _)
      | (with_reducible refine LeO.ite ?_ ?_)
      | (with_reducible refine LeO.bind ?_ (fun _ => ?_))
      | exact ih0 _ _ _ _ _ _ _ _ _ _ _ _
      | exact ih1 _ _ _ _ _ _ _ _ _ _ _
      | exact box_Meet.mono _ _ _ _ _ _ _ _ _
      | exact LeO.none _
      | refine LeO.ite ?_ ?_
      | refine LeO.bind ?_ (fun _ => ?_)
theorem ricochetlaw03_BoxFirst.mono : ∀ a0 a1 a2 a3 a4 a5 a6 a7 k, LeO (ricochetlaw03_BoxFirst.f k a0 a1 a2 a3 a4 a5 a6 a7) (ricochetlaw03_BoxFirst.f (k + 1) a0 a1 a2 a3 a4 a5 a6 a7) := by
  intro a0 a1 a2 a3 a4 a5 a6 a7 k
  obtain ⟨ih0, ih1⟩ := ricochetlaw03_BoxFirst.mono_l k
  unfold ricochetlaw03_BoxFirst.f
  repeat' first
      | (with_reducible exact ih0 _ _ _ _ _ _ _ _ _ _ _ _)
      | (with_reducible exact ih1 _ _ _ _ _ _ _ _ _ _ _)
      | (with_reducible exact box_Meet.mono _ _ _ _ _ _ _ _ _)
      | (with_reducible exact LeO.refl _)
      | (with_reducible exact LeO.none _)
      | (with_reducible refine LeO.ite ?_ ?_)
      | (with_reducible refine LeO.bind ?_ (fun _ => ?_))
      | exact ih0 _ _ _ _ _ _ _ _ _ _ _ _
      | exact ih1 _ _ _ _ _ _ _ _ _ _ _
      | exact box_Meet.mono _ _ _ _ _ _ _ _ _
      | exact LeO.none _
      | refine LeO.ite ?_ ?_
      | refine LeO.bind ?_ (fun _ => ?_)
def ricochetlaw03_BoxFirst.T9 : Bool × List (List Nat × List Nat) := (true, [([], []), ([0], [0]), ([1], [1]), ([], []), ([3], [3]), ([2, 4], [2, 4]), ([], []), ([6], [6]), ([7, 2], [7]), ([], []), ([9], [9]), ([10, 8], [10]), ([8, 11], [8, 11]), ([], []), ([13], [13]), ([12, 14], [12, 14]), ([5, 15], [5, 15]), ([16, 11, 0, 1, 2, 3, 4, 5, 6, 7, 8, 9, 10, 11, 12, 13, 14, 15, 16], [16])])
def ricochetlaw03_BoxFirst.B9 : List Nat := [0, 1, 3, 0, 8, 31, 0, 64, 199, 0, 512, 1991, 4039, 0, 8192, 32711, 65535, 131071]
theorem ricochetlaw03_BoxFirst.tab9 : rtab .any (opsOf Try.f8 9) = ricochetlaw03_BoxFirst.T9 := by kernel_rfl
theorem ricochetlaw03_BoxFirst.bits9 : waitsOk ricochetlaw03_BoxFirst.T9.2 ricochetlaw03_BoxFirst.B9 = true := by kernel_rfl
def ricochetlaw03_BoxFirst.T10 : Bool × List (List Nat × List Nat) := (true, [([], []), ([0], [0]), ([1], [1]), ([], []), ([3], [3]), ([2, 4], [2, 4]), ([], []), ([6], [6]), ([7, 2], [7]), ([], []), ([9], [9]), ([10, 8], [10]), ([8, 11], [8, 11]), ([], []), ([13], [13]), ([12, 14], [12, 14]), ([5, 15], [5, 15]), ([16, 11, 0, 1, 2, 3, 4, 5, 6, 7, 8, 9, 10, 11, 12, 13, 14, 15, 16], [16])])
def ricochetlaw03_BoxFirst.B10 : List Nat := [0, 1, 3, 0, 8, 31, 0, 64, 199, 0, 512, 1991, 4039, 0, 8192, 32711, 65535, 131071]
theorem ricochetlaw03_BoxFirst.tab10 : rtab .any (opsOf Try.f8 10) = ricochetlaw03_BoxFirst.T10 := by kernel_rfl
theorem ricochetlaw03_BoxFirst.bits10 : waitsOk ricochetlaw03_BoxFirst.T10.2 ricochetlaw03_BoxFirst.B10 = true := by kernel_rfl
def ricochetlaw03_BoxFirst.T11 : Bool × List (List Nat × List Nat) := (true, [([], []), ([], []), ([1], [1]), ([2], [2]), ([3], [3]), ([], []), ([5], [5]), ([4, 6], [4, 6]), ([0, 7], [0, 7]), ([8, 4], [8]), ([9], [9]), ([9], [9]), ([11, 9], [9, 11]), ([12, 9], [9, 12]), ([13, 9, 9], [9, 13]), ([9], [9]), ([15, 9], [9, 15]), ([14, 16, 9], [9, 14, 16]), ([10, 17, 9], [9, 10, 17]), ([9, 18], [9, 18]), ([19, 14], [19]), ([20], [20]), ([20], [20]), ([22, 20], [20, 22]), ([23, 20], [20, 23]), ([24, 20, 20], [20, 24]), ([20], [20]), ([26, 20], [20, 26]), ([25, 27, 20], [20, 25, 27]), ([21, 28, 20], [20, 21, 28]), ([20, 29], [20, 29]), ([30, 25], [30]), ([31], [31]), ([31], [31]), ([33, 31], [31, 33]), ([34, 31], [31, 34]), ([35, 31, 31], [31, 35]), ([31], [31]), ([37, 31], [31, 37]), ([36, 38, 31], [31, 36, 38]), ([32, 39, 31], [31, 32, 39]), ([31, 40], [31, 40]), ([41, 36], [41]), ([42], [42]), ([42], [42]), ([43, 44, 42, 42], [42, 43, 44]), ([42], [42]), ([46, 42], [42, 46]), ([47, 42], [42, 47]), ([45, 48, 42], [42, 45, 48]), ([42, 49], [42, 49]), ([50, 45, 0, 1, 2, 3, 4, 5, 6, 7, 8, 9, 10, 11, 12, 13, 14, 15, 16, 17, 18, 19, 20, 21, 22, 23, 24, 25, 26, 27, 28, 29, 30, 31, 32, 33, 34, 35, 36, 37, 38, 39, 40, 41, 42, 43, 44, 45, 46, 47, 48, 49, 50], [50])])
def ricochetlaw03_BoxFirst.B11 : List Nat := [0, 0, 2, 6, 14, 0, 32, 126, 255, 511, 1023, 1023, 3071, 7167, 15359, 1023, 33791, 130047, 262143, 524287, 1048575, 2097151, 2097151, 6291455, 14680063, 31457279, 2097151, 69206015, 266338303, 536870911, 1073741823, 2147483647, 4294967295, 4294967295, 12884901887, 30064771071, 64424509439, 4294967295, 141733920767, 545460846591, 1099511627775, 2199023255551, 4398046511103, 8796093022207, 8796093022207, 35184372088831, 8796093022207, 79164837199871, 219902325555199, 562949953421311, 1125899906842623, 2251799813685247]
theorem ricochetlaw03_BoxFirst.tab11 : rtab .any (opsOf Try.f8 11) = ricochetlaw03_BoxFirst.T11 := by kernel_rfl
theorem ricochetlaw03_BoxFirst.bits11 : waitsOk ricochetlaw03_BoxFirst.T11.2 ricochetlaw03_BoxFirst.B11 = true := by kernel_rfl
theorem wi64 (n : Int) : wrap64 n = IntKind.i64.wrap n := by unfold wrap64; rw [IntKind.wrap_i64]
theorem stepC {B : Nat} {W W' : World} {b o : Nat} {v : Value} (hb : Below B W W') (h : W.cell? ⟨b, o, none⟩ = some v) (hB : W.heap.size ≤ B := by exact Nat.le_refl _) : W'.cell? ⟨b, o, none⟩ = some v :=
  (hb.cell (p := ⟨b, o, none⟩) (Nat.lt_of_lt_of_le (World.block_lt_of_cell? W ⟨b, o, none⟩ h) hB)).trans h
theorem small_call (a : Int) (w : World) : Calls Try.prog 26 #[.int .i64 a] w fun e w' => e = .returned (.int .i64 a) ∧ w' = w := by
  go_enter Try.func26, Try.ntmps26
  go_wp2
  go_ret
  exact ⟨rfl, rfl⟩
set_option maxHeartbeats 8000000 in
set_option maxRecDepth 100000 in
theorem first_walk (k : Nat) (a0_0 : Int) (a0_1 : Int) (a1_0 : Int) (a1_1 : Int) (a2_0 : Int) (a2_1 : Int) (a2_2 : Int) (a2_3 : Int) (r : Bool) (w : World) (h : ricochetlaw03_BoxFirst.f k a0_0 a0_1 a1_0 a1_1 a2_0 a2_1 a2_2 a2_3 = some r) (HR : Aside0 (r = true)) :
    Calls Try.prog 8 #[.agg #[.int .i64 a0_0, .int .i64 a0_1], .agg #[.int .i64 a1_0, .int .i64 a1_1], .agg #[.int .i64 a2_0, .int .i64 a2_1, .int .i64 a2_2, .int .i64 a2_3]] w fun e w' => e = .returned (.bool r) ∧ Below w.heap.size w w' := by
  have hu29 := Try.underlying29
  have hu31 := Try.underlying31
  have hu23 := Try.underlying23
  have HB := Aside0.mk (Below.refl w.heap.size w)
  have H : ((box_Meet.f k a0_0 a0_1 a1_0 a1_1 a2_0 a2_1 a2_2 a2_3).bind fun bt149 => ((box_Meet.f k a1_0 a1_1 a0_0 a0_1 a2_0 a2_1 a2_2 a2_3).bind fun bt153 => ((ricochetlaw03_awake.f).bind fun t157 => (if t157 = true then (ricochetlaw03_BoxFirst.j0 k bt149.2.2 (bt149.2.2 != bt153.2.2) a0_0 a0_1 a1_0 a1_1 a2_0 a2_1 a2_2 a2_3 bt149.1 bt149.2.1) else (ricochetlaw03_BoxFirst.j0 k bt149.2.2 true a0_0 a0_1 a1_0 a1_1 a2_0 a2_1 a2_2 a2_3 bt149.1 bt149.2.1))))) = some r := h
  clear h
  replace H := Option.bind_eq_some_iff.mp H
  obtain ⟨⟨t149, t150, t151⟩, A40, H⟩ := H
  replace H : ((box_Meet.f k a1_0 a1_1 a0_0 a0_1 a2_0 a2_1 a2_2 a2_3).bind fun bt153 => ((ricochetlaw03_awake.f).bind fun t157 => (if t157 = true then (ricochetlaw03_BoxFirst.j0 k t151 (t151 != bt153.2.2) a0_0 a0_1 a1_0 a1_1 a2_0 a2_1 a2_2 a2_3 t149 t150) else (ricochetlaw03_BoxFirst.j0 k t151 true a0_0 a0_1 a1_0 a1_1 a2_0 a2_1 a2_2 a2_3 t149 t150)))) = some r := H
  have A4 := Aside0.mk A40
  clear A40
  replace H := Option.bind_eq_some_iff.mp H
  obtain ⟨⟨t153, t154, t155⟩, A50, H⟩ := H
  replace H : ((ricochetlaw03_awake.f).bind fun t157 => (if t157 = true then (ricochetlaw03_BoxFirst.j0 k t151 (t151 != t155) a0_0 a0_1 a1_0 a1_1 a2_0 a2_1 a2_2 a2_3 t149 t150) else (ricochetlaw03_BoxFirst.j0 k t151 true a0_0 a0_1 a1_0 a1_1 a2_0 a2_1 a2_2 a2_3 t149 t150))) = some r := H
  have A5 := Aside0.mk A50
  clear A50
  have HC6 := Aside0.mk H
  clear H
  go_enter Try.func8, Try.ntmps8
  go_upto_region 3 with (first | ((with_reducible refine gate_dst (N := 3) rfl ?_); refine box_event ?hg (N := 3) ?hd (cs := #[.int .i64 a0_0, .int .i64 a0_1]) (t := 29) ?hr ?_; (case hd => rfl); (case hg => rfl); (case hr => first | (go_simp; done) | (go_simp; rfl)); intro gb146 hg w7 hbox hb; have n0_ := Aside0.mk (below_step (by repeat (first | (with_reducible first | exact HB.out | apply below_alloc | apply pw_below_drewN | apply below_drew1) | exact HB.out)) hb); have n1_ := Aside0.mk (hbox); have n2_ := Aside0.mk ((by rw [hg]; exact (below_size (by repeat (first | (with_reducible first | exact HB.out | apply below_alloc | apply pw_below_drewN | apply below_drew1) | exact HB.out))) : w.heap.size ≤ gb146)); have n3_ := Aside0.mk ((by rw [hg]; exact (below_size (by repeat (first | (with_reducible first | exact HB.out | apply below_alloc | apply pw_below_drewN | apply below_drew1) | exact HB.out))) : w.heap.size ≤ gb146)); clear HB; have HB := n0_; have BK146 := n1_; have GW146 := n2_; have GE146 := n3_; clear n0_ n1_ n2_ n3_; clear hb hbox hg) | ((with_reducible refine gate_dst (N := 4) rfl ?_); refine box_event ?hg (N := 4) ?hd (cs := #[.int .i64 a1_0, .int .i64 a1_1]) (t := 29) ?hr ?_; (case hd => rfl); (case hg => rfl); (case hr => first | (go_simp; done) | (go_simp; rfl)); intro gb147 hg w8 hbox hb; have n0_ := Aside0.mk (blk_below (g := gb146) (o := .cells #[.int .i64 a0_0, .int .i64 a0_1] 29 (0, 0)) (by (with_reducible repeat (first | refine blk_drewN ?_ _ | refine blk_drew ?_ | refine blk_alloc ?_ _)); exact BK146.out) hb); have n1_ := Aside0.mk (below_step (by repeat (first | (with_reducible first | exact HB.out | apply below_alloc | apply pw_below_drewN | apply below_drew1 | refine below_set ?_ GE146.out) | exact HB.out)) hb); have n2_ := Aside0.mk (hbox); have n3_ := Aside0.mk ((by rw [hg]; exact (below_size (by repeat (first | (with_reducible first | exact HB.out | apply below_alloc | apply pw_below_drewN | apply below_drew1 | refine below_set ?_ GE146.out) | exact HB.out))) : w.heap.size ≤ gb147)); have n4_ := Aside0.mk ((by rw [hg]; exact (below_size (by repeat (first | (with_reducible first | exact HB.out | apply below_alloc | apply pw_below_drewN | apply below_drew1 | refine below_set ?_ GE146.out) | exact HB.out))) : w.heap.size ≤ gb147)); have n5_ := Aside0.mk ((by rw [hg]; exact Nat.ne_of_lt (blk_lt (g := gb146) (o := .cells #[.int .i64 a0_0, .int .i64 a0_1] 29 (0, 0)) (by (with_reducible repeat (first | refine blk_drewN ?_ _ | refine blk_drew ?_ | refine blk_alloc ?_ _)); exact BK146.out)) : gb146 ≠ gb147)); have n6_ := Aside0.mk ((by rw [hg]; exact Nat.ne_of_gt (blk_lt (g := gb146) (o := .cells #[.int .i64 a0_0, .int .i64 a0_1] 29 (0, 0)) (by (with_reducible repeat (first | refine blk_drewN ?_ _ | refine blk_drew ?_ | refine blk_alloc ?_ _)); exact BK146.out)) : gb147 ≠ gb146)); clear BK146; clear HB; have BK146 := n0_; have HB := n1_; have BK147 := n2_; have GW147 := n3_; have GE147 := n4_; have NB146_147 := n5_; have NB147_146 := n6_; clear n0_ n1_ n2_ n3_ n4_ n5_ n6_; clear hb hbox hg) | ((with_reducible refine gate_dst (N := 5) rfl ?_); refine box_event ?hg (N := 5) ?hd (cs := #[.int .i64 a2_0, .int .i64 a2_1, .int .i64 a2_2, .int .i64 a2_3]) (t := 31) ?hr ?_; (case hd => rfl); (case hg => rfl); (case hr => first | (go_simp; done) | (go_simp; rfl)); intro gb148 hg w9 hbox hb; have n0_ := Aside0.mk (blk_below (g := gb146) (o := .cells #[.int .i64 a0_0, .int .i64 a0_1] 29 (0, 0)) (by (with_reducible repeat (first | refine blk_drewN ?_ _ | refine blk_drew ?_ | refine blk_alloc ?_ _)); exact BK146.out) hb); have n1_ := Aside0.mk (blk_below (g := gb147) (o := .cells #[.int .i64 a1_0, .int .i64 a1_1] 29 (0, 0)) (by (with_reducible repeat (first | refine blk_drewN ?_ _ | refine blk_drew ?_ | refine blk_alloc ?_ _)); exact BK147.out) hb); have n2_ := Aside0.mk (below_step (by repeat (first | (with_reducible first | exact HB.out | apply below_alloc | apply pw_below_drewN | apply below_drew1 | refine below_set ?_ GE146.out | refine below_set ?_ GE147.out) | exact HB.out)) hb); have n3_ := Aside0.mk (hbox); have n4_ := Aside0.mk ((by rw [hg]; exact (below_size (by repeat (first | (with_reducible first | exact HB.out | apply below_alloc | apply pw_below_drewN | apply below_drew1 | refine below_set ?_ GE146.out | refine below_set ?_ GE147.out) | exact HB.out))) : w.heap.size ≤ gb148)); have n5_ := Aside0.mk ((by rw [hg]; exact (below_size (by repeat (first | (with_reducible first | exact HB.out | apply below_alloc | apply pw_below_drewN | apply below_drew1 | refine below_set ?_ GE146.out | refine below_set ?_ GE147.out) | exact HB.out))) : w.heap.size ≤ gb148)); have n6_ := Aside0.mk ((by rw [hg]; exact Nat.ne_of_lt (blk_lt (g := gb146) (o := .cells #[.int .i64 a0_0, .int .i64 a0_1] 29 (0, 0)) (by (with_reducible repeat (first | refine blk_drewN ?_ _ | refine blk_drew ?_ | refine blk_alloc ?_ _)); exact BK146.out)) : gb146 ≠ gb148)); have n7_ := Aside0.mk ((by rw [hg]; exact Nat.ne_of_gt (blk_lt (g := gb146) (o := .cells #[.int .i64 a0_0, .int .i64 a0_1] 29 (0, 0)) (by (with_reducible repeat (first | refine blk_drewN ?_ _ | refine blk_drew ?_ | refine blk_alloc ?_ _)); exact BK146.out)) : gb148 ≠ gb146)); have n8_ := Aside0.mk ((by rw [hg]; exact Nat.ne_of_lt (blk_lt (g := gb147) (o := .cells #[.int .i64 a1_0, .int .i64 a1_1] 29 (0, 0)) (by (with_reducible repeat (first | refine blk_drewN ?_ _ | refine blk_drew ?_ | refine blk_alloc ?_ _)); exact BK147.out)) : gb147 ≠ gb148)); have n9_ := Aside0.mk ((by rw [hg]; exact Nat.ne_of_gt (blk_lt (g := gb147) (o := .cells #[.int .i64 a1_0, .int .i64 a1_1] 29 (0, 0)) (by (with_reducible repeat (first | refine blk_drewN ?_ _ | refine blk_drew ?_ | refine blk_alloc ?_ _)); exact BK147.out)) : gb148 ≠ gb147)); clear BK146; clear BK147; clear HB; have BK146 := n0_; have BK147 := n1_; have HB := n2_; have BK148 := n3_; have GW148 := n4_; have GE148 := n5_; have NB146_148 := n6_; have NB148_146 := n7_; have NB147_148 := n8_; have NB148_147 := n9_; clear n0_ n1_ n2_ n3_ n4_ n5_ n6_ n7_ n8_ n9_; clear hb hbox hg; have hnb10 := NB146_147.out; have hnc10 := NB147_146.out; have hnb11 := NB146_148.out; have hnc11 := NB148_146.out; have hcz12_0 : w9.cell? ⟨gb146, 0, none⟩ = some (.int .i64 a0_0) := (blk_cell BK146.out 0).trans rfl; have hcz12_1 : w9.cell? ⟨gb146, 1, none⟩ = some (.int .i64 a0_1) := (blk_cell BK146.out 1).trans rfl; have hfz12_0 := blk_frozen BK146.out 0; have hfz12_1 := blk_frozen BK146.out 1; have hnb13 := NB147_148.out; have hnc13 := NB148_147.out; have hcz14_0 : w9.cell? ⟨gb147, 0, none⟩ = some (.int .i64 a1_0) := (blk_cell BK147.out 0).trans rfl; have hcz14_1 : w9.cell? ⟨gb147, 1, none⟩ = some (.int .i64 a1_1) := (blk_cell BK147.out 1).trans rfl; have hfz14_0 := blk_frozen BK147.out 0; have hfz14_1 := blk_frozen BK147.out 1; have hcz15_0 : w9.cell? ⟨gb148, 0, none⟩ = some (.int .i64 a2_0) := (blk_cell BK148.out 0).trans rfl; have hcz15_1 : w9.cell? ⟨gb148, 1, none⟩ = some (.int .i64 a2_1) := (blk_cell BK148.out 1).trans rfl; have hcz15_2 : w9.cell? ⟨gb148, 2, none⟩ = some (.int .i64 a2_2) := (blk_cell BK148.out 2).trans rfl; have hcz15_3 : w9.cell? ⟨gb148, 3, none⟩ = some (.int .i64 a2_3) := (blk_cell BK148.out 3).trans rfl; have hfz15_0 := blk_frozen BK148.out 0; have hfz15_1 := blk_frozen BK148.out 1; have hfz15_2 := blk_frozen BK148.out 2; have hfz15_3 := blk_frozen BK148.out 3) | ((with_reducible refine gate_callee (f := 23) rfl ?_); refine goesL_ (some 17) rfl rfl Try.func23 (by kernel_rfl) rfl #[.agg #[.int .i64 a0_0, .int .i64 a0_1], .agg #[.int .i64 a1_0, .int .i64 a1_1], .agg #[.int .i64 a2_0, .int .i64 a2_1, .int .i64 a2_2, .int .i64 a2_3]] rfl (by (try simp only [List.map_toArray, List.map_cons, List.map_nil]); first | done | rfl | (simp only [List.length_drop, List.length_take]; rfl)) ?_; (with_reducible refine (box_Meet.calls k a0_0 a0_1 a1_0 a1_1 a2_0 a2_1 a2_2 a2_3 t149 t150 t151 _ A4.out).mono ?_); rintro e w16 ⟨rfl, hb⟩; refine ⟨_, rfl, ?_⟩; have n0_ := Aside0.mk (blk_below (g := gb146) (o := .cells #[.int .i64 a0_0, .int .i64 a0_1] 29 (0, 0)) (by (with_reducible repeat (first | refine blk_drewN ?_ _ | refine blk_drew ?_ | refine blk_alloc ?_ _)); exact BK146.out) hb); have n1_ := Aside0.mk (blk_below (g := gb147) (o := .cells #[.int .i64 a1_0, .int .i64 a1_1] 29 (0, 0)) (by (with_reducible repeat (first | refine blk_drewN ?_ _ | refine blk_drew ?_ | refine blk_alloc ?_ _)); exact BK147.out) hb); have n2_ := Aside0.mk (blk_below (g := gb148) (o := .cells #[.int .i64 a2_0, .int .i64 a2_1, .int .i64 a2_2, .int .i64 a2_3] 31 (0, 0)) (by (with_reducible repeat (first | refine blk_drewN ?_ _ | refine blk_drew ?_ | refine blk_alloc ?_ _)); exact BK148.out) hb); have n3_ := Aside0.mk (below_step (by repeat (first | (with_reducible first | exact HB.out | apply below_alloc | apply pw_below_drewN | apply below_drew1 | refine below_set ?_ GE146.out | refine below_set ?_ GE147.out | refine below_set ?_ GE148.out) | exact HB.out)) hb); clear BK146; clear BK147; clear BK148; clear HB; have BK146 := n0_; have BK147 := n1_; have BK148 := n2_; have HB := n3_; clear n0_ n1_ n2_ n3_; (try clear hb); (try clear hb2); (try clear hk); (try clear hi)) | ((with_reducible refine gate_dst (N := 7) rfl ?_); refine box_event ?hg (N := 7) ?hd (cs := #[.int .i64 0, .int .i64 0]) (t := 23) ?hr ?_; (case hd => rfl); (case hg => rfl); (case hr => first | (go_simp; done) | (go_simp; rfl)); intro gb152 hg w17 hbox hb; have n0_ := Aside0.mk (blk_below (g := gb146) (o := .cells #[.int .i64 a0_0, .int .i64 a0_1] 29 (0, 0)) (by (with_reducible repeat (first | refine blk_drewN ?_ _ | refine blk_drew ?_ | refine blk_alloc ?_ _)); exact BK146.out) hb); have n1_ := Aside0.mk (blk_below (g := gb147) (o := .cells #[.int .i64 a1_0, .int .i64 a1_1] 29 (0, 0)) (by (with_reducible repeat (first | refine blk_drewN ?_ _ | refine blk_drew ?_ | refine blk_alloc ?_ _)); exact BK147.out) hb); have n2_ := Aside0.mk (blk_below (g := gb148) (o := .cells #[.int .i64 a2_0, .int .i64 a2_1, .int .i64 a2_2, .int .i64 a2_3] 31 (0, 0)) (by (with_reducible repeat (first | refine blk_drewN ?_ _ | refine blk_drew ?_ | refine blk_alloc ?_ _)); exact BK148.out) hb); have n3_ := Aside0.mk (below_step (by repeat (first | (with_reducible first | exact HB.out | apply below_alloc | apply pw_below_drewN | apply below_drew1 | refine below_set ?_ GE146.out | refine below_set ?_ GE147.out | refine below_set ?_ GE148.out) | exact HB.out)) hb); have n4_ := Aside0.mk (hbox); have n5_ := Aside0.mk ((by rw [hg]; exact (below_size (by repeat (first | (with_reducible first | exact HB.out | apply below_alloc | apply pw_below_drewN | apply below_drew1 | refine below_set ?_ GE146.out | refine below_set ?_ GE147.out | refine below_set ?_ GE148.out) | exact HB.out))) : w.heap.size ≤ gb152)); have n6_ := Aside0.mk ((by rw [hg]; exact (below_size (by repeat (first | (with_reducible first | exact HB.out | apply below_alloc | apply pw_below_drewN | apply below_drew1 | refine below_set ?_ GE146.out | refine below_set ?_ GE147.out | refine below_set ?_ GE148.out) | exact HB.out))) : w.heap.size ≤ gb152)); have n7_ := Aside0.mk ((by rw [hg]; exact Nat.ne_of_lt (blk_lt (g := gb146) (o := .cells #[.int .i64 a0_0, .int .i64 a0_1] 29 (0, 0)) (by (with_reducible repeat (first | refine blk_drewN ?_ _ | refine blk_drew ?_ | refine blk_alloc ?_ _)); exact BK146.out)) : gb146 ≠ gb152)); have n8_ := Aside0.mk ((by rw [hg]; exact Nat.ne_of_gt (blk_lt (g := gb146) (o := .cells #[.int .i64 a0_0, .int .i64 a0_1] 29 (0, 0)) (by (with_reducible repeat (first | refine blk_drewN ?_ _ | refine blk_drew ?_ | refine blk_alloc ?_ _)); exact BK146.out)) : gb152 ≠ gb146)); have n9_ := Aside0.mk ((by rw [hg]; exact Nat.ne_of_lt (blk_lt (g := gb147) (o := .cells #[.int .i64 a1_0, .int .i64 a1_1] 29 (0, 0)) (by (with_reducible repeat (first | refine blk_drewN ?_ _ | refine blk_drew ?_ | refine blk_alloc ?_ _)); exact BK147.out)) : gb147 ≠ gb152)); have n10_ := Aside0.mk ((by rw [hg]; exact Nat.ne_of_gt (blk_lt (g := gb147) (o := .cells #[.int .i64 a1_0, .int .i64 a1_1] 29 (0, 0)) (by (with_reducible repeat (first | refine blk_drewN ?_ _ | refine blk_drew ?_ | refine blk_alloc ?_ _)); exact BK147.out)) : gb152 ≠ gb147)); have n11_ := Aside0.mk ((by rw [hg]; exact Nat.ne_of_lt (blk_lt (g := gb148) (o := .cells #[.int .i64 a2_0, .int .i64 a2_1, .int .i64 a2_2, .int .i64 a2_3] 31 (0, 0)) (by (with_reducible repeat (first | refine blk_drewN ?_ _ | refine blk_drew ?_ | refine blk_alloc ?_ _)); exact BK148.out)) : gb148 ≠ gb152)); have n12_ := Aside0.mk ((by rw [hg]; exact Nat.ne_of_gt (blk_lt (g := gb148) (o := .cells #[.int .i64 a2_0, .int .i64 a2_1, .int .i64 a2_2, .int .i64 a2_3] 31 (0, 0)) (by (with_reducible repeat (first | refine blk_drewN ?_ _ | refine blk_drew ?_ | refine blk_alloc ?_ _)); exact BK148.out)) : gb152 ≠ gb148)); clear BK146; clear BK147; clear BK148; clear HB; have BK146 := n0_; have BK147 := n1_; have BK148 := n2_; have HB := n3_; have BK152 := n4_; have GW152 := n5_; have GE152 := n6_; have NB146_152 := n7_; have NB152_146 := n8_; have NB147_152 := n9_; have NB152_147 := n10_; have NB148_152 := n11_; have NB152_148 := n12_; clear n0_ n1_ n2_ n3_ n4_ n5_ n6_ n7_ n8_ n9_ n10_ n11_ n12_; clear hb hbox hg; have hnb18 := NB152_146.out; have hnc18 := NB146_152.out; have hnb19 := NB152_147.out; have hnc19 := NB147_152.out; have hnb20 := NB152_148.out; have hnc20 := NB148_152.out; have hcz21_0 : w17.cell? ⟨gb152, 0, none⟩ = some (.int .i64 0) := (blk_cell BK152.out 0).trans rfl; have hcz21_1 : w17.cell? ⟨gb152, 1, none⟩ = some (.int .i64 0) := (blk_cell BK152.out 1).trans rfl; have hfz21_0 := blk_frozen BK152.out 0; have hfz21_1 := blk_frozen BK152.out 1; have hcz22_0 : w17.cell? ⟨gb147, 0, none⟩ = some (.int .i64 a1_0) := (blk_cell BK147.out 0).trans rfl; have hcz22_1 : w17.cell? ⟨gb147, 1, none⟩ = some (.int .i64 a1_1) := (blk_cell BK147.out 1).trans rfl; have hfz22_0 := blk_frozen BK147.out 0; have hfz22_1 := blk_frozen BK147.out 1; have hcz23_0 : w17.cell? ⟨gb146, 0, none⟩ = some (.int .i64 a0_0) := (blk_cell BK146.out 0).trans rfl; have hcz23_1 : w17.cell? ⟨gb146, 1, none⟩ = some (.int .i64 a0_1) := (blk_cell BK146.out 1).trans rfl; have hfz23_0 := blk_frozen BK146.out 0; have hfz23_1 := blk_frozen BK146.out 1; have hcz24_0 : w17.cell? ⟨gb148, 0, none⟩ = some (.int .i64 a2_0) := (blk_cell BK148.out 0).trans rfl; have hcz24_1 : w17.cell? ⟨gb148, 1, none⟩ = some (.int .i64 a2_1) := (blk_cell BK148.out 1).trans rfl; have hcz24_2 : w17.cell? ⟨gb148, 2, none⟩ = some (.int .i64 a2_2) := (blk_cell BK148.out 2).trans rfl; have hcz24_3 : w17.cell? ⟨gb148, 3, none⟩ = some (.int .i64 a2_3) := (blk_cell BK148.out 3).trans rfl; have hfz24_0 := blk_frozen BK148.out 0; have hfz24_1 := blk_frozen BK148.out 1; have hfz24_2 := blk_frozen BK148.out 2; have hfz24_3 := blk_frozen BK148.out 3) | ((with_reducible refine gate_callee (f := 23) rfl ?_); refine goesL_ (some 24) rfl rfl Try.func23 (by kernel_rfl) rfl #[.agg #[.int .i64 a1_0, .int .i64 a1_1], .agg #[.int .i64 a0_0, .int .i64 a0_1], .agg #[.int .i64 a2_0, .int .i64 a2_1, .int .i64 a2_2, .int .i64 a2_3]] rfl (by (try simp only [List.map_toArray, List.map_cons, List.map_nil]); first | done | rfl | (simp only [List.length_drop, List.length_take]; rfl)) ?_; (with_reducible refine (box_Meet.calls k a1_0 a1_1 a0_0 a0_1 a2_0 a2_1 a2_2 a2_3 t153 t154 t155 _ A5.out).mono ?_); rintro e w25 ⟨rfl, hb⟩; refine ⟨_, rfl, ?_⟩; have n0_ := Aside0.mk (blk_below (g := gb146) (o := .cells #[.int .i64 a0_0, .int .i64 a0_1] 29 (0, 0)) (by (with_reducible repeat (first | refine blk_drewN ?_ _ | refine blk_drew ?_ | refine blk_alloc ?_ _)); refine blk_far ?_ NB146_152.out _; (with_reducible repeat (first | refine blk_drewN ?_ _ | refine blk_drew ?_ | refine blk_alloc ?_ _)); refine blk_far ?_ NB146_152.out _; (with_reducible repeat (first | refine blk_drewN ?_ _ | refine blk_drew ?_ | refine blk_alloc ?_ _)); exact BK146.out) hb); have n1_ := Aside0.mk (blk_below (g := gb147) (o := .cells #[.int .i64 a1_0, .int .i64 a1_1] 29 (0, 0)) (by (with_reducible repeat (first | refine blk_drewN ?_ _ | refine blk_drew ?_ | refine blk_alloc ?_ _)); refine blk_far ?_ NB147_152.out _; (with_reducible repeat (first | refine blk_drewN ?_ _ | refine blk_drew ?_ | refine blk_alloc ?_ _)); refine blk_far ?_ NB147_152.out _; (with_reducible repeat (first | refine blk_drewN ?_ _ | refine blk_drew ?_ | refine blk_alloc ?_ _)); exact BK147.out) hb); have n2_ := Aside0.mk (blk_below (g := gb148) (o := .cells #[.int .i64 a2_0, .int .i64 a2_1, .int .i64 a2_2, .int .i64 a2_3] 31 (0, 0)) (by (with_reducible repeat (first | refine blk_drewN ?_ _ | refine blk_drew ?_ | refine blk_alloc ?_ _)); refine blk_far ?_ NB148_152.out _; (with_reducible repeat (first | refine blk_drewN ?_ _ | refine blk_drew ?_ | refine blk_alloc ?_ _)); refine blk_far ?_ NB148_152.out _; (with_reducible repeat (first | refine blk_drewN ?_ _ | refine blk_drew ?_ | refine blk_alloc ?_ _)); exact BK148.out) hb); have n3_ := Aside0.mk (blk_below (g := gb152) (o := .cells #[.int .i64 t149, .int .i64 t150] 23 (0, 0)) (by (with_reducible repeat (first | refine blk_drewN ?_ _ | refine blk_drew ?_ | refine blk_alloc ?_ _)); refine blk_put (cs := #[.int .i64 t149, .int .i64 0]) ?_ 1 _ rfl; (with_reducible repeat (first | refine blk_drewN ?_ _ | refine blk_drew ?_ | refine blk_alloc ?_ _)); refine blk_put (cs := #[.int .i64 0, .int .i64 0]) ?_ 0 _ rfl; (with_reducible repeat (first | refine blk_drewN ?_ _ | refine blk_drew ?_ | refine blk_alloc ?_ _)); exact BK152.out) hb); have n4_ := Aside0.mk (below_step (by repeat (first | (with_reducible first | exact HB.out | apply below_alloc | apply pw_below_drewN | apply below_drew1 | refine below_set ?_ GE146.out | refine below_set ?_ GE147.out | refine below_set ?_ GE148.out | refine below_set ?_ GE152.out) | exact HB.out)) hb); clear BK146; clear BK147; clear BK148; clear BK152; clear HB; have BK146 := n0_; have BK147 := n1_; have BK148 := n2_; have BK152 := n3_; have HB := n4_; clear n0_ n1_ n2_ n3_ n4_; (try clear hb); (try clear hb2); (try clear hk); (try clear hi)) | ((with_reducible refine gate_dst (N := 9) rfl ?_); refine box_event ?hg (N := 9) ?hd (cs := #[.int .i64 0, .int .i64 0]) (t := 23) ?hr ?_; (case hd => rfl); (case hg => rfl); (case hr => first | (go_simp; done) | (go_simp; rfl)); intro gb156 hg w26 hbox hb; have n0_ := Aside0.mk (blk_below (g := gb146) (o := .cells #[.int .i64 a0_0, .int .i64 a0_1] 29 (0, 0)) (by (with_reducible repeat (first | refine blk_drewN ?_ _ | refine blk_drew ?_ | refine blk_alloc ?_ _)); exact BK146.out) hb); have n1_ := Aside0.mk (blk_below (g := gb147) (o := .cells #[.int .i64 a1_0, .int .i64 a1_1] 29 (0, 0)) (by (with_reducible repeat (first | refine blk_drewN ?_ _ | refine blk_drew ?_ | refine blk_alloc ?_ _)); exact BK147.out) hb); have n2_ := Aside0.mk (blk_below (g := gb148) (o := .cells #[.int .i64 a2_0, .int .i64 a2_1, .int .i64 a2_2, .int .i64 a2_3] 31 (0, 0)) (by (with_reducible repeat (first | refine blk_drewN ?_ _ | refine blk_drew ?_ | refine blk_alloc ?_ _)); exact BK148.out) hb); have n3_ := Aside0.mk (blk_below (g := gb152) (o := .cells #[.int .i64 t149, .int .i64 t150] 23 (0, 0)) (by (with_reducible repeat (first | refine blk_drewN ?_ _ | refine blk_drew ?_ | refine blk_alloc ?_ _)); exact BK152.out) hb); have n4_ := Aside0.mk (below_step (by repeat (first | (with_reducible first | exact HB.out | apply below_alloc | apply pw_below_drewN | apply below_drew1 | refine below_set ?_ GE146.out | refine below_set ?_ GE147.out | refine below_set ?_ GE148.out | refine below_set ?_ GE152.out) | exact HB.out)) hb); have n5_ := Aside0.mk (hbox); have n6_ := Aside0.mk ((by rw [hg]; exact (below_size (by repeat (first | (with_reducible first | exact HB.out | apply below_alloc | apply pw_below_drewN | apply below_drew1 | refine below_set ?_ GE146.out | refine below_set ?_ GE147.out | refine below_set ?_ GE148.out | refine below_set ?_ GE152.out) | exact HB.out))) : w.heap.size ≤ gb156)); have n7_ := Aside0.mk ((by rw [hg]; exact (below_size (by repeat (first | (with_reducible first | exact HB.out | apply below_alloc | apply pw_below_drewN | apply below_drew1 | refine below_set ?_ GE146.out | refine below_set ?_ GE147.out | refine below_set ?_ GE148.out | refine below_set ?_ GE152.out) | exact HB.out))) : w.heap.size ≤ gb156)); have n8_ := Aside0.mk ((by rw [hg]; exact Nat.ne_of_lt (blk_lt (g := gb146) (o := .cells #[.int .i64 a0_0, .int .i64 a0_1] 29 (0, 0)) (by (with_reducible repeat (first | refine blk_drewN ?_ _ | refine blk_drew ?_ | refine blk_alloc ?_ _)); exact BK146.out)) : gb146 ≠ gb156)); have n9_ := Aside0.mk ((by rw [hg]; exact Nat.ne_of_gt (blk_lt (g := gb146) (o := .cells #[.int .i64 a0_0, .int .i64 a0_1] 29 (0, 0)) (by (with_reducible repeat (first | refine blk_drewN ?_ _ | refine blk_drew ?_ | refine blk_alloc ?_ _)); exact BK146.out)) : gb156 ≠ gb146)); have n10_ := Aside0.mk ((by rw [hg]; exact Nat.ne_of_lt (blk_lt (g := gb147) (o := .cells #[.int .i64 a1_0, .int .i64 a1_1] 29 (0, 0)) (by (with_reducible repeat (first | refine blk_drewN ?_ _ | refine blk_drew ?_ | refine blk_alloc ?_ _)); exact BK147.out)) : gb147 ≠ gb156)); have n11_ := Aside0.mk ((by rw [hg]; exact Nat.ne_of_gt (blk_lt (g := gb147) (o := .cells #[.int .i64 a1_0, .int .i64 a1_1] 29 (0, 0)) (by (with_reducible repeat (first | refine blk_drewN ?_ _ | refine blk_drew ?_ | refine blk_alloc ?_ _)); exact BK147.out)) : gb156 ≠ gb147)); have n12_ := Aside0.mk ((by rw [hg]; exact Nat.ne_of_lt (blk_lt (g := gb148) (o := .cells #[.int .i64 a2_0, .int .i64 a2_1, .int .i64 a2_2, .int .i64 a2_3] 31 (0, 0)) (by (with_reducible repeat (first | refine blk_drewN ?_ _ | refine blk_drew ?_ | refine blk_alloc ?_ _)); exact BK148.out)) : gb148 ≠ gb156)); have n13_ := Aside0.mk ((by rw [hg]; exact Nat.ne_of_gt (blk_lt (g := gb148) (o := .cells #[.int .i64 a2_0, .int .i64 a2_1, .int .i64 a2_2, .int .i64 a2_3] 31 (0, 0)) (by (with_reducible repeat (first | refine blk_drewN ?_ _ | refine blk_drew ?_ | refine blk_alloc ?_ _)); exact BK148.out)) : gb156 ≠ gb148)); have n14_ := Aside0.mk ((by rw [hg]; exact Nat.ne_of_lt (blk_lt (g := gb152) (o := .cells #[.int .i64 t149, .int .i64 t150] 23 (0, 0)) (by (with_reducible repeat (first | refine blk_drewN ?_ _ | refine blk_drew ?_ | refine blk_alloc ?_ _)); exact BK152.out)) : gb152 ≠ gb156)); have n15_ := Aside0.mk ((by rw [hg]; exact Nat.ne_of_gt (blk_lt (g := gb152) (o := .cells #[.int .i64 t149, .int .i64 t150] 23 (0, 0)) (by (with_reducible repeat (first | refine blk_drewN ?_ _ | refine blk_drew ?_ | refine blk_alloc ?_ _)); exact BK152.out)) : gb156 ≠ gb152)); clear BK146; clear BK147; clear BK148; clear BK152; clear HB; have BK146 := n0_; have BK147 := n1_; have BK148 := n2_; have BK152 := n3_; have HB := n4_; have BK156 := n5_; have GW156 := n6_; have GE156 := n7_; have NB146_156 := n8_; have NB156_146 := n9_; have NB147_156 := n10_; have NB156_147 := n11_; have NB148_156 := n12_; have NB156_148 := n13_; have NB152_156 := n14_; have NB156_152 := n15_; clear n0_ n1_ n2_ n3_ n4_ n5_ n6_ n7_ n8_ n9_ n10_ n11_ n12_ n13_ n14_ n15_; clear hb hbox hg; have hnb27 := NB156_146.out; have hnc27 := NB146_156.out; have hnb28 := NB156_147.out; have hnc28 := NB147_156.out; have hnb29 := NB156_148.out; have hnc29 := NB148_156.out; have hnb30 := NB156_152.out; have hnc30 := NB152_156.out; have hcz31_0 : w26.cell? ⟨gb156, 0, none⟩ = some (.int .i64 0) := (blk_cell BK156.out 0).trans rfl; have hcz31_1 : w26.cell? ⟨gb156, 1, none⟩ = some (.int .i64 0) := (blk_cell BK156.out 1).trans rfl; have hfz31_0 := blk_frozen BK156.out 0; have hfz31_1 := blk_frozen BK156.out 1))
  (try simp only [Act.put, List.setIfInBounds_toArray, List.set_cons_zero, List.set_cons_succ])
  go_cut [33] (fun v33 wc => ∃ (kq : Nat) (x33_5 : Bool), v33 = .bool x33_5 ∧ Aside0 (ricochetlaw03_BoxFirst.j0 kq t151 x33_5 a0_0 a0_1 a1_0 a1_1 a2_0 a2_1 a2_2 a2_3 t149 t150 = some r) ∧ Aside0 (kq ≤ k) ∧ Aside0 (wc.heap[gb146]? = some (.cells #[.int .i64 a0_0, .int .i64 a0_1] 29 (0, 0))) ∧ Aside0 (wc.heap[gb147]? = some (.cells #[.int .i64 a1_0, .int .i64 a1_1] 29 (0, 0))) ∧ Aside0 (wc.heap[gb148]? = some (.cells #[.int .i64 a2_0, .int .i64 a2_1, .int .i64 a2_2, .int .i64 a2_3] 31 (0, 0))) ∧ Aside0 (wc.heap[gb152]? = some (.cells #[.int .i64 t149, .int .i64 t150] 23 (0, 0))) ∧ Aside0 (wc.heap[gb156]? = some (.cells #[.int .i64 t153, .int .i64 t154] 23 (0, 0))) ∧ Aside0 (Below w.heap.size w wc))
  case first =>
    have H := HC6.out
    clear HC6
    replace H := Option.bind_eq_some_iff.mp H
    obtain ⟨t157, A320, H⟩ := H
    replace H : (if t157 = true then (ricochetlaw03_BoxFirst.j0 k t151 (t151 != t155) a0_0 a0_1 a1_0 a1_1 a2_0 a2_1 a2_2 a2_3 t149 t150) else (ricochetlaw03_BoxFirst.j0 k t151 true a0_0 a0_1 a1_0 a1_1 a2_0 a2_1 a2_2 a2_3 t149 t150)) = some r := H
    have A32 := Aside0.mk A320
    clear A320
    by_cases c33 : t157 = true
    · subst c33
      have H1 : (ricochetlaw03_BoxFirst.j0 k t151 (t151 != t155) a0_0 a0_1 a1_0 a1_1 a2_0 a2_1 a2_2 a2_3 t149 t150) = some r := by rw [if_pos rfl] at H; exact H
      clear H
      have H := H1
      clear H1
      have H' := Aside0.mk H
      clear H
      go_wp2_with (first | ((with_reducible refine gate_callee (f := 10) rfl ?_); refine goesL_ (some 27) rfl rfl Try.func10 (by kernel_rfl) rfl #[] rfl (by (try simp only [List.map_toArray, List.map_cons, List.map_nil]); first | done | rfl | (simp only [List.length_drop, List.length_take]; rfl)) ?_; (with_reducible refine (ricochetlaw03_awake.calls  true _ A32.out).mono ?_); rintro e w34 ⟨rfl, hb⟩; refine ⟨_, rfl, ?_⟩; have n0_ := Aside0.mk (blk_below (g := gb146) (o := .cells #[.int .i64 a0_0, .int .i64 a0_1] 29 (0, 0)) (by (with_reducible repeat (first | refine blk_drewN ?_ _ | refine blk_drew ?_ | refine blk_alloc ?_ _)); refine blk_far ?_ NB146_156.out _; (with_reducible repeat (first | refine blk_drewN ?_ _ | refine blk_drew ?_ | refine blk_alloc ?_ _)); refine blk_far ?_ NB146_156.out _; (with_reducible repeat (first | refine blk_drewN ?_ _ | refine blk_drew ?_ | refine blk_alloc ?_ _)); exact BK146.out) hb); have n1_ := Aside0.mk (blk_below (g := gb147) (o := .cells #[.int .i64 a1_0, .int .i64 a1_1] 29 (0, 0)) (by (with_reducible repeat (first | refine blk_drewN ?_ _ | refine blk_drew ?_ | refine blk_alloc ?_ _)); refine blk_far ?_ NB147_156.out _; (with_reducible repeat (first | refine blk_drewN ?_ _ | refine blk_drew ?_ | refine blk_alloc ?_ _)); refine blk_far ?_ NB147_156.out _; (with_reducible repeat (first | refine blk_drewN ?_ _ | refine blk_drew ?_ | refine blk_alloc ?_ _)); exact BK147.out) hb); have n2_ := Aside0.mk (blk_below (g := gb148) (o := .cells #[.int .i64 a2_0, .int .i64 a2_1, .int .i64 a2_2, .int .i64 a2_3] 31 (0, 0)) (by (with_reducible repeat (first | refine blk_drewN ?_ _ | refine blk_drew ?_ | refine blk_alloc ?_ _)); refine blk_far ?_ NB148_156.out _; (with_reducible repeat (first | refine blk_drewN ?_ _ | refine blk_drew ?_ | refine blk_alloc ?_ _)); refine blk_far ?_ NB148_156.out _; (with_reducible repeat (first | refine blk_drewN ?_ _ | refine blk_drew ?_ | refine blk_alloc ?_ _)); exact BK148.out) hb); have n3_ := Aside0.mk (blk_below (g := gb152) (o := .cells #[.int .i64 t149, .int .i64 t150] 23 (0, 0)) (by (with_reducible repeat (first | refine blk_drewN ?_ _ | refine blk_drew ?_ | refine blk_alloc ?_ _)); refine blk_far ?_ NB152_156.out _; (with_reducible repeat (first | refine blk_drewN ?_ _ | refine blk_drew ?_ | refine blk_alloc ?_ _)); refine blk_far ?_ NB152_156.out _; (with_reducible repeat (first | refine blk_drewN ?_ _ | refine blk_drew ?_ | refine blk_alloc ?_ _)); exact BK152.out) hb); have n4_ := Aside0.mk (blk_below (g := gb156) (o := .cells #[.int .i64 t153, .int .i64 t154] 23 (0, 0)) (by (with_reducible repeat (first | refine blk_drewN ?_ _ | refine blk_drew ?_ | refine blk_alloc ?_ _)); refine blk_put (cs := #[.int .i64 t153, .int .i64 0]) ?_ 1 _ rfl; (with_reducible repeat (first | refine blk_drewN ?_ _ | refine blk_drew ?_ | refine blk_alloc ?_ _)); refine blk_put (cs := #[.int .i64 0, .int .i64 0]) ?_ 0 _ rfl; (with_reducible repeat (first | refine blk_drewN ?_ _ | refine blk_drew ?_ | refine blk_alloc ?_ _)); exact BK156.out) hb); have n5_ := Aside0.mk (below_step (by repeat (first | (with_reducible first | exact HB.out | apply below_alloc | apply pw_below_drewN | apply below_drew1 | refine below_set ?_ GE146.out | refine below_set ?_ GE147.out | refine below_set ?_ GE148.out | refine below_set ?_ GE152.out | refine below_set ?_ GE156.out) | exact HB.out)) hb); clear BK146; clear BK147; clear BK148; clear BK152; clear BK156; clear HB; have BK146 := n0_; have BK147 := n1_; have BK148 := n2_; have BK152 := n3_; have BK156 := n4_; have HB := n5_; clear n0_ n1_ n2_ n3_ n4_ n5_; (try clear hb); (try clear hb2); (try clear hk); (try clear hi)))
      go_meet
      case rel => exact ⟨_, ((t151 != t155)), (by first | rfl | (simp; done) | (simp [*]; done)), H', ⟨by first | omega | exact Nat.le_refl _⟩, ⟨by (with_reducible repeat (first | refine blk_drewN ?_ _ | refine blk_drew ?_ | refine blk_alloc ?_ _)); exact BK146.out⟩, ⟨by (with_reducible repeat (first | refine blk_drewN ?_ _ | refine blk_drew ?_ | refine blk_alloc ?_ _)); exact BK147.out⟩, ⟨by (with_reducible repeat (first | refine blk_drewN ?_ _ | refine blk_drew ?_ | refine blk_alloc ?_ _)); exact BK148.out⟩, ⟨by (with_reducible repeat (first | refine blk_drewN ?_ _ | refine blk_drew ?_ | refine blk_alloc ?_ _)); exact BK152.out⟩, ⟨by (with_reducible repeat (first | refine blk_drewN ?_ _ | refine blk_drew ?_ | refine blk_alloc ?_ _)); exact BK156.out⟩, ⟨by repeat (first | (with_reducible first | exact HB.out | apply below_alloc | apply pw_below_drewN | apply below_drew1 | refine below_set ?_ GE146.out | refine below_set ?_ GE147.out | refine below_set ?_ GE148.out | refine below_set ?_ GE152.out | refine below_set ?_ GE156.out) | exact HB.out)⟩⟩
    · replace c33 := Bool.eq_false_iff.mpr c33
      subst c33
      have H1 : (ricochetlaw03_BoxFirst.j0 k t151 true a0_0 a0_1 a1_0 a1_1 a2_0 a2_1 a2_2 a2_3 t149 t150) = some r := by rw [if_neg (show ¬ (false = true) by decide)] at H; exact H
      clear H
      have H := H1
      clear H1
      have H' := Aside0.mk H
      clear H
      go_wp2_with (first | ((with_reducible refine gate_callee (f := 10) rfl ?_); refine goesL_ (some 27) rfl rfl Try.func10 (by kernel_rfl) rfl #[] rfl (by (try simp only [List.map_toArray, List.map_cons, List.map_nil]); first | done | rfl | (simp only [List.length_drop, List.length_take]; rfl)) ?_; (with_reducible refine (ricochetlaw03_awake.calls  false _ A32.out).mono ?_); rintro e w35 ⟨rfl, hb⟩; refine ⟨_, rfl, ?_⟩; have n0_ := Aside0.mk (blk_below (g := gb146) (o := .cells #[.int .i64 a0_0, .int .i64 a0_1] 29 (0, 0)) (by (with_reducible repeat (first | refine blk_drewN ?_ _ | refine blk_drew ?_ | refine blk_alloc ?_ _)); refine blk_far ?_ NB146_156.out _; (with_reducible repeat (first | refine blk_drewN ?_ _ | refine blk_drew ?_ | refine blk_alloc ?_ _)); refine blk_far ?_ NB146_156.out _; (with_reducible repeat (first | refine blk_drewN ?_ _ | refine blk_drew ?_ | refine blk_alloc ?_ _)); exact BK146.out) hb); have n1_ := Aside0.mk (blk_below (g := gb147) (o := .cells #[.int .i64 a1_0, .int .i64 a1_1] 29 (0, 0)) (by (with_reducible repeat (first | refine blk_drewN ?_ _ | refine blk_drew ?_ | refine blk_alloc ?_ _)); refine blk_far ?_ NB147_156.out _; (with_reducible repeat (first | refine blk_drewN ?_ _ | refine blk_drew ?_ | refine blk_alloc ?_ _)); refine blk_far ?_ NB147_156.out _; (with_reducible repeat (first | refine blk_drewN ?_ _ | refine blk_drew ?_ | refine blk_alloc ?_ _)); exact BK147.out) hb); have n2_ := Aside0.mk (blk_below (g := gb148) (o := .cells #[.int .i64 a2_0, .int .i64 a2_1, .int .i64 a2_2, .int .i64 a2_3] 31 (0, 0)) (by (with_reducible repeat (first | refine blk_drewN ?_ _ | refine blk_drew ?_ | refine blk_alloc ?_ _)); refine blk_far ?_ NB148_156.out _; (with_reducible repeat (first | refine blk_drewN ?_ _ | refine blk_drew ?_ | refine blk_alloc ?_ _)); refine blk_far ?_ NB148_156.out _; (with_reducible repeat (first | refine blk_drewN ?_ _ | refine blk_drew ?_ | refine blk_alloc ?_ _)); exact BK148.out) hb); have n3_ := Aside0.mk (blk_below (g := gb152) (o := .cells #[.int .i64 t149, .int .i64 t150] 23 (0, 0)) (by (with_reducible repeat (first | refine blk_drewN ?_ _ | refine blk_drew ?_ | refine blk_alloc ?_ _)); refine blk_far ?_ NB152_156.out _; (with_reducible repeat (first | refine blk_drewN ?_ _ | refine blk_drew ?_ | refine blk_alloc ?_ _)); refine blk_far ?_ NB152_156.out _; (with_reducible repeat (first | refine blk_drewN ?_ _ | refine blk_drew ?_ | refine blk_alloc ?_ _)); exact BK152.out) hb); have n4_ := Aside0.mk (blk_below (g := gb156) (o := .cells #[.int .i64 t153, .int .i64 t154] 23 (0, 0)) (by (with_reducible repeat (first | refine blk_drewN ?_ _ | refine blk_drew ?_ | refine blk_alloc ?_ _)); refine blk_put (cs := #[.int .i64 t153, .int .i64 0]) ?_ 1 _ rfl; (with_reducible repeat (first | refine blk_drewN ?_ _ | refine blk_drew ?_ | refine blk_alloc ?_ _)); refine blk_put (cs := #[.int .i64 0, .int .i64 0]) ?_ 0 _ rfl; (with_reducible repeat (first | refine blk_drewN ?_ _ | refine blk_drew ?_ | refine blk_alloc ?_ _)); exact BK156.out) hb); have n5_ := Aside0.mk (below_step (by repeat (first | (with_reducible first | exact HB.out | apply below_alloc | apply pw_below_drewN | apply below_drew1 | refine below_set ?_ GE146.out | refine below_set ?_ GE147.out | refine below_set ?_ GE148.out | refine below_set ?_ GE152.out | refine below_set ?_ GE156.out) | exact HB.out)) hb); clear BK146; clear BK147; clear BK148; clear BK152; clear BK156; clear HB; have BK146 := n0_; have BK147 := n1_; have BK148 := n2_; have BK152 := n3_; have BK156 := n4_; have HB := n5_; clear n0_ n1_ n2_ n3_ n4_ n5_; (try clear hb); (try clear hb2); (try clear hk); (try clear hi)))
      go_meet
      case rel => exact ⟨_, (true), (by first | rfl | (simp; done) | (simp [*]; done)), H', ⟨by first | omega | exact Nat.le_refl _⟩, ⟨by (with_reducible repeat (first | refine blk_drewN ?_ _ | refine blk_drew ?_ | refine blk_alloc ?_ _)); exact BK146.out⟩, ⟨by (with_reducible repeat (first | refine blk_drewN ?_ _ | refine blk_drew ?_ | refine blk_alloc ?_ _)); exact BK147.out⟩, ⟨by (with_reducible repeat (first | refine blk_drewN ?_ _ | refine blk_drew ?_ | refine blk_alloc ?_ _)); exact BK148.out⟩, ⟨by (with_reducible repeat (first | refine blk_drewN ?_ _ | refine blk_drew ?_ | refine blk_alloc ?_ _)); exact BK152.out⟩, ⟨by (with_reducible repeat (first | refine blk_drewN ?_ _ | refine blk_drew ?_ | refine blk_alloc ?_ _)); exact BK156.out⟩, ⟨by repeat (first | (with_reducible first | exact HB.out | apply below_alloc | apply pw_below_drewN | apply below_drew1 | refine below_set ?_ GE146.out | refine below_set ?_ GE147.out | refine below_set ?_ GE148.out | refine below_set ?_ GE152.out | refine below_set ?_ GE156.out) | exact HB.out)⟩⟩
  case rest =>
    clear HC6
    try clear c1
    try clear c2
    try clear p2
    try clear c3
    try clear c8
    try clear c10
    try clear c11
    try clear c13
    try clear c18
    try clear c19
    try clear c20
    try clear c23
    try clear c27
    try clear c28
    try clear c29
    try clear c30
    try clear c33
    try clear hcz12_0
    try clear hcz12_1
    try clear hcz14_0
    try clear hcz14_1
    try clear hcz15_0
    try clear hcz15_1
    try clear hcz15_2
    try clear hcz15_3
    try clear hcz21_0
    try clear hcz21_1
    try clear hcz22_0
    try clear hcz22_1
    try clear hcz23_0
    try clear hcz23_1
    try clear hcz24_0
    try clear hcz24_1
    try clear hcz24_2
    try clear hcz24_3
    try clear hcz31_0
    try clear hcz31_1
    try clear hfz12_0
    try clear hfz12_1
    try clear hfz14_0
    try clear hfz14_1
    try clear hfz15_0
    try clear hfz15_1
    try clear hfz15_2
    try clear hfz15_3
    try clear hfz21_0
    try clear hfz21_1
    try clear hfz22_0
    try clear hfz22_1
    try clear hfz23_0
    try clear hfz23_1
    try clear hfz24_0
    try clear hfz24_1
    try clear hfz24_2
    try clear hfz24_3
    try clear hfz31_0
    try clear hfz31_1
    obtain ⟨kq, x33_5, rfl, HA, HJ5, BK146, BK147, BK148, BK152, BK156, HB⟩ := hcut
    cases kq with
    | zero => exact absurd HA.out (by simp [ricochetlaw03_BoxFirst.j0])
    | succ kj5 =>
      have H := HA.out
      clear HA
      simp only [ricochetlaw03_BoxFirst.j0] at H
      by_cases c36 : x33_5 = true
      · subst c36
        have H1 : (some false) = some r := by rw [if_pos rfl] at H; exact H
        clear H
        have H := H1
        clear H1
        obtain rfl := Option.some.inj H
        go_wp2
        go_ret
        exact ⟨by first | rfl | (simp [errW_none, errW_some] <;> rfl) | (simp [*, errW_none, errW_some] <;> rfl), by repeat (first | (with_reducible first | exact HB.out | apply below_alloc | apply pw_below_drewN | apply below_drew1 | refine below_set ?_ GE146.out | refine below_set ?_ GE147.out | refine below_set ?_ GE148.out | refine below_set ?_ GE152.out | refine below_set ?_ GE156.out) | exact HB.out)⟩
      · replace c36 := Bool.eq_false_iff.mpr c36
        subst c36
        have H1 : (if t151 = true then (if t150 < 1 then (ricochetlaw03_BoxFirst.j1 kj5 true a0_0 a0_1 a1_0 a1_1 a2_0 a2_1 a2_2 a2_3 t149 t150) else (if t149 < 0 then (ricochetlaw03_BoxFirst.j1 kj5 true a0_0 a0_1 a1_0 a1_1 a2_0 a2_1 a2_2 a2_3 t149 t150) else (ricochetlaw03_BoxFirst.j1 kj5 (decide (t149 > t150)) a0_0 a0_1 a1_0 a1_1 a2_0 a2_1 a2_2 a2_3 t149 t150))) else (if (t149 == 0 && (t150 == 0)) = true then ((ricochetref02_Formed.f a0_0 a0_1).bind fun t158 => (if t158 = true then ((ricochetref02_Formed.f a1_0 a1_1).bind fun t159 => (if t159 = true then ((box_In.f a0_0 a0_1 a2_0 a2_1 a2_2 a2_3).bind fun t160 => (if t160 = true then (some false) else ((box_In.f a1_0 a1_1 a2_0 a2_1 a2_2 a2_3).bind fun t161 => (some (!t161))))) else (some true))) else (some true))) else (some false))) = some r := by rw [if_neg (show ¬ (false = true) by decide)] at H; exact H
        clear H
        have H := H1
        clear H1
        by_cases c37 : t151 = true
        · subst c37
          have H1 : (if t150 < 1 then (ricochetlaw03_BoxFirst.j1 kj5 true a0_0 a0_1 a1_0 a1_1 a2_0 a2_1 a2_2 a2_3 t149 t150) else (if t149 < 0 then (ricochetlaw03_BoxFirst.j1 kj5 true a0_0 a0_1 a1_0 a1_1 a2_0 a2_1 a2_2 a2_3 t149 t150) else (ricochetlaw03_BoxFirst.j1 kj5 (decide (t149 > t150)) a0_0 a0_1 a1_0 a1_1 a2_0 a2_1 a2_2 a2_3 t149 t150))) = some r := by rw [if_pos rfl] at H; exact H
          clear H
          have H := H1
          clear H1
          have HC38 := Aside0.mk H
          clear H
          go_upto_region 7 with (fail)
          go_cut [75] (fun v75 wc => ∃ (kq : Nat) (x75_37 : Bool), v75 = .bool x75_37 ∧ Aside0 (ricochetlaw03_BoxFirst.j1 kq x75_37 a0_0 a0_1 a1_0 a1_1 a2_0 a2_1 a2_2 a2_3 t149 t150 = some r) ∧ Aside0 (kq ≤ kj5) ∧ Aside0 (wc.heap[gb146]? = some (.cells #[.int .i64 a0_0, .int .i64 a0_1] 29 (0, 0))) ∧ Aside0 (wc.heap[gb147]? = some (.cells #[.int .i64 a1_0, .int .i64 a1_1] 29 (0, 0))) ∧ Aside0 (wc.heap[gb148]? = some (.cells #[.int .i64 a2_0, .int .i64 a2_1, .int .i64 a2_2, .int .i64 a2_3] 31 (0, 0))) ∧ Aside0 (wc.heap[gb152]? = some (.cells #[.int .i64 t149, .int .i64 t150] 23 (0, 0))) ∧ Aside0 (wc.heap[gb156]? = some (.cells #[.int .i64 t153, .int .i64 t154] 23 (0, 0))) ∧ Aside0 (Below w.heap.size w wc))
          case first =>
            have H := HC38.out
            clear HC38
            by_cases c39 : t150 < 1
            · rw [if_pos c39] at H
              have c39b0 : decide (t150 < 1) = true := decide_eq_true c39
              clear c39
              (first | rw [c39b0] | (simp only [i64_w, i32_w]; rw [c39b0]) | skip)
              have H' := Aside0.mk H
              clear H
              have hnb40 := NB152_146.out
              have hnc40 := NB146_152.out
              have hnb41 := NB152_147.out
              have hnc41 := NB147_152.out
              have hnb42 := NB152_148.out
              have hnc42 := NB148_152.out
              have hnb43 := NB152_156.out
              have hnc43 := NB156_152.out
              have hcz44_0 : wc.cell? ⟨gb152, 0, none⟩ = some (.int .i64 t149) := (blk_cell BK152.out 0).trans rfl
              have hcz44_1 : wc.cell? ⟨gb152, 1, none⟩ = some (.int .i64 t150) := (blk_cell BK152.out 1).trans rfl
              have hfz44_0 := blk_frozen BK152.out 0
              have hfz44_1 := blk_frozen BK152.out 1
              go_wp2
              go_meet
              case rel => exact ⟨_, (true), (by first | rfl | (simp; done) | (simp [*]; done)), H', ⟨by have := HJ5.out; first | omega | exact Nat.le_refl _⟩, ⟨by (with_reducible repeat (first | refine blk_drewN ?_ _ | refine blk_drew ?_ | refine blk_alloc ?_ _)); exact BK146.out⟩, ⟨by (with_reducible repeat (first | refine blk_drewN ?_ _ | refine blk_drew ?_ | refine blk_alloc ?_ _)); exact BK147.out⟩, ⟨by (with_reducible repeat (first | refine blk_drewN ?_ _ | refine blk_drew ?_ | refine blk_alloc ?_ _)); exact BK148.out⟩, ⟨by (with_reducible repeat (first | refine blk_drewN ?_ _ | refine blk_drew ?_ | refine blk_alloc ?_ _)); exact BK152.out⟩, ⟨by (with_reducible repeat (first | refine blk_drewN ?_ _ | refine blk_drew ?_ | refine blk_alloc ?_ _)); exact BK156.out⟩, ⟨by repeat (first | (with_reducible first | exact HB.out | apply below_alloc | apply pw_below_drewN | apply below_drew1 | refine below_set ?_ GE146.out | refine below_set ?_ GE147.out | refine below_set ?_ GE148.out | refine below_set ?_ GE152.out | refine below_set ?_ GE156.out) | exact HB.out)⟩⟩
            · rw [if_neg c39] at H
              have c39b0 : decide (t150 < 1) = false := decide_eq_false c39
              clear c39
              (first | rw [c39b0] | (simp only [i64_w, i32_w]; rw [c39b0]) | skip)
              by_cases c45 : t149 < 0
              · rw [if_pos c45] at H
                have c45b0 : decide (t149 < 0) = true := decide_eq_true c45
                clear c45
                have H' := Aside0.mk H
                clear H
                have hnb46 := NB152_146.out
                have hnc46 := NB146_152.out
                have hnb47 := NB152_147.out
                have hnc47 := NB147_152.out
                have hnb48 := NB152_148.out
                have hnc48 := NB148_152.out
                have hnb49 := NB152_156.out
                have hnc49 := NB156_152.out
                have hcz50_0 : wc.cell? ⟨gb152, 0, none⟩ = some (.int .i64 t149) := (blk_cell BK152.out 0).trans rfl
                have hcz50_1 : wc.cell? ⟨gb152, 1, none⟩ = some (.int .i64 t150) := (blk_cell BK152.out 1).trans rfl
                have hfz50_0 := blk_frozen BK152.out 0
                have hfz50_1 := blk_frozen BK152.out 1
                go_wp2
                go_meet
                case rel => exact ⟨_, (true), (by first | rfl | (simp; done) | (simp [*]; done)), H', ⟨by have := HJ5.out; first | omega | exact Nat.le_refl _⟩, ⟨by (with_reducible repeat (first | refine blk_drewN ?_ _ | refine blk_drew ?_ | refine blk_alloc ?_ _)); exact BK146.out⟩, ⟨by (with_reducible repeat (first | refine blk_drewN ?_ _ | refine blk_drew ?_ | refine blk_alloc ?_ _)); exact BK147.out⟩, ⟨by (with_reducible repeat (first | refine blk_drewN ?_ _ | refine blk_drew ?_ | refine blk_alloc ?_ _)); exact BK148.out⟩, ⟨by (with_reducible repeat (first | refine blk_drewN ?_ _ | refine blk_drew ?_ | refine blk_alloc ?_ _)); exact BK152.out⟩, ⟨by (with_reducible repeat (first | refine blk_drewN ?_ _ | refine blk_drew ?_ | refine blk_alloc ?_ _)); exact BK156.out⟩, ⟨by repeat (first | (with_reducible first | exact HB.out | apply below_alloc | apply pw_below_drewN | apply below_drew1 | refine below_set ?_ GE146.out | refine below_set ?_ GE147.out | refine below_set ?_ GE148.out | refine below_set ?_ GE152.out | refine below_set ?_ GE156.out) | exact HB.out)⟩⟩
              · rw [if_neg c45] at H
                have c45b0 : decide (t149 < 0) = false := decide_eq_false c45
                clear c45
                have H' := Aside0.mk H
                clear H
                have hnb51 := NB152_146.out
                have hnc51 := NB146_152.out
                have hnb52 := NB152_147.out
                have hnc52 := NB147_152.out
                have hnb53 := NB152_148.out
                have hnc53 := NB148_152.out
                have hnb54 := NB152_156.out
                have hnc54 := NB156_152.out
                have hcz55_0 : wc.cell? ⟨gb152, 0, none⟩ = some (.int .i64 t149) := (blk_cell BK152.out 0).trans rfl
                have hcz55_1 : wc.cell? ⟨gb152, 1, none⟩ = some (.int .i64 t150) := (blk_cell BK152.out 1).trans rfl
                have hfz55_0 := blk_frozen BK152.out 0
                have hfz55_1 := blk_frozen BK152.out 1
                go_wp2
                go_meet
                case rel => exact ⟨_, (decide (t149 > t150)), (by first | rfl | (simp; done) | (simp [*]; done)), H', ⟨by have := HJ5.out; first | omega | exact Nat.le_refl _⟩, ⟨by (with_reducible repeat (first | refine blk_drewN ?_ _ | refine blk_drew ?_ | refine blk_alloc ?_ _)); exact BK146.out⟩, ⟨by (with_reducible repeat (first | refine blk_drewN ?_ _ | refine blk_drew ?_ | refine blk_alloc ?_ _)); exact BK147.out⟩, ⟨by (with_reducible repeat (first | refine blk_drewN ?_ _ | refine blk_drew ?_ | refine blk_alloc ?_ _)); exact BK148.out⟩, ⟨by (with_reducible repeat (first | refine blk_drewN ?_ _ | refine blk_drew ?_ | refine blk_alloc ?_ _)); exact BK152.out⟩, ⟨by (with_reducible repeat (first | refine blk_drewN ?_ _ | refine blk_drew ?_ | refine blk_alloc ?_ _)); exact BK156.out⟩, ⟨by repeat (first | (with_reducible first | exact HB.out | apply below_alloc | apply pw_below_drewN | apply below_drew1 | refine below_set ?_ GE146.out | refine below_set ?_ GE147.out | refine below_set ?_ GE148.out | refine below_set ?_ GE152.out | refine below_set ?_ GE156.out) | exact HB.out)⟩⟩
          case rest =>
            clear HC38
            try clear c1
            try clear c2
            try clear p2
            try clear c3
            try clear c4
            try clear c5
            try clear c8
            try clear c10
            try clear c11
            try clear c13
            try clear c18
            try clear c19
            try clear c20
            try clear c23
            try clear c27
            try clear c28
            try clear c29
            try clear c30
            try clear c33
            try clear c36
            try clear c37
            try clear c39
            try clear c39b0
            try clear c40
            try clear c41
            try clear c42
            try clear c43
            try clear c45
            try clear c45b0
            try clear c46
            try clear c47
            try clear c48
            try clear c49
            try clear c51
            try clear c52
            try clear c53
            try clear c54
            try clear hcz12_0
            try clear hcz12_1
            try clear hcz14_0
            try clear hcz14_1
            try clear hcz15_0
            try clear hcz15_1
            try clear hcz15_2
            try clear hcz15_3
            try clear hcz21_0
            try clear hcz21_1
            try clear hcz22_0
            try clear hcz22_1
            try clear hcz23_0
            try clear hcz23_1
            try clear hcz24_0
            try clear hcz24_1
            try clear hcz24_2
            try clear hcz24_3
            try clear hcz31_0
            try clear hcz31_1
            try clear hcz44_0
            try clear hcz44_1
            try clear hcz50_0
            try clear hcz50_1
            try clear hcz55_0
            try clear hcz55_1
            try clear hfz12_0
            try clear hfz12_1
            try clear hfz14_0
            try clear hfz14_1
            try clear hfz15_0
            try clear hfz15_1
            try clear hfz15_2
            try clear hfz15_3
            try clear hfz21_0
            try clear hfz21_1
            try clear hfz22_0
            try clear hfz22_1
            try clear hfz23_0
            try clear hfz23_1
            try clear hfz24_0
            try clear hfz24_1
            try clear hfz24_2
            try clear hfz24_3
            try clear hfz31_0
            try clear hfz31_1
            try clear hfz44_0
            try clear hfz44_1
            try clear hfz50_0
            try clear hfz50_1
            try clear hfz55_0
            try clear hfz55_1
            try clear p2
            obtain ⟨kq, x75_37, rfl, HA, HJ37, BK146, BK147, BK148, BK152, BK156, HB⟩ := hcut
            cases kq with
            | zero => exact absurd HA.out (by simp [ricochetlaw03_BoxFirst.j1])
            | succ kj37 =>
              have H := HA.out
              clear HA
              simp only [ricochetlaw03_BoxFirst.j1] at H
              by_cases c56 : x75_37 = true
              · subst c56
                have H1 : (some false) = some r := by rw [if_pos rfl] at H; exact H
                clear H
                have H := H1
                clear H1
                obtain rfl := Option.some.inj H
                go_wp2
                go_ret
                exact ⟨by first | rfl | (simp [errW_none, errW_some] <;> rfl) | (simp [*, errW_none, errW_some] <;> rfl), by repeat (first | (with_reducible first | exact HB.out | apply below_alloc | apply pw_below_drewN | apply below_drew1 | refine below_set ?_ GE146.out | refine below_set ?_ GE147.out | refine below_set ?_ GE148.out | refine below_set ?_ GE152.out | refine below_set ?_ GE156.out) | exact HB.out)⟩
              · replace c56 := Bool.eq_false_iff.mpr c56
                subst c56
                have H1 : ((ricochetlaw03_small.f a0_0).bind fun t162 => ((ricochetlaw03_small.f a1_0).bind fun t163 => ((ricochetlaw03_small.f a0_0).bind fun t164 => ((ricochetlaw03_small.f a0_1).bind fun t165 => ((ricochetlaw03_small.f a1_1).bind fun t166 => ((ricochetlaw03_small.f a0_1).bind fun t167 => ((ricochetlaw03_small.f a2_0).bind fun t168 => (if (wrap64 ((wrap64 (t162 * t150)) + (wrap64 ((wrap64 (t163 - t164)) * t149)))) ≥ (wrap64 (t168 * t150)) then ((ricochetlaw03_small.f a2_2).bind fun t169 => (if (wrap64 ((wrap64 (t162 * t150)) + (wrap64 ((wrap64 (t163 - t164)) * t149)))) ≤ (wrap64 (t169 * t150)) then ((ricochetlaw03_small.f a2_1).bind fun t170 => (if (wrap64 ((wrap64 (t165 * t150)) + (wrap64 ((wrap64 (t166 - t167)) * t149)))) ≥ (wrap64 (t170 * t150)) then ((ricochetlaw03_small.f a2_3).bind fun t171 => (if (wrap64 ((wrap64 (t165 * t150)) + (wrap64 ((wrap64 (t166 - t167)) * t149)))) ≤ (wrap64 (t171 * t150)) then ((box_In.f a0_0 a0_1 a2_0 a2_1 a2_2 a2_3).bind fun t172 => (some (t172 == (t149 == 0)))) else (some false))) else (some false))) else (some false))) else (some false))))))))) = some r := by rw [if_neg (show ¬ (false = true) by decide)] at H; exact H
                clear H
                have H := H1
                clear H1
                replace H := Option.bind_eq_some_iff.mp H
                obtain ⟨t162, A570, H⟩ := H
                replace H : ((ricochetlaw03_small.f a1_0).bind fun t163 => ((ricochetlaw03_small.f a0_0).bind fun t164 => ((ricochetlaw03_small.f a0_1).bind fun t165 => ((ricochetlaw03_small.f a1_1).bind fun t166 => ((ricochetlaw03_small.f a0_1).bind fun t167 => ((ricochetlaw03_small.f a2_0).bind fun t168 => (if (wrap64 ((wrap64 (t162 * t150)) + (wrap64 ((wrap64 (t163 - t164)) * t149)))) ≥ (wrap64 (t168 * t150)) then ((ricochetlaw03_small.f a2_2).bind fun t169 => (if (wrap64 ((wrap64 (t162 * t150)) + (wrap64 ((wrap64 (t163 - t164)) * t149)))) ≤ (wrap64 (t169 * t150)) then ((ricochetlaw03_small.f a2_1).bind fun t170 => (if (wrap64 ((wrap64 (t165 * t150)) + (wrap64 ((wrap64 (t166 - t167)) * t149)))) ≥ (wrap64 (t170 * t150)) then ((ricochetlaw03_small.f a2_3).bind fun t171 => (if (wrap64 ((wrap64 (t165 * t150)) + (wrap64 ((wrap64 (t166 - t167)) * t149)))) ≤ (wrap64 (t171 * t150)) then ((box_In.f a0_0 a0_1 a2_0 a2_1 a2_2 a2_3).bind fun t172 => (some (t172 == (t149 == 0)))) else (some false))) else (some false))) else (some false))) else (some false)))))))) = some r := H
                have A57 := Aside0.mk A570
                clear A570
                replace H := Option.bind_eq_some_iff.mp H
                obtain ⟨t163, A580, H⟩ := H
                replace H : ((ricochetlaw03_small.f a0_0).bind fun t164 => ((ricochetlaw03_small.f a0_1).bind fun t165 => ((ricochetlaw03_small.f a1_1).bind fun t166 => ((ricochetlaw03_small.f a0_1).bind fun t167 => ((ricochetlaw03_small.f a2_0).bind fun t168 => (if (wrap64 ((wrap64 (t162 * t150)) + (wrap64 ((wrap64 (t163 - t164)) * t149)))) ≥ (wrap64 (t168 * t150)) then ((ricochetlaw03_small.f a2_2).bind fun t169 => (if (wrap64 ((wrap64 (t162 * t150)) + (wrap64 ((wrap64 (t163 - t164)) * t149)))) ≤ (wrap64 (t169 * t150)) then ((ricochetlaw03_small.f a2_1).bind fun t170 => (if (wrap64 ((wrap64 (t165 * t150)) + (wrap64 ((wrap64 (t166 - t167)) * t149)))) ≥ (wrap64 (t170 * t150)) then ((ricochetlaw03_small.f a2_3).bind fun t171 => (if (wrap64 ((wrap64 (t165 * t150)) + (wrap64 ((wrap64 (t166 - t167)) * t149)))) ≤ (wrap64 (t171 * t150)) then ((box_In.f a0_0 a0_1 a2_0 a2_1 a2_2 a2_3).bind fun t172 => (some (t172 == (t149 == 0)))) else (some false))) else (some false))) else (some false))) else (some false))))))) = some r := H
                have A58 := Aside0.mk A580
                clear A580
                replace H := Option.bind_eq_some_iff.mp H
                obtain ⟨t164, A590, H⟩ := H
                replace H : ((ricochetlaw03_small.f a0_1).bind fun t165 => ((ricochetlaw03_small.f a1_1).bind fun t166 => ((ricochetlaw03_small.f a0_1).bind fun t167 => ((ricochetlaw03_small.f a2_0).bind fun t168 => (if (wrap64 ((wrap64 (t162 * t150)) + (wrap64 ((wrap64 (t163 - t164)) * t149)))) ≥ (wrap64 (t168 * t150)) then ((ricochetlaw03_small.f a2_2).bind fun t169 => (if (wrap64 ((wrap64 (t162 * t150)) + (wrap64 ((wrap64 (t163 - t164)) * t149)))) ≤ (wrap64 (t169 * t150)) then ((ricochetlaw03_small.f a2_1).bind fun t170 => (if (wrap64 ((wrap64 (t165 * t150)) + (wrap64 ((wrap64 (t166 - t167)) * t149)))) ≥ (wrap64 (t170 * t150)) then ((ricochetlaw03_small.f a2_3).bind fun t171 => (if (wrap64 ((wrap64 (t165 * t150)) + (wrap64 ((wrap64 (t166 - t167)) * t149)))) ≤ (wrap64 (t171 * t150)) then ((box_In.f a0_0 a0_1 a2_0 a2_1 a2_2 a2_3).bind fun t172 => (some (t172 == (t149 == 0)))) else (some false))) else (some false))) else (some false))) else (some false)))))) = some r := H
                have A59 := Aside0.mk A590
                clear A590
                replace H := Option.bind_eq_some_iff.mp H
                obtain ⟨t165, A600, H⟩ := H
                replace H : ((ricochetlaw03_small.f a1_1).bind fun t166 => ((ricochetlaw03_small.f a0_1).bind fun t167 => ((ricochetlaw03_small.f a2_0).bind fun t168 => (if (wrap64 ((wrap64 (t162 * t150)) + (wrap64 ((wrap64 (t163 - t164)) * t149)))) ≥ (wrap64 (t168 * t150)) then ((ricochetlaw03_small.f a2_2).bind fun t169 => (if (wrap64 ((wrap64 (t162 * t150)) + (wrap64 ((wrap64 (t163 - t164)) * t149)))) ≤ (wrap64 (t169 * t150)) then ((ricochetlaw03_small.f a2_1).bind fun t170 => (if (wrap64 ((wrap64 (t165 * t150)) + (wrap64 ((wrap64 (t166 - t167)) * t149)))) ≥ (wrap64 (t170 * t150)) then ((ricochetlaw03_small.f a2_3).bind fun t171 => (if (wrap64 ((wrap64 (t165 * t150)) + (wrap64 ((wrap64 (t166 - t167)) * t149)))) ≤ (wrap64 (t171 * t150)) then ((box_In.f a0_0 a0_1 a2_0 a2_1 a2_2 a2_3).bind fun t172 => (some (t172 == (t149 == 0)))) else (some false))) else (some false))) else (some false))) else (some false))))) = some r := H
                have A60 := Aside0.mk A600
                clear A600
                replace H := Option.bind_eq_some_iff.mp H
                obtain ⟨t166, A610, H⟩ := H
                replace H : ((ricochetlaw03_small.f a0_1).bind fun t167 => ((ricochetlaw03_small.f a2_0).bind fun t168 => (if (wrap64 ((wrap64 (t162 * t150)) + (wrap64 ((wrap64 (t163 - t164)) * t149)))) ≥ (wrap64 (t168 * t150)) then ((ricochetlaw03_small.f a2_2).bind fun t169 => (if (wrap64 ((wrap64 (t162 * t150)) + (wrap64 ((wrap64 (t163 - t164)) * t149)))) ≤ (wrap64 (t169 * t150)) then ((ricochetlaw03_small.f a2_1).bind fun t170 => (if (wrap64 ((wrap64 (t165 * t150)) + (wrap64 ((wrap64 (t166 - t167)) * t149)))) ≥ (wrap64 (t170 * t150)) then ((ricochetlaw03_small.f a2_3).bind fun t171 => (if (wrap64 ((wrap64 (t165 * t150)) + (wrap64 ((wrap64 (t166 - t167)) * t149)))) ≤ (wrap64 (t171 * t150)) then ((box_In.f a0_0 a0_1 a2_0 a2_1 a2_2 a2_3).bind fun t172 => (some (t172 == (t149 == 0)))) else (some false))) else (some false))) else (some false))) else (some false)))) = some r := H
                have A61 := Aside0.mk A610
                clear A610
                replace H := Option.bind_eq_some_iff.mp H
                obtain ⟨t167, A620, H⟩ := H
                replace H : ((ricochetlaw03_small.f a2_0).bind fun t168 => (if (wrap64 ((wrap64 (t162 * t150)) + (wrap64 ((wrap64 (t163 - t164)) * t149)))) ≥ (wrap64 (t168 * t150)) then ((ricochetlaw03_small.f a2_2).bind fun t169 => (if (wrap64 ((wrap64 (t162 * t150)) + (wrap64 ((wrap64 (t163 - t164)) * t149)))) ≤ (wrap64 (t169 * t150)) then ((ricochetlaw03_small.f a2_1).bind fun t170 => (if (wrap64 ((wrap64 (t165 * t150)) + (wrap64 ((wrap64 (t166 - t167)) * t149)))) ≥ (wrap64 (t170 * t150)) then ((ricochetlaw03_small.f a2_3).bind fun t171 => (if (wrap64 ((wrap64 (t165 * t150)) + (wrap64 ((wrap64 (t166 - t167)) * t149)))) ≤ (wrap64 (t171 * t150)) then ((box_In.f a0_0 a0_1 a2_0 a2_1 a2_2 a2_3).bind fun t172 => (some (t172 == (t149 == 0)))) else (some false))) else (some false))) else (some false))) else (some false))) = some r := H
                have A62 := Aside0.mk A620
                clear A620
                replace H := Option.bind_eq_some_iff.mp H
                obtain ⟨t168, A630, H⟩ := H
                replace H : (if (wrap64 ((wrap64 (t162 * t150)) + (wrap64 ((wrap64 (t163 - t164)) * t149)))) ≥ (wrap64 (t168 * t150)) then ((ricochetlaw03_small.f a2_2).bind fun t169 => (if (wrap64 ((wrap64 (t162 * t150)) + (wrap64 ((wrap64 (t163 - t164)) * t149)))) ≤ (wrap64 (t169 * t150)) then ((ricochetlaw03_small.f a2_1).bind fun t170 => (if (wrap64 ((wrap64 (t165 * t150)) + (wrap64 ((wrap64 (t166 - t167)) * t149)))) ≥ (wrap64 (t170 * t150)) then ((ricochetlaw03_small.f a2_3).bind fun t171 => (if (wrap64 ((wrap64 (t165 * t150)) + (wrap64 ((wrap64 (t166 - t167)) * t149)))) ≤ (wrap64 (t171 * t150)) then ((box_In.f a0_0 a0_1 a2_0 a2_1 a2_2 a2_3).bind fun t172 => (some (t172 == (t149 == 0)))) else (some false))) else (some false))) else (some false))) else (some false)) = some r := H
                have A63 := Aside0.mk A630
                clear A630
                by_cases c64 : (wrap64 ((wrap64 (t162 * t150)) + (wrap64 ((wrap64 (t163 - t164)) * t149)))) ≥ (wrap64 (t168 * t150))
                · rw [if_pos c64] at H
                  have c64b0 : decide ((wrap64 (t168 * t150)) ≤ (wrap64 ((wrap64 (t162 * t150)) + (wrap64 ((wrap64 (t163 - t164)) * t149))))) = true := decide_eq_true c64
                  clear c64
                  replace H := Option.bind_eq_some_iff.mp H
                  obtain ⟨t169, A650, H⟩ := H
                  replace H : (if (wrap64 ((wrap64 (t162 * t150)) + (wrap64 ((wrap64 (t163 - t164)) * t149)))) ≤ (wrap64 (t169 * t150)) then ((ricochetlaw03_small.f a2_1).bind fun t170 => (if (wrap64 ((wrap64 (t165 * t150)) + (wrap64 ((wrap64 (t166 - t167)) * t149)))) ≥ (wrap64 (t170 * t150)) then ((ricochetlaw03_small.f a2_3).bind fun t171 => (if (wrap64 ((wrap64 (t165 * t150)) + (wrap64 ((wrap64 (t166 - t167)) * t149)))) ≤ (wrap64 (t171 * t150)) then ((box_In.f a0_0 a0_1 a2_0 a2_1 a2_2 a2_3).bind fun t172 => (some (t172 == (t149 == 0)))) else (some false))) else (some false))) else (some false)) = some r := H
                  have A65 := Aside0.mk A650
                  clear A650
                  by_cases c66 : (wrap64 ((wrap64 (t162 * t150)) + (wrap64 ((wrap64 (t163 - t164)) * t149)))) ≤ (wrap64 (t169 * t150))
                  · rw [if_pos c66] at H
                    have c66b0 : decide ((wrap64 ((wrap64 (t162 * t150)) + (wrap64 ((wrap64 (t163 - t164)) * t149)))) ≤ (wrap64 (t169 * t150))) = true := decide_eq_true c66
                    clear c66
                    replace H := Option.bind_eq_some_iff.mp H
                    obtain ⟨t170, A670, H⟩ := H
                    replace H : (if (wrap64 ((wrap64 (t165 * t150)) + (wrap64 ((wrap64 (t166 - t167)) * t149)))) ≥ (wrap64 (t170 * t150)) then ((ricochetlaw03_small.f a2_3).bind fun t171 => (if (wrap64 ((wrap64 (t165 * t150)) + (wrap64 ((wrap64 (t166 - t167)) * t149)))) ≤ (wrap64 (t171 * t150)) then ((box_In.f a0_0 a0_1 a2_0 a2_1 a2_2 a2_3).bind fun t172 => (some (t172 == (t149 == 0)))) else (some false))) else (some false)) = some r := H
                    have A67 := Aside0.mk A670
                    clear A670
                    by_cases c68 : (wrap64 ((wrap64 (t165 * t150)) + (wrap64 ((wrap64 (t166 - t167)) * t149)))) ≥ (wrap64 (t170 * t150))
                    · rw [if_pos c68] at H
                      have c68b0 : decide ((wrap64 (t170 * t150)) ≤ (wrap64 ((wrap64 (t165 * t150)) + (wrap64 ((wrap64 (t166 - t167)) * t149))))) = true := decide_eq_true c68
                      clear c68
                      replace H := Option.bind_eq_some_iff.mp H
                      obtain ⟨t171, A690, H⟩ := H
                      replace H : (if (wrap64 ((wrap64 (t165 * t150)) + (wrap64 ((wrap64 (t166 - t167)) * t149)))) ≤ (wrap64 (t171 * t150)) then ((box_In.f a0_0 a0_1 a2_0 a2_1 a2_2 a2_3).bind fun t172 => (some (t172 == (t149 == 0)))) else (some false)) = some r := H
                      have A69 := Aside0.mk A690
                      clear A690
                      by_cases c70 : (wrap64 ((wrap64 (t165 * t150)) + (wrap64 ((wrap64 (t166 - t167)) * t149)))) ≤ (wrap64 (t171 * t150))
                      · rw [if_pos c70] at H
                        have c70b0 : decide ((wrap64 ((wrap64 (t165 * t150)) + (wrap64 ((wrap64 (t166 - t167)) * t149)))) ≤ (wrap64 (t171 * t150))) = true := decide_eq_true c70
                        clear c70
                        replace H := Option.bind_eq_some_iff.mp H
                        obtain ⟨t172, A710, H⟩ := H
                        replace H : (some (t172 == (t149 == 0))) = some r := H
                        have A71 := Aside0.mk A710
                        clear A710
                        obtain rfl := Option.some.inj H
                        obtain rfl : a0_0 = t162 := by have := A57.out; simpa [ricochetlaw03_small.f] using this
                        obtain rfl : a1_0 = t163 := by have := A58.out; simpa [ricochetlaw03_small.f] using this
                        obtain rfl : a0_0 = t164 := by have := A59.out; simpa [ricochetlaw03_small.f] using this
                        obtain rfl : a0_1 = t165 := by have := A60.out; simpa [ricochetlaw03_small.f] using this
                        obtain rfl : a1_1 = t166 := by have := A61.out; simpa [ricochetlaw03_small.f] using this
                        obtain rfl : a0_1 = t167 := by have := A62.out; simpa [ricochetlaw03_small.f] using this
                        obtain rfl : a2_0 = t168 := by have := A63.out; simpa [ricochetlaw03_small.f] using this
                        obtain rfl : a2_2 = t169 := by have := A65.out; simpa [ricochetlaw03_small.f] using this
                        obtain rfl : a2_1 = t170 := by have := A67.out; simpa [ricochetlaw03_small.f] using this
                        obtain rfl : a2_3 = t171 := by have := A69.out; simpa [ricochetlaw03_small.f] using this
                        have d0 : wc.cell? ⟨gb146, 0, none⟩ = some (.int .i64 a0_0) := (blk_cell BK146.out 0).trans rfl
                        have d1 : wc.cell? ⟨gb146, 1, none⟩ = some (.int .i64 a0_1) := (blk_cell BK146.out 1).trans rfl
                        have d2 : wc.cell? ⟨gb147, 0, none⟩ = some (.int .i64 a1_0) := (blk_cell BK147.out 0).trans rfl
                        have d3 : wc.cell? ⟨gb147, 1, none⟩ = some (.int .i64 a1_1) := (blk_cell BK147.out 1).trans rfl
                        have d4 : wc.cell? ⟨gb148, 0, none⟩ = some (.int .i64 a2_0) := (blk_cell BK148.out 0).trans rfl
                        have d5 : wc.cell? ⟨gb148, 1, none⟩ = some (.int .i64 a2_1) := (blk_cell BK148.out 1).trans rfl
                        have d6 : wc.cell? ⟨gb148, 2, none⟩ = some (.int .i64 a2_2) := (blk_cell BK148.out 2).trans rfl
                        have d7 : wc.cell? ⟨gb148, 3, none⟩ = some (.int .i64 a2_3) := (blk_cell BK148.out 3).trans rfl
                        have d8 : wc.cell? ⟨gb152, 0, none⟩ = some (.int .i64 t149) := (blk_cell BK152.out 0).trans rfl
                        have d9 : wc.cell? ⟨gb152, 1, none⟩ = some (.int .i64 t150) := (blk_cell BK152.out 1).trans rfl
                        clear A57 A58 A59 A60 A61 A62 A63 A65 A67 A69
                        go_wp2_with fail
                        go_quiet ((go_at_call 26; exact Calls.quiet_of_same (small_call _ _)))
                        generalize hq : wc.drewN _ = wq
                        have hcl : ∀ a, wq.cell? a = wc.cell? a := by intro a; rw [← hq]; rfl
                        have HB1 : Aside0 (Below w.heap.size w wq) := ⟨by rw [← hq]; exact pw_below_drewN HB.out _⟩
                        clear hq
                        go_wp2_with fail
                        go_quiet ((go_at_call 26; exact Calls.quiet_of_same (small_call _ _)))
                        generalize hq : wq.drewN _ = wr
                        have hcr : ∀ a, wr.cell? a = wc.cell? a := by intro a; rw [← hq]; exact hcl a
                        have HB2 : Aside0 (Below w.heap.size w wr) := ⟨by rw [← hq]; exact pw_below_drewN HB1.out _⟩
                        clear hq
                        clear hcl
                        go_wp2_with fail
                        rw [wi64 (a2_0 * t150)] at c64b0
                        rw [wi64 (a2_2 * t150)] at c66b0
                        rw [wi64 (a2_1 * t150)] at c68b0
                        rw [wi64 (a2_3 * t150)] at c70b0
                        go_region_held3 (fun w' => w'.cell? ⟨gb146, 0, none⟩ = some (.int .i64 a0_0) ∧ w'.cell? ⟨gb146, 1, none⟩ = some (.int .i64 a0_1) ∧ w'.cell? ⟨gb148, 0, none⟩ = some (.int .i64 a2_0) ∧ w'.cell? ⟨gb148, 1, none⟩ = some (.int .i64 a2_1) ∧ w'.cell? ⟨gb148, 2, none⟩ = some (.int .i64 a2_2) ∧ w'.cell? ⟨gb148, 3, none⟩ = some (.int .i64 a2_3) ∧ w'.cell? ⟨gb152, 0, none⟩ = some (.int .i64 t149) ∧ w'.cell? ⟨gb152, 1, none⟩ = some (.int .i64 t150)) (first | go_keep | ((repeat' apply And.intro) <;> (first | (simp [*]; done) | (refine stepC (by assumption) ?_; simp [*]; done)))) (first | (go_at_call 26; (with_reducible refine (small_call _ _).mono ?_); rintro e w' ⟨rfl, rfl⟩) | (go_at_call 15; (with_reducible refine (box_In.calls a0_0 a0_1 a2_0 a2_1 a2_2 a2_3 t172 _ A71.out).mono ?_); rintro e w15 ⟨rfl, hb⟩; have n0_ := Aside0.mk (below_step (by repeat (first | (with_reducible first | exact HB2.out | apply below_alloc | apply pw_below_drewN | apply below_drew1) | exact HB2.out)) hb); clear HB2; have HB2 := n0_; clear n0_))
                        go_wp2_with fail
                        go_ret
                        exact ⟨by first | rfl | (simp; done), by repeat (first | (with_reducible first | exact HB2.out | apply below_alloc | apply pw_below_drewN | apply below_drew1) | exact HB2.out)⟩
                      · rw [if_neg c70] at H
                        exact absurd (Option.some.inj H) (by rw [HR.out]; simp)
                    · rw [if_neg c68] at H
                      exact absurd (Option.some.inj H) (by rw [HR.out]; simp)
                  · rw [if_neg c66] at H
                    exact absurd (Option.some.inj H) (by rw [HR.out]; simp)
                · rw [if_neg c64] at H
                  exact absurd (Option.some.inj H) (by rw [HR.out]; simp)
        · replace c37 := Bool.eq_false_iff.mpr c37
          subst c37
          have H1 : (if (t149 == 0 && (t150 == 0)) = true then ((ricochetref02_Formed.f a0_0 a0_1).bind fun t158 => (if t158 = true then ((ricochetref02_Formed.f a1_0 a1_1).bind fun t159 => (if t159 = true then ((box_In.f a0_0 a0_1 a2_0 a2_1 a2_2 a2_3).bind fun t160 => (if t160 = true then (some false) else ((box_In.f a1_0 a1_1 a2_0 a2_1 a2_2 a2_3).bind fun t161 => (some (!t161))))) else (some true))) else (some true))) else (some false)) = some r := by rw [if_neg (show ¬ (false = true) by decide)] at H; exact H
          clear H
          have H := H1
          clear H1
          by_cases c88 : (t149 == 0 && (t150 == 0)) = true
          · rw [if_pos c88] at H
            have c88b0 : (t149 == 0 && (t150 == 0)) = true := c88
            (try (have c88b1 : decide (t149 = 0 && (t150 == 0)) = true := by simpa using c88))
            (try (have c88b2 : (t149 == 0 && (t150 == 0)) = true := by simpa using c88))
            clear c88
            replace H := Option.bind_eq_some_iff.mp H
            obtain ⟨t158, A890, H⟩ := H
            replace H : (if t158 = true then ((ricochetref02_Formed.f a1_0 a1_1).bind fun t159 => (if t159 = true then ((box_In.f a0_0 a0_1 a2_0 a2_1 a2_2 a2_3).bind fun t160 => (if t160 = true then (some false) else ((box_In.f a1_0 a1_1 a2_0 a2_1 a2_2 a2_3).bind fun t161 => (some (!t161))))) else (some true))) else (some true)) = some r := H
            have A89 := Aside0.mk A890
            clear A890
            by_cases c90 : t158 = true
            · subst c90
              have H1 : ((ricochetref02_Formed.f a1_0 a1_1).bind fun t159 => (if t159 = true then ((box_In.f a0_0 a0_1 a2_0 a2_1 a2_2 a2_3).bind fun t160 => (if t160 = true then (some false) else ((box_In.f a1_0 a1_1 a2_0 a2_1 a2_2 a2_3).bind fun t161 => (some (!t161))))) else (some true))) = some r := by rw [if_pos rfl] at H; exact H
              clear H
              have H := H1
              clear H1
              replace H := Option.bind_eq_some_iff.mp H
              obtain ⟨t159, A910, H⟩ := H
              replace H : (if t159 = true then ((box_In.f a0_0 a0_1 a2_0 a2_1 a2_2 a2_3).bind fun t160 => (if t160 = true then (some false) else ((box_In.f a1_0 a1_1 a2_0 a2_1 a2_2 a2_3).bind fun t161 => (some (!t161))))) else (some true)) = some r := H
              have A91 := Aside0.mk A910
              clear A910
              by_cases c92 : t159 = true
              · subst c92
                have H1 : ((box_In.f a0_0 a0_1 a2_0 a2_1 a2_2 a2_3).bind fun t160 => (if t160 = true then (some false) else ((box_In.f a1_0 a1_1 a2_0 a2_1 a2_2 a2_3).bind fun t161 => (some (!t161))))) = some r := by rw [if_pos rfl] at H; exact H
                clear H
                have H := H1
                clear H1
                replace H := Option.bind_eq_some_iff.mp H
                obtain ⟨t160, A930, H⟩ := H
                replace H : (if t160 = true then (some false) else ((box_In.f a1_0 a1_1 a2_0 a2_1 a2_2 a2_3).bind fun t161 => (some (!t161)))) = some r := H
                have A93 := Aside0.mk A930
                clear A930
                by_cases c94 : t160 = true
                · subst c94
                  have H1 : (some false) = some r := by rw [if_pos rfl] at H; exact H
                  clear H
                  have H := H1
                  clear H1
                  obtain rfl := Option.some.inj H
                  have hnb95 := NB152_146.out
                  have hnc95 := NB146_152.out
                  have hnb96 := NB152_147.out
                  have hnc96 := NB147_152.out
                  have hnb97 := NB152_148.out
                  have hnc97 := NB148_152.out
                  have hnb98 := NB152_156.out
                  have hnc98 := NB156_152.out
                  have hcz99_0 : wc.cell? ⟨gb152, 0, none⟩ = some (.int .i64 t149) := (blk_cell BK152.out 0).trans rfl
                  have hcz99_1 : wc.cell? ⟨gb152, 1, none⟩ = some (.int .i64 t150) := (blk_cell BK152.out 1).trans rfl
                  have hfz99_0 := blk_frozen BK152.out 0
                  have hfz99_1 := blk_frozen BK152.out 1
                  have hnb100 := NB146_147.out
                  have hnc100 := NB147_146.out
                  have hnb101 := NB146_148.out
                  have hnc101 := NB148_146.out
                  have hnb102 := NB146_156.out
                  have hnc102 := NB156_146.out
                  have hcz103_0 : wc.cell? ⟨gb146, 0, none⟩ = some (.int .i64 a0_0) := (blk_cell BK146.out 0).trans rfl
                  have hcz103_1 : wc.cell? ⟨gb146, 1, none⟩ = some (.int .i64 a0_1) := (blk_cell BK146.out 1).trans rfl
                  have hfz103_0 := blk_frozen BK146.out 0
                  have hfz103_1 := blk_frozen BK146.out 1
                  go_wp2_with (first | (go_at_call 25; (with_reducible refine (ricochetref02_Formed.calls a0_0 a0_1 true _ A89.out).mono ?_); rintro e w104 ⟨rfl, hb⟩; have n0_ := Aside0.mk (blk_below (g := gb146) (o := .cells #[.int .i64 a0_0, .int .i64 a0_1] 29 (0, 0)) (by (with_reducible repeat (first | refine blk_drewN ?_ _ | refine blk_drew ?_ | refine blk_alloc ?_ _)); exact BK146.out) hb); have n1_ := Aside0.mk (blk_below (g := gb147) (o := .cells #[.int .i64 a1_0, .int .i64 a1_1] 29 (0, 0)) (by (with_reducible repeat (first | refine blk_drewN ?_ _ | refine blk_drew ?_ | refine blk_alloc ?_ _)); exact BK147.out) hb); have n2_ := Aside0.mk (blk_below (g := gb148) (o := .cells #[.int .i64 a2_0, .int .i64 a2_1, .int .i64 a2_2, .int .i64 a2_3] 31 (0, 0)) (by (with_reducible repeat (first | refine blk_drewN ?_ _ | refine blk_drew ?_ | refine blk_alloc ?_ _)); exact BK148.out) hb); have n3_ := Aside0.mk (blk_below (g := gb152) (o := .cells #[.int .i64 t149, .int .i64 t150] 23 (0, 0)) (by (with_reducible repeat (first | refine blk_drewN ?_ _ | refine blk_drew ?_ | refine blk_alloc ?_ _)); exact BK152.out) hb); have n4_ := Aside0.mk (blk_below (g := gb156) (o := .cells #[.int .i64 t153, .int .i64 t154] 23 (0, 0)) (by (with_reducible repeat (first | refine blk_drewN ?_ _ | refine blk_drew ?_ | refine blk_alloc ?_ _)); exact BK156.out) hb); have n5_ := Aside0.mk (below_step (by repeat (first | (with_reducible first | exact HB.out | apply below_alloc | apply pw_below_drewN | apply below_drew1 | refine below_set ?_ GE146.out | refine below_set ?_ GE147.out | refine below_set ?_ GE148.out | refine below_set ?_ GE152.out | refine below_set ?_ GE156.out) | exact HB.out)) hb); clear BK146; clear BK147; clear BK148; clear BK152; clear BK156; clear HB; have BK146 := n0_; have BK147 := n1_; have BK148 := n2_; have BK152 := n3_; have BK156 := n4_; have HB := n5_; clear n0_ n1_ n2_ n3_ n4_ n5_; (try clear hb); (try clear hb2); (try clear hk); (try clear hi); have hnb105 := NB147_148.out; have hnc105 := NB148_147.out; have hnb106 := NB147_156.out; have hnc106 := NB156_147.out; have hcz107_0 : w104.cell? ⟨gb147, 0, none⟩ = some (.int .i64 a1_0) := (blk_cell BK147.out 0).trans rfl; have hcz107_1 : w104.cell? ⟨gb147, 1, none⟩ = some (.int .i64 a1_1) := (blk_cell BK147.out 1).trans rfl; have hfz107_0 := blk_frozen BK147.out 0; have hfz107_1 := blk_frozen BK147.out 1) | (go_at_call 25; (with_reducible refine (ricochetref02_Formed.calls a1_0 a1_1 true _ A91.out).mono ?_); rintro e w108 ⟨rfl, hb⟩; have n0_ := Aside0.mk (blk_below (g := gb146) (o := .cells #[.int .i64 a0_0, .int .i64 a0_1] 29 (0, 0)) (by (with_reducible repeat (first | refine blk_drewN ?_ _ | refine blk_drew ?_ | refine blk_alloc ?_ _)); exact BK146.out) hb); have n1_ := Aside0.mk (blk_below (g := gb147) (o := .cells #[.int .i64 a1_0, .int .i64 a1_1] 29 (0, 0)) (by (with_reducible repeat (first | refine blk_drewN ?_ _ | refine blk_drew ?_ | refine blk_alloc ?_ _)); exact BK147.out) hb); have n2_ := Aside0.mk (blk_below (g := gb148) (o := .cells #[.int .i64 a2_0, .int .i64 a2_1, .int .i64 a2_2, .int .i64 a2_3] 31 (0, 0)) (by (with_reducible repeat (first | refine blk_drewN ?_ _ | refine blk_drew ?_ | refine blk_alloc ?_ _)); exact BK148.out) hb); have n3_ := Aside0.mk (blk_below (g := gb152) (o := .cells #[.int .i64 t149, .int .i64 t150] 23 (0, 0)) (by (with_reducible repeat (first | refine blk_drewN ?_ _ | refine blk_drew ?_ | refine blk_alloc ?_ _)); exact BK152.out) hb); have n4_ := Aside0.mk (blk_below (g := gb156) (o := .cells #[.int .i64 t153, .int .i64 t154] 23 (0, 0)) (by (with_reducible repeat (first | refine blk_drewN ?_ _ | refine blk_drew ?_ | refine blk_alloc ?_ _)); exact BK156.out) hb); have n5_ := Aside0.mk (below_step (by repeat (first | (with_reducible first | exact HB.out | apply below_alloc | apply pw_below_drewN | apply below_drew1 | refine below_set ?_ GE146.out | refine below_set ?_ GE147.out | refine below_set ?_ GE148.out | refine below_set ?_ GE152.out | refine below_set ?_ GE156.out) | exact HB.out)) hb); clear BK146; clear BK147; clear BK148; clear BK152; clear BK156; clear HB; have BK146 := n0_; have BK147 := n1_; have BK148 := n2_; have BK152 := n3_; have BK156 := n4_; have HB := n5_; clear n0_ n1_ n2_ n3_ n4_ n5_; (try clear hb); (try clear hb2); (try clear hk); (try clear hi); have hcz109_0 : w108.cell? ⟨gb146, 0, none⟩ = some (.int .i64 a0_0) := (blk_cell BK146.out 0).trans rfl; have hcz109_1 : w108.cell? ⟨gb146, 1, none⟩ = some (.int .i64 a0_1) := (blk_cell BK146.out 1).trans rfl; have hfz109_0 := blk_frozen BK146.out 0; have hfz109_1 := blk_frozen BK146.out 1; have hnb110 := NB148_156.out; have hnc110 := NB156_148.out; have hcz111_0 : w108.cell? ⟨gb148, 0, none⟩ = some (.int .i64 a2_0) := (blk_cell BK148.out 0).trans rfl; have hcz111_1 : w108.cell? ⟨gb148, 1, none⟩ = some (.int .i64 a2_1) := (blk_cell BK148.out 1).trans rfl; have hcz111_2 : w108.cell? ⟨gb148, 2, none⟩ = some (.int .i64 a2_2) := (blk_cell BK148.out 2).trans rfl; have hcz111_3 : w108.cell? ⟨gb148, 3, none⟩ = some (.int .i64 a2_3) := (blk_cell BK148.out 3).trans rfl; have hfz111_0 := blk_frozen BK148.out 0; have hfz111_1 := blk_frozen BK148.out 1; have hfz111_2 := blk_frozen BK148.out 2; have hfz111_3 := blk_frozen BK148.out 3) | (go_at_call 15; (with_reducible refine (box_In.calls a0_0 a0_1 a2_0 a2_1 a2_2 a2_3 true _ A93.out).mono ?_); rintro e w112 ⟨rfl, hb⟩; have n0_ := Aside0.mk (blk_below (g := gb146) (o := .cells #[.int .i64 a0_0, .int .i64 a0_1] 29 (0, 0)) (by (with_reducible repeat (first | refine blk_drewN ?_ _ | refine blk_drew ?_ | refine blk_alloc ?_ _)); exact BK146.out) hb); have n1_ := Aside0.mk (blk_below (g := gb147) (o := .cells #[.int .i64 a1_0, .int .i64 a1_1] 29 (0, 0)) (by (with_reducible repeat (first | refine blk_drewN ?_ _ | refine blk_drew ?_ | refine blk_alloc ?_ _)); exact BK147.out) hb); have n2_ := Aside0.mk (blk_below (g := gb148) (o := .cells #[.int .i64 a2_0, .int .i64 a2_1, .int .i64 a2_2, .int .i64 a2_3] 31 (0, 0)) (by (with_reducible repeat (first | refine blk_drewN ?_ _ | refine blk_drew ?_ | refine blk_alloc ?_ _)); exact BK148.out) hb); have n3_ := Aside0.mk (blk_below (g := gb152) (o := .cells #[.int .i64 t149, .int .i64 t150] 23 (0, 0)) (by (with_reducible repeat (first | refine blk_drewN ?_ _ | refine blk_drew ?_ | refine blk_alloc ?_ _)); exact BK152.out) hb); have n4_ := Aside0.mk (blk_below (g := gb156) (o := .cells #[.int .i64 t153, .int .i64 t154] 23 (0, 0)) (by (with_reducible repeat (first | refine blk_drewN ?_ _ | refine blk_drew ?_ | refine blk_alloc ?_ _)); exact BK156.out) hb); have n5_ := Aside0.mk (below_step (by repeat (first | (with_reducible first | exact HB.out | apply below_alloc | apply pw_below_drewN | apply below_drew1 | refine below_set ?_ GE146.out | refine below_set ?_ GE147.out | refine below_set ?_ GE148.out | refine below_set ?_ GE152.out | refine below_set ?_ GE156.out) | exact HB.out)) hb); clear BK146; clear BK147; clear BK148; clear BK152; clear BK156; clear HB; have BK146 := n0_; have BK147 := n1_; have BK148 := n2_; have BK152 := n3_; have BK156 := n4_; have HB := n5_; clear n0_ n1_ n2_ n3_ n4_ n5_; (try clear hb); (try clear hb2); (try clear hk); (try clear hi)))
                  go_ret
                  exact ⟨by first | rfl | (simp [errW_none, errW_some] <;> rfl) | (simp [*, errW_none, errW_some] <;> rfl), by repeat (first | (with_reducible first | exact HB.out | apply below_alloc | apply pw_below_drewN | apply below_drew1 | refine below_set ?_ GE146.out | refine below_set ?_ GE147.out | refine below_set ?_ GE148.out | refine below_set ?_ GE152.out | refine below_set ?_ GE156.out) | exact HB.out)⟩
                · replace c94 := Bool.eq_false_iff.mpr c94
                  subst c94
                  have H1 : ((box_In.f a1_0 a1_1 a2_0 a2_1 a2_2 a2_3).bind fun t161 => (some (!t161))) = some r := by rw [if_neg (show ¬ (false = true) by decide)] at H; exact H
                  clear H
                  have H := H1
                  clear H1
                  replace H := Option.bind_eq_some_iff.mp H
                  obtain ⟨t161, A1130, H⟩ := H
                  replace H : (some (!t161)) = some r := H
                  have A113 := Aside0.mk A1130
                  clear A1130
                  obtain rfl := Option.some.inj H
                  have hnb114 := NB152_146.out
                  have hnc114 := NB146_152.out
                  have hnb115 := NB152_147.out
                  have hnc115 := NB147_152.out
                  have hnb116 := NB152_148.out
                  have hnc116 := NB148_152.out
                  have hnb117 := NB152_156.out
                  have hnc117 := NB156_152.out
                  have hcz118_0 : wc.cell? ⟨gb152, 0, none⟩ = some (.int .i64 t149) := (blk_cell BK152.out 0).trans rfl
                  have hcz118_1 : wc.cell? ⟨gb152, 1, none⟩ = some (.int .i64 t150) := (blk_cell BK152.out 1).trans rfl
                  have hfz118_0 := blk_frozen BK152.out 0
                  have hfz118_1 := blk_frozen BK152.out 1
                  have hnb119 := NB146_147.out
                  have hnc119 := NB147_146.out
                  have hnb120 := NB146_148.out
                  have hnc120 := NB148_146.out
                  have hnb121 := NB146_156.out
                  have hnc121 := NB156_146.out
                  have hcz122_0 : wc.cell? ⟨gb146, 0, none⟩ = some (.int .i64 a0_0) := (blk_cell BK146.out 0).trans rfl
                  have hcz122_1 : wc.cell? ⟨gb146, 1, none⟩ = some (.int .i64 a0_1) := (blk_cell BK146.out 1).trans rfl
                  have hfz122_0 := blk_frozen BK146.out 0
                  have hfz122_1 := blk_frozen BK146.out 1
                  go_wp2_with (first | (go_at_call 25; (with_reducible refine (ricochetref02_Formed.calls a0_0 a0_1 true _ A89.out).mono ?_); rintro e w123 ⟨rfl, hb⟩; have n0_ := Aside0.mk (blk_below (g := gb146) (o := .cells #[.int .i64 a0_0, .int .i64 a0_1] 29 (0, 0)) (by (with_reducible repeat (first | refine blk_drewN ?_ _ | refine blk_drew ?_ | refine blk_alloc ?_ _)); exact BK146.out) hb); have n1_ := Aside0.mk (blk_below (g := gb147) (o := .cells #[.int .i64 a1_0, .int .i64 a1_1] 29 (0, 0)) (by (with_reducible repeat (first | refine blk_drewN ?_ _ | refine blk_drew ?_ | refine blk_alloc ?_ _)); exact BK147.out) hb); have n2_ := Aside0.mk (blk_below (g := gb148) (o := .cells #[.int .i64 a2_0, .int .i64 a2_1, .int .i64 a2_2, .int .i64 a2_3] 31 (0, 0)) (by (with_reducible repeat (first | refine blk_drewN ?_ _ | refine blk_drew ?_ | refine blk_alloc ?_ _)); exact BK148.out) hb); have n3_ := Aside0.mk (blk_below (g := gb152) (o := .cells #[.int .i64 t149, .int .i64 t150] 23 (0, 0)) (by (with_reducible repeat (first | refine blk_drewN ?_ _ | refine blk_drew ?_ | refine blk_alloc ?_ _)); exact BK152.out) hb); have n4_ := Aside0.mk (blk_below (g := gb156) (o := .cells #[.int .i64 t153, .int .i64 t154] 23 (0, 0)) (by (with_reducible repeat (first | refine blk_drewN ?_ _ | refine blk_drew ?_ | refine blk_alloc ?_ _)); exact BK156.out) hb); have n5_ := Aside0.mk (below_step (by repeat (first | (with_reducible first | exact HB.out | apply below_alloc | apply pw_below_drewN | apply below_drew1 | refine below_set ?_ GE146.out | refine below_set ?_ GE147.out | refine below_set ?_ GE148.out | refine below_set ?_ GE152.out | refine below_set ?_ GE156.out) | exact HB.out)) hb); clear BK146; clear BK147; clear BK148; clear BK152; clear BK156; clear HB; have BK146 := n0_; have BK147 := n1_; have BK148 := n2_; have BK152 := n3_; have BK156 := n4_; have HB := n5_; clear n0_ n1_ n2_ n3_ n4_ n5_; (try clear hb); (try clear hb2); (try clear hk); (try clear hi); have hnb124 := NB147_148.out; have hnc124 := NB148_147.out; have hnb125 := NB147_156.out; have hnc125 := NB156_147.out; have hcz126_0 : w123.cell? ⟨gb147, 0, none⟩ = some (.int .i64 a1_0) := (blk_cell BK147.out 0).trans rfl; have hcz126_1 : w123.cell? ⟨gb147, 1, none⟩ = some (.int .i64 a1_1) := (blk_cell BK147.out 1).trans rfl; have hfz126_0 := blk_frozen BK147.out 0; have hfz126_1 := blk_frozen BK147.out 1) | (go_at_call 25; (with_reducible refine (ricochetref02_Formed.calls a1_0 a1_1 true _ A91.out).mono ?_); rintro e w127 ⟨rfl, hb⟩; have n0_ := Aside0.mk (blk_below (g := gb146) (o := .cells #[.int .i64 a0_0, .int .i64 a0_1] 29 (0, 0)) (by (with_reducible repeat (first | refine blk_drewN ?_ _ | refine blk_drew ?_ | refine blk_alloc ?_ _)); exact BK146.out) hb); have n1_ := Aside0.mk (blk_below (g := gb147) (o := .cells #[.int .i64 a1_0, .int .i64 a1_1] 29 (0, 0)) (by (with_reducible repeat (first | refine blk_drewN ?_ _ | refine blk_drew ?_ | refine blk_alloc ?_ _)); exact BK147.out) hb); have n2_ := Aside0.mk (blk_below (g := gb148) (o := .cells #[.int .i64 a2_0, .int .i64 a2_1, .int .i64 a2_2, .int .i64 a2_3] 31 (0, 0)) (by (with_reducible repeat (first | refine blk_drewN ?_ _ | refine blk_drew ?_ | refine blk_alloc ?_ _)); exact BK148.out) hb); have n3_ := Aside0.mk (blk_below (g := gb152) (o := .cells #[.int .i64 t149, .int .i64 t150] 23 (0, 0)) (by (with_reducible repeat (first | refine blk_drewN ?_ _ | refine blk_drew ?_ | refine blk_alloc ?_ _)); exact BK152.out) hb); have n4_ := Aside0.mk (blk_below (g := gb156) (o := .cells #[.int .i64 t153, .int .i64 t154] 23 (0, 0)) (by (with_reducible repeat (first | refine blk_drewN ?_ _ | refine blk_drew ?_ | refine blk_alloc ?_ _)); exact BK156.out) hb); have n5_ := Aside0.mk (below_step (by repeat (first | (with_reducible first | exact HB.out | apply below_alloc | apply pw_below_drewN | apply below_drew1 | refine below_set ?_ GE146.out | refine below_set ?_ GE147.out | refine below_set ?_ GE148.out | refine below_set ?_ GE152.out | refine below_set ?_ GE156.out) | exact HB.out)) hb); clear BK146; clear BK147; clear BK148; clear BK152; clear BK156; clear HB; have BK146 := n0_; have BK147 := n1_; have BK148 := n2_; have BK152 := n3_; have BK156 := n4_; have HB := n5_; clear n0_ n1_ n2_ n3_ n4_ n5_; (try clear hb); (try clear hb2); (try clear hk); (try clear hi); have hcz128_0 : w127.cell? ⟨gb146, 0, none⟩ = some (.int .i64 a0_0) := (blk_cell BK146.out 0).trans rfl; have hcz128_1 : w127.cell? ⟨gb146, 1, none⟩ = some (.int .i64 a0_1) := (blk_cell BK146.out 1).trans rfl; have hfz128_0 := blk_frozen BK146.out 0; have hfz128_1 := blk_frozen BK146.out 1; have hnb129 := NB148_156.out; have hnc129 := NB156_148.out; have hcz130_0 : w127.cell? ⟨gb148, 0, none⟩ = some (.int .i64 a2_0) := (blk_cell BK148.out 0).trans rfl; have hcz130_1 : w127.cell? ⟨gb148, 1, none⟩ = some (.int .i64 a2_1) := (blk_cell BK148.out 1).trans rfl; have hcz130_2 : w127.cell? ⟨gb148, 2, none⟩ = some (.int .i64 a2_2) := (blk_cell BK148.out 2).trans rfl; have hcz130_3 : w127.cell? ⟨gb148, 3, none⟩ = some (.int .i64 a2_3) := (blk_cell BK148.out 3).trans rfl; have hfz130_0 := blk_frozen BK148.out 0; have hfz130_1 := blk_frozen BK148.out 1; have hfz130_2 := blk_frozen BK148.out 2; have hfz130_3 := blk_frozen BK148.out 3) | (go_at_call 15; (with_reducible refine (box_In.calls a0_0 a0_1 a2_0 a2_1 a2_2 a2_3 false _ A93.out).mono ?_); rintro e w131 ⟨rfl, hb⟩; have n0_ := Aside0.mk (blk_below (g := gb146) (o := .cells #[.int .i64 a0_0, .int .i64 a0_1] 29 (0, 0)) (by (with_reducible repeat (first | refine blk_drewN ?_ _ | refine blk_drew ?_ | refine blk_alloc ?_ _)); exact BK146.out) hb); have n1_ := Aside0.mk (blk_below (g := gb147) (o := .cells #[.int .i64 a1_0, .int .i64 a1_1] 29 (0, 0)) (by (with_reducible repeat (first | refine blk_drewN ?_ _ | refine blk_drew ?_ | refine blk_alloc ?_ _)); exact BK147.out) hb); have n2_ := Aside0.mk (blk_below (g := gb148) (o := .cells #[.int .i64 a2_0, .int .i64 a2_1, .int .i64 a2_2, .int .i64 a2_3] 31 (0, 0)) (by (with_reducible repeat (first | refine blk_drewN ?_ _ | refine blk_drew ?_ | refine blk_alloc ?_ _)); exact BK148.out) hb); have n3_ := Aside0.mk (blk_below (g := gb152) (o := .cells #[.int .i64 t149, .int .i64 t150] 23 (0, 0)) (by (with_reducible repeat (first | refine blk_drewN ?_ _ | refine blk_drew ?_ | refine blk_alloc ?_ _)); exact BK152.out) hb); have n4_ := Aside0.mk (blk_below (g := gb156) (o := .cells #[.int .i64 t153, .int .i64 t154] 23 (0, 0)) (by (with_reducible repeat (first | refine blk_drewN ?_ _ | refine blk_drew ?_ | refine blk_alloc ?_ _)); exact BK156.out) hb); have n5_ := Aside0.mk (below_step (by repeat (first | (with_reducible first | exact HB.out | apply below_alloc | apply pw_below_drewN | apply below_drew1 | refine below_set ?_ GE146.out | refine below_set ?_ GE147.out | refine below_set ?_ GE148.out | refine below_set ?_ GE152.out | refine below_set ?_ GE156.out) | exact HB.out)) hb); clear BK146; clear BK147; clear BK148; clear BK152; clear BK156; clear HB; have BK146 := n0_; have BK147 := n1_; have BK148 := n2_; have BK152 := n3_; have BK156 := n4_; have HB := n5_; clear n0_ n1_ n2_ n3_ n4_ n5_; (try clear hb); (try clear hb2); (try clear hk); (try clear hi); have hcz132_0 : w131.cell? ⟨gb147, 0, none⟩ = some (.int .i64 a1_0) := (blk_cell BK147.out 0).trans rfl; have hcz132_1 : w131.cell? ⟨gb147, 1, none⟩ = some (.int .i64 a1_1) := (blk_cell BK147.out 1).trans rfl; have hfz132_0 := blk_frozen BK147.out 0; have hfz132_1 := blk_frozen BK147.out 1; have hcz133_0 : w131.cell? ⟨gb148, 0, none⟩ = some (.int .i64 a2_0) := (blk_cell BK148.out 0).trans rfl; have hcz133_1 : w131.cell? ⟨gb148, 1, none⟩ = some (.int .i64 a2_1) := (blk_cell BK148.out 1).trans rfl; have hcz133_2 : w131.cell? ⟨gb148, 2, none⟩ = some (.int .i64 a2_2) := (blk_cell BK148.out 2).trans rfl; have hcz133_3 : w131.cell? ⟨gb148, 3, none⟩ = some (.int .i64 a2_3) := (blk_cell BK148.out 3).trans rfl; have hfz133_0 := blk_frozen BK148.out 0; have hfz133_1 := blk_frozen BK148.out 1; have hfz133_2 := blk_frozen BK148.out 2; have hfz133_3 := blk_frozen BK148.out 3) | (go_at_call 15; (with_reducible refine (box_In.calls a1_0 a1_1 a2_0 a2_1 a2_2 a2_3 t161 _ A113.out).mono ?_); rintro e w134 ⟨rfl, hb⟩; have n0_ := Aside0.mk (blk_below (g := gb146) (o := .cells #[.int .i64 a0_0, .int .i64 a0_1] 29 (0, 0)) (by (with_reducible repeat (first | refine blk_drewN ?_ _ | refine blk_drew ?_ | refine blk_alloc ?_ _)); exact BK146.out) hb); have n1_ := Aside0.mk (blk_below (g := gb147) (o := .cells #[.int .i64 a1_0, .int .i64 a1_1] 29 (0, 0)) (by (with_reducible repeat (first | refine blk_drewN ?_ _ | refine blk_drew ?_ | refine blk_alloc ?_ _)); exact BK147.out) hb); have n2_ := Aside0.mk (blk_below (g := gb148) (o := .cells #[.int .i64 a2_0, .int .i64 a2_1, .int .i64 a2_2, .int .i64 a2_3] 31 (0, 0)) (by (with_reducible repeat (first | refine blk_drewN ?_ _ | refine blk_drew ?_ | refine blk_alloc ?_ _)); exact BK148.out) hb); have n3_ := Aside0.mk (blk_below (g := gb152) (o := .cells #[.int .i64 t149, .int .i64 t150] 23 (0, 0)) (by (with_reducible repeat (first | refine blk_drewN ?_ _ | refine blk_drew ?_ | refine blk_alloc ?_ _)); exact BK152.out) hb); have n4_ := Aside0.mk (blk_below (g := gb156) (o := .cells #[.int .i64 t153, .int .i64 t154] 23 (0, 0)) (by (with_reducible repeat (first | refine blk_drewN ?_ _ | refine blk_drew ?_ | refine blk_alloc ?_ _)); exact BK156.out) hb); have n5_ := Aside0.mk (below_step (by repeat (first | (with_reducible first | exact HB.out | apply below_alloc | apply pw_below_drewN | apply below_drew1 | refine below_set ?_ GE146.out | refine below_set ?_ GE147.out | refine below_set ?_ GE148.out | refine below_set ?_ GE152.out | refine below_set ?_ GE156.out) | exact HB.out)) hb); clear BK146; clear BK147; clear BK148; clear BK152; clear BK156; clear HB; have BK146 := n0_; have BK147 := n1_; have BK148 := n2_; have BK152 := n3_; have BK156 := n4_; have HB := n5_; clear n0_ n1_ n2_ n3_ n4_ n5_; (try clear hb); (try clear hb2); (try clear hk); (try clear hi)))
                  go_ret
                  exact ⟨by first | rfl | (simp [errW_none, errW_some] <;> rfl) | (simp [*, errW_none, errW_some] <;> rfl), by repeat (first | (with_reducible first | exact HB.out | apply below_alloc | apply pw_below_drewN | apply below_drew1 | refine below_set ?_ GE146.out | refine below_set ?_ GE147.out | refine below_set ?_ GE148.out | refine below_set ?_ GE152.out | refine below_set ?_ GE156.out) | exact HB.out)⟩
              · replace c92 := Bool.eq_false_iff.mpr c92
                subst c92
                have H1 : (some true) = some r := by rw [if_neg (show ¬ (false = true) by decide)] at H; exact H
                clear H
                have H := H1
                clear H1
                obtain rfl := Option.some.inj H
                have hnb135 := NB152_146.out
                have hnc135 := NB146_152.out
                have hnb136 := NB152_147.out
                have hnc136 := NB147_152.out
                have hnb137 := NB152_148.out
                have hnc137 := NB148_152.out
                have hnb138 := NB152_156.out
                have hnc138 := NB156_152.out
                have hcz139_0 : wc.cell? ⟨gb152, 0, none⟩ = some (.int .i64 t149) := (blk_cell BK152.out 0).trans rfl
                have hcz139_1 : wc.cell? ⟨gb152, 1, none⟩ = some (.int .i64 t150) := (blk_cell BK152.out 1).trans rfl
                have hfz139_0 := blk_frozen BK152.out 0
                have hfz139_1 := blk_frozen BK152.out 1
                have hnb140 := NB146_147.out
                have hnc140 := NB147_146.out
                have hnb141 := NB146_148.out
                have hnc141 := NB148_146.out
                have hnb142 := NB146_156.out
                have hnc142 := NB156_146.out
                have hcz143_0 : wc.cell? ⟨gb146, 0, none⟩ = some (.int .i64 a0_0) := (blk_cell BK146.out 0).trans rfl
                have hcz143_1 : wc.cell? ⟨gb146, 1, none⟩ = some (.int .i64 a0_1) := (blk_cell BK146.out 1).trans rfl
                have hfz143_0 := blk_frozen BK146.out 0
                have hfz143_1 := blk_frozen BK146.out 1
                go_wp2_with (first | (go_at_call 25; (with_reducible refine (ricochetref02_Formed.calls a0_0 a0_1 true _ A89.out).mono ?_); rintro e w144 ⟨rfl, hb⟩; have n0_ := Aside0.mk (blk_below (g := gb146) (o := .cells #[.int .i64 a0_0, .int .i64 a0_1] 29 (0, 0)) (by (with_reducible repeat (first | refine blk_drewN ?_ _ | refine blk_drew ?_ | refine blk_alloc ?_ _)); exact BK146.out) hb); have n1_ := Aside0.mk (blk_below (g := gb147) (o := .cells #[.int .i64 a1_0, .int .i64 a1_1] 29 (0, 0)) (by (with_reducible repeat (first | refine blk_drewN ?_ _ | refine blk_drew ?_ | refine blk_alloc ?_ _)); exact BK147.out) hb); have n2_ := Aside0.mk (blk_below (g := gb148) (o := .cells #[.int .i64 a2_0, .int .i64 a2_1, .int .i64 a2_2, .int .i64 a2_3] 31 (0, 0)) (by (with_reducible repeat (first | refine blk_drewN ?_ _ | refine blk_drew ?_ | refine blk_alloc ?_ _)); exact BK148.out) hb); have n3_ := Aside0.mk (blk_below (g := gb152) (o := .cells #[.int .i64 t149, .int .i64 t150] 23 (0, 0)) (by (with_reducible repeat (first | refine blk_drewN ?_ _ | refine blk_drew ?_ | refine blk_alloc ?_ _)); exact BK152.out) hb); have n4_ := Aside0.mk (blk_below (g := gb156) (o := .cells #[.int .i64 t153, .int .i64 t154] 23 (0, 0)) (by (with_reducible repeat (first | refine blk_drewN ?_ _ | refine blk_drew ?_ | refine blk_alloc ?_ _)); exact BK156.out) hb); have n5_ := Aside0.mk (below_step (by repeat (first | (with_reducible first | exact HB.out | apply below_alloc | apply pw_below_drewN | apply below_drew1 | refine below_set ?_ GE146.out | refine below_set ?_ GE147.out | refine below_set ?_ GE148.out | refine below_set ?_ GE152.out | refine below_set ?_ GE156.out) | exact HB.out)) hb); clear BK146; clear BK147; clear BK148; clear BK152; clear BK156; clear HB; have BK146 := n0_; have BK147 := n1_; have BK148 := n2_; have BK152 := n3_; have BK156 := n4_; have HB := n5_; clear n0_ n1_ n2_ n3_ n4_ n5_; (try clear hb); (try clear hb2); (try clear hk); (try clear hi); have hnb145 := NB147_148.out; have hnc145 := NB148_147.out; have hnb146 := NB147_156.out; have hnc146 := NB156_147.out; have hcz147_0 : w144.cell? ⟨gb147, 0, none⟩ = some (.int .i64 a1_0) := (blk_cell BK147.out 0).trans rfl; have hcz147_1 : w144.cell? ⟨gb147, 1, none⟩ = some (.int .i64 a1_1) := (blk_cell BK147.out 1).trans rfl; have hfz147_0 := blk_frozen BK147.out 0; have hfz147_1 := blk_frozen BK147.out 1) | (go_at_call 25; (with_reducible refine (ricochetref02_Formed.calls a1_0 a1_1 false _ A91.out).mono ?_); rintro e w148 ⟨rfl, hb⟩; have n0_ := Aside0.mk (blk_below (g := gb146) (o := .cells #[.int .i64 a0_0, .int .i64 a0_1] 29 (0, 0)) (by (with_reducible repeat (first | refine blk_drewN ?_ _ | refine blk_drew ?_ | refine blk_alloc ?_ _)); exact BK146.out) hb); have n1_ := Aside0.mk (blk_below (g := gb147) (o := .cells #[.int .i64 a1_0, .int .i64 a1_1] 29 (0, 0)) (by (with_reducible repeat (first | refine blk_drewN ?_ _ | refine blk_drew ?_ | refine blk_alloc ?_ _)); exact BK147.out) hb); have n2_ := Aside0.mk (blk_below (g := gb148) (o := .cells #[.int .i64 a2_0, .int .i64 a2_1, .int .i64 a2_2, .int .i64 a2_3] 31 (0, 0)) (by (with_reducible repeat (first | refine blk_drewN ?_ _ | refine blk_drew ?_ | refine blk_alloc ?_ _)); exact BK148.out) hb); have n3_ := Aside0.mk (blk_below (g := gb152) (o := .cells #[.int .i64 t149, .int .i64 t150] 23 (0, 0)) (by (with_reducible repeat (first | refine blk_drewN ?_ _ | refine blk_drew ?_ | refine blk_alloc ?_ _)); exact BK152.out) hb); have n4_ := Aside0.mk (blk_below (g := gb156) (o := .cells #[.int .i64 t153, .int .i64 t154] 23 (0, 0)) (by (with_reducible repeat (first | refine blk_drewN ?_ _ | refine blk_drew ?_ | refine blk_alloc ?_ _)); exact BK156.out) hb); have n5_ := Aside0.mk (below_step (by repeat (first | (with_reducible first | exact HB.out | apply below_alloc | apply pw_below_drewN | apply below_drew1 | refine below_set ?_ GE146.out | refine below_set ?_ GE147.out | refine below_set ?_ GE148.out | refine below_set ?_ GE152.out | refine below_set ?_ GE156.out) | exact HB.out)) hb); clear BK146; clear BK147; clear BK148; clear BK152; clear BK156; clear HB; have BK146 := n0_; have BK147 := n1_; have BK148 := n2_; have BK152 := n3_; have BK156 := n4_; have HB := n5_; clear n0_ n1_ n2_ n3_ n4_ n5_; (try clear hb); (try clear hb2); (try clear hk); (try clear hi)))
                go_ret
                exact ⟨by first | rfl | (simp [errW_none, errW_some] <;> rfl) | (simp [*, errW_none, errW_some] <;> rfl), by repeat (first | (with_reducible first | exact HB.out | apply below_alloc | apply pw_below_drewN | apply below_drew1 | refine below_set ?_ GE146.out | refine below_set ?_ GE147.out | refine below_set ?_ GE148.out | refine below_set ?_ GE152.out | refine below_set ?_ GE156.out) | exact HB.out)⟩
            · replace c90 := Bool.eq_false_iff.mpr c90
              subst c90
              have H1 : (some true) = some r := by rw [if_neg (show ¬ (false = true) by decide)] at H; exact H
              clear H
              have H := H1
              clear H1
              obtain rfl := Option.some.inj H
              have hnb149 := NB152_146.out
              have hnc149 := NB146_152.out
              have hnb150 := NB152_147.out
              have hnc150 := NB147_152.out
              have hnb151 := NB152_148.out
              have hnc151 := NB148_152.out
              have hnb152 := NB152_156.out
              have hnc152 := NB156_152.out
              have hcz153_0 : wc.cell? ⟨gb152, 0, none⟩ = some (.int .i64 t149) := (blk_cell BK152.out 0).trans rfl
              have hcz153_1 : wc.cell? ⟨gb152, 1, none⟩ = some (.int .i64 t150) := (blk_cell BK152.out 1).trans rfl
              have hfz153_0 := blk_frozen BK152.out 0
              have hfz153_1 := blk_frozen BK152.out 1
              have hnb154 := NB146_147.out
              have hnc154 := NB147_146.out
              have hnb155 := NB146_148.out
              have hnc155 := NB148_146.out
              have hnb156 := NB146_156.out
              have hnc156 := NB156_146.out
              have hcz157_0 : wc.cell? ⟨gb146, 0, none⟩ = some (.int .i64 a0_0) := (blk_cell BK146.out 0).trans rfl
              have hcz157_1 : wc.cell? ⟨gb146, 1, none⟩ = some (.int .i64 a0_1) := (blk_cell BK146.out 1).trans rfl
              have hfz157_0 := blk_frozen BK146.out 0
              have hfz157_1 := blk_frozen BK146.out 1
              go_wp2_with (first | (go_at_call 25; (with_reducible refine (ricochetref02_Formed.calls a0_0 a0_1 false _ A89.out).mono ?_); rintro e w158 ⟨rfl, hb⟩; have n0_ := Aside0.mk (blk_below (g := gb146) (o := .cells #[.int .i64 a0_0, .int .i64 a0_1] 29 (0, 0)) (by (with_reducible repeat (first | refine blk_drewN ?_ _ | refine blk_drew ?_ | refine blk_alloc ?_ _)); exact BK146.out) hb); have n1_ := Aside0.mk (blk_below (g := gb147) (o := .cells #[.int .i64 a1_0, .int .i64 a1_1] 29 (0, 0)) (by (with_reducible repeat (first | refine blk_drewN ?_ _ | refine blk_drew ?_ | refine blk_alloc ?_ _)); exact BK147.out) hb); have n2_ := Aside0.mk (blk_below (g := gb148) (o := .cells #[.int .i64 a2_0, .int .i64 a2_1, .int .i64 a2_2, .int .i64 a2_3] 31 (0, 0)) (by (with_reducible repeat (first | refine blk_drewN ?_ _ | refine blk_drew ?_ | refine blk_alloc ?_ _)); exact BK148.out) hb); have n3_ := Aside0.mk (blk_below (g := gb152) (o := .cells #[.int .i64 t149, .int .i64 t150] 23 (0, 0)) (by (with_reducible repeat (first | refine blk_drewN ?_ _ | refine blk_drew ?_ | refine blk_alloc ?_ _)); exact BK152.out) hb); have n4_ := Aside0.mk (blk_below (g := gb156) (o := .cells #[.int .i64 t153, .int .i64 t154] 23 (0, 0)) (by (with_reducible repeat (first | refine blk_drewN ?_ _ | refine blk_drew ?_ | refine blk_alloc ?_ _)); exact BK156.out) hb); have n5_ := Aside0.mk (below_step (by repeat (first | (with_reducible first | exact HB.out | apply below_alloc | apply pw_below_drewN | apply below_drew1 | refine below_set ?_ GE146.out | refine below_set ?_ GE147.out | refine below_set ?_ GE148.out | refine below_set ?_ GE152.out | refine below_set ?_ GE156.out) | exact HB.out)) hb); clear BK146; clear BK147; clear BK148; clear BK152; clear BK156; clear HB; have BK146 := n0_; have BK147 := n1_; have BK148 := n2_; have BK152 := n3_; have BK156 := n4_; have HB := n5_; clear n0_ n1_ n2_ n3_ n4_ n5_; (try clear hb); (try clear hb2); (try clear hk); (try clear hi)))
              go_ret
              exact ⟨by first | rfl | (simp [errW_none, errW_some] <;> rfl) | (simp [*, errW_none, errW_some] <;> rfl), by repeat (first | (with_reducible first | exact HB.out | apply below_alloc | apply pw_below_drewN | apply below_drew1 | refine below_set ?_ GE146.out | refine below_set ?_ GE147.out | refine below_set ?_ GE148.out | refine below_set ?_ GE152.out | refine below_set ?_ GE156.out) | exact HB.out)⟩
          · rw [if_neg c88] at H
            have c88b0 : (t149 == 0 && (t150 == 0)) = false := by simpa using c88
            (try (have c88b1 : decide (t149 = 0 && (t150 == 0)) = false := by simpa using c88))
            (try (have c88b2 : (t149 == 0 && (t150 == 0)) = false := by simpa using c88))
            (try (have c88b3 : ¬ (t149 = 0 && (t150 == 0)) := by simpa using c88))
            clear c88
            obtain rfl := Option.some.inj H
            have hnb159 := NB152_146.out
            have hnc159 := NB146_152.out
            have hnb160 := NB152_147.out
            have hnc160 := NB147_152.out
            have hnb161 := NB152_148.out
            have hnc161 := NB148_152.out
            have hnb162 := NB152_156.out
            have hnc162 := NB156_152.out
            have hcz163_0 : wc.cell? ⟨gb152, 0, none⟩ = some (.int .i64 t149) := (blk_cell BK152.out 0).trans rfl
            have hcz163_1 : wc.cell? ⟨gb152, 1, none⟩ = some (.int .i64 t150) := (blk_cell BK152.out 1).trans rfl
            have hfz163_0 := blk_frozen BK152.out 0
            have hfz163_1 := blk_frozen BK152.out 1
            go_wp2
            go_ret
            exact ⟨by first | rfl | (simp [errW_none, errW_some] <;> rfl) | (simp [*, errW_none, errW_some] <;> rfl), by repeat (first | (with_reducible first | exact HB.out | apply below_alloc | apply pw_below_drewN | apply below_drew1 | refine below_set ?_ GE146.out | refine below_set ?_ GE147.out | refine below_set ?_ GE148.out | refine below_set ?_ GE152.out | refine below_set ?_ GE156.out) | exact HB.out)⟩

end Go.Proofs.Ytjbeiingfcfdbaa.PBoxFirst
