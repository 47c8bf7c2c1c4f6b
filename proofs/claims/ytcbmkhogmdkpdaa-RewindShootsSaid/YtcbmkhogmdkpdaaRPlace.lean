import Derived.Test.YtcbmkhogmdkpdaaRLive
import Derived.Test.YtcbmkhogmdkpdaaPlainB
set_option linter.unusedVariables false
set_option linter.unusedSimpArgs false
namespace Go.Proofs.Ytcbmkhogmdkpdaa.Ring
open Go.RowKit Go.ChangeMaps Go.Proofs.YtcbmkhogmdkpdaaW.PrintWords Go.Proofs.YtcbmkhogmdkpdaaW.PrintLast Go.Proofs.YtcbmkhogmdkpdaaW.PrintMore Go.Proofs.Ytcbmkhogmdkpdaa.PRewindNone Go.Proofs.Ytcbmkhogmdkpdaa.MapI Go.Proofs.Ytcbmkhogmdkpdaa.Plain Go.Proofs.Ytcbmkhogmdkpdaa.Pure
theorem living_none {A : Option Addr} {c : Nat} {xs : List S67} {id : Int} {w : World} (hC : Kd.C k67 w A xs.length xs) (hl : xs.length ≤ 1000) (h : liv id xs = none) :
    Calls Try.prog 44 #[.slice A xs.length c, .int .i64 id] w fun e w' => e = .returned (.tuple #[.agg #[.int .i64 0, .int .i64 0, .int .i64 0, .int .i64 0, .int .i64 0, .int .i64 0, .int .i64 0, .int .i64 0], .bool false]) ∧ Below w.heap.size w w' := by
  have := living_any A xs.length c xs id w hC hl
  rw [h] at this
  exact this
theorem living_some {A : Option Addr} {c : Nat} {xs : List S67} {id : Int} {w : World} {y : S67} (hC : Kd.C k67 w A xs.length xs) (hl : xs.length ≤ 1000) (h : liv id xs = some y) :
    Calls Try.prog 44 #[.slice A xs.length c, .int .i64 id] w fun e w' => e = .returned (.tuple #[.agg #[.int .i64 y.f0, .int .i64 y.f1, .int .i64 y.f2.f0, .int .i64 y.f2.f1, .int .i64 y.f3.f0, .int .i64 y.f3.f1, .int .i64 y.f4, .int .i64 y.f5], .bool true]) ∧ Below w.heap.size w w' := by
  have := living_any A xs.length c xs id w hC hl
  rw [h] at this
  exact this
theorem lowA {w w0 : World} {b : Nat} (h : Below b w0 w) (hb : b ≤ w0.heap.size) (o : Obj) : Below b w0 (w.alloc o) := h.alloc (Nat.le_trans hb h.size) o
/-- Where an entity was, back then. -/
def placeF (xs ys : List S67) (there : Bool) (part id : Int) : Option (Int × Int) :=
  match liv id xs with
  | none => none
  | some a => match liv id ys with
    | none => some (a.f2.f0, a.f2.f1)
    | some b => if there = true ∧ a.f1 = b.f1 then some (btw (hold a.f2.f0) (hold b.f2.f0) part, btw (hold a.f2.f1) (hold b.f2.f1) part) else some (a.f2.f0, a.f2.f1)
set_option maxHeartbeats 4000000 in
set_option maxRecDepth 100000 in
theorem place_any (A A2 : Option Addr) (c c2 : Nat) (xs ys : List S67) (there : Bool) (part id : Int) (w : World) (hC : Kd.C k67 w A xs.length xs) (hC2 : Kd.C k67 w A2 ys.length ys) (hl : xs.length ≤ 1000) (hl2 : ys.length ≤ 1000) (hp : 0 ≤ part ∧ part ≤ 255) :
    Calls Try.prog 30 #[.agg #[.slice A xs.length c, .slice A2 ys.length c2, .bool there, .int .u8 part], .int .i64 id] w fun e w' => e = .returned (.tuple #[.agg #[.int .i64 ((placeF xs ys there part id).getD (0, 0)).1, .int .i64 ((placeF xs ys there part id).getD (0, 0)).2], .bool (placeF xs ys there part id).isSome]) ∧ Below w.heap.size w w' := by
  have HBL := Aside0.mk (below_alloc (below_alloc (Below.refl w.heap.size w) (.cells #[.slice A xs.length c, .slice A2 ys.length c2, .bool there, .int .u8 part] 82 (0, 0))) (.cells #[.int .i64 0, .int .i64 0] 28 (0, 0)))
  have hT := blk_alloc (blk_new w (.cells #[.slice A xs.length c, .slice A2 ys.length c2, .bool there, .int .u8 part] 82 (0, 0))) (.cells #[.int .i64 0, .int .i64 0] 28 (0, 0))
  have hV := blk_new (w.alloc (.cells #[.slice A xs.length c, .slice A2 ys.length c2, .bool there, .int .u8 part] 82 (0, 0))) (.cells #[.int .i64 0, .int .i64 0] 28 (0, 0))
  rw [show (w.alloc (.cells #[.slice A xs.length c, .slice A2 ys.length c2, .bool there, .int .u8 part] 82 (0, 0))).heap.size = w.heap.size + 1 by simp] at hV
  have HV := Aside0.mk hV
  have HT := Aside0.mk hT
  have HC := Aside0.mk (And.intro (Kd.C_below hC (below_alloc (below_alloc (Below.refl w.heap.size w) (.cells #[.slice A xs.length c, .slice A2 ys.length c2, .bool there, .int .u8 part] 82 (0, 0))) (.cells #[.int .i64 0, .int .i64 0] 28 (0, 0)))) (Kd.C_below hC2 (below_alloc (below_alloc (Below.refl w.heap.size w) (.cells #[.slice A xs.length c, .slice A2 ys.length c2, .bool there, .int .u8 part] 82 (0, 0))) (.cells #[.int .i64 0, .int .i64 0] 28 (0, 0)))))
  clear hC hC2 hT hV
  go_enter Try.func30, Try.ntmps30
  go_upto_region 1 with fail
  generalize (w.alloc (.cells #[.slice A xs.length c, .slice A2 ys.length c2, .bool there, .int .u8 part] 82 (0, 0))).alloc (.cells #[.int .i64 0, .int .i64 0] 28 (0, 0)) = W2 at *
  obtain ⟨S, hS⟩ : ∃ S, w.heap.size = S := ⟨_, rfl⟩
  rw [hS] at HBL HT HV
  have HS := Aside0.mk hS
  rw [hS]
  have t0 : W2.cell? ⟨S, 0, none⟩ = some (.slice A xs.length c) := (blk_cell HT.out 0).trans rfl
  clear hS
  cases hx : liv id xs with
  | none =>
    have HX := Aside0.mk hx
    have HPF : Aside0 (placeF xs ys there part id = none) := ⟨by unfold placeF; rw [hx]⟩
    clear hx
    go_upto_region 3 with (go_at_call 44; (with_reducible refine (living_none HC.out.1 hl HX.out).mono ?_); rintro e w1 ⟨he, hb1⟩; subst he; have HB1 := Aside0.mk hb1; clear hb1)
    have hV := blk_alloc (blk_below HV.out HB1.out) (.cells #[.int .i64 0, .int .i64 0, .int .i64 0, .int .i64 0, .int .i64 0, .int .i64 0, .int .i64 0, .int .i64 0] 67 (0, 0))
    have HB3 := Aside0.mk (lowA (HBL.out.trans (HB1.out.mono (by have := HBL.out.size; have := HS.out; omega))) (by have := HS.out; omega) (.cells #[.int .i64 0, .int .i64 0, .int .i64 0, .int .i64 0, .int .i64 0, .int .i64 0, .int .i64 0, .int .i64 0] 67 (0, 0)))
    generalize w1.alloc (.cells #[.int .i64 0, .int .i64 0, .int .i64 0, .int .i64 0, .int .i64 0, .int .i64 0, .int .i64 0, .int .i64 0] 67 (0, 0)) = W3 at *
    have HV3 := Aside0.mk hV
    have v0 : W3.cell? ⟨S + 1, 0, none⟩ = some (.int .i64 0) := (blk_cell hV 0).trans rfl
    have g0 : W3.frozen? ⟨S + 1, 0, none⟩ = false := blk_frozen hV 0
    have v1 : W3.cell? ⟨S + 1, 1, none⟩ = some (.int .i64 0) := (blk_cell hV 1).trans rfl
    have g1 : W3.frozen? ⟨S + 1, 1, none⟩ = false := blk_frozen hV 1
    clear hV t0
    go_wp2_with fail
    refine bodyPost_ret (results_ct rfl _ _ (S + 1) 28 #[.int .i64 0, .int .i64 0] (0, 0) _ rfl (put2 HV3.out _ _) Try.underlying28 rfl (by kernel_rfl)) rfl ?_
    refine ⟨by rw [HPF.out]; rfl, ?_⟩
    rw [HS.out]
    exact low2 HB3.out (by omega) _ _
  | some a =>
    have HX := Aside0.mk hx
    go_upto_region 4 with (go_at_call 44; (with_reducible refine (living_some HC.out.1 hl HX.out).mono ?_); rintro e w1 ⟨he, hb1⟩; subst he; have HB1 := Aside0.mk hb1; clear hb1)
    have HP3 := Aside0.mk (blk_new w1 (.cells #[.int .i64 a.f0, .int .i64 a.f1, .int .i64 a.f2.f0, .int .i64 a.f2.f1, .int .i64 a.f3.f0, .int .i64 a.f3.f1, .int .i64 a.f4, .int .i64 a.f5] 67 (0, 0)))
    have hV := blk_alloc (blk_below HV.out HB1.out) (.cells #[.int .i64 a.f0, .int .i64 a.f1, .int .i64 a.f2.f0, .int .i64 a.f2.f1, .int .i64 a.f3.f0, .int .i64 a.f3.f1, .int .i64 a.f4, .int .i64 a.f5] 67 (0, 0))
    have hT := blk_alloc (blk_below HT.out HB1.out) (.cells #[.int .i64 a.f0, .int .i64 a.f1, .int .i64 a.f2.f0, .int .i64 a.f2.f1, .int .i64 a.f3.f0, .int .i64 a.f3.f1, .int .i64 a.f4, .int .i64 a.f5] 67 (0, 0))
    have HC3 := Aside0.mk (Kd.C_alloc (Kd.C_below HC.out.2 HB1.out) (.cells #[.int .i64 a.f0, .int .i64 a.f1, .int .i64 a.f2.f0, .int .i64 a.f2.f1, .int .i64 a.f3.f0, .int .i64 a.f3.f1, .int .i64 a.f4, .int .i64 a.f5] 67 (0, 0)))
    have HB3 := Aside0.mk (lowA (HBL.out.trans (HB1.out.mono (by have := HBL.out.size; have := HS.out; omega))) (by have := HS.out; omega) (.cells #[.int .i64 a.f0, .int .i64 a.f1, .int .i64 a.f2.f0, .int .i64 a.f2.f1, .int .i64 a.f3.f0, .int .i64 a.f3.f1, .int .i64 a.f4, .int .i64 a.f5] 67 (0, 0)))
    generalize w1.alloc (.cells #[.int .i64 a.f0, .int .i64 a.f1, .int .i64 a.f2.f0, .int .i64 a.f2.f1, .int .i64 a.f3.f0, .int .i64 a.f3.f1, .int .i64 a.f4, .int .i64 a.f5] 67 (0, 0)) = W3 at *
    generalize w1.heap.size = P at *
    have HV3 := Aside0.mk hV
    have HT3 := Aside0.mk hT
    have t1 : W3.cell? ⟨S, 1, none⟩ = some (.slice A2 ys.length c2) := (blk_cell hT 1).trans rfl
    clear hV hT t0 HBL HT HV HC HB1
    cases hy : liv id ys with
    | none =>
      have HY := Aside0.mk hy
      have HPF : Aside0 (placeF xs ys there part id = some (a.f2.f0, a.f2.f1)) := ⟨by unfold placeF; rw [hx]; simp only; rw [hy]⟩
      clear hx hy
      go_upto_region 5 with (go_at_call 44; (with_reducible refine (living_none HC3.out hl2 HY.out).mono ?_); rintro e w2 ⟨he, hb2⟩; subst he; have HB2 := Aside0.mk hb2; clear hb2)
      have hV := blk_alloc (blk_below HV3.out HB2.out) (.cells #[.int .i64 0, .int .i64 0, .int .i64 0, .int .i64 0, .int .i64 0, .int .i64 0, .int .i64 0, .int .i64 0] 67 (0, 0))
      have hP := blk_alloc (blk_below HP3.out HB2.out) (.cells #[.int .i64 0, .int .i64 0, .int .i64 0, .int .i64 0, .int .i64 0, .int .i64 0, .int .i64 0, .int .i64 0] 67 (0, 0))
      have HB4 := Aside0.mk (lowA (HB3.out.trans (HB2.out.mono (by have := HB3.out.size; have := HS.out; omega))) (by have := HS.out; omega) (.cells #[.int .i64 0, .int .i64 0, .int .i64 0, .int .i64 0, .int .i64 0, .int .i64 0, .int .i64 0, .int .i64 0] 67 (0, 0)))
      generalize w2.alloc (.cells #[.int .i64 0, .int .i64 0, .int .i64 0, .int .i64 0, .int .i64 0, .int .i64 0, .int .i64 0, .int .i64 0] 67 (0, 0)) = W4 at *
      have HV4 := Aside0.mk hV
      have v0 : W4.cell? ⟨S + 1, 0, none⟩ = some (.int .i64 0) := (blk_cell hV 0).trans rfl
      have g0 : W4.frozen? ⟨S + 1, 0, none⟩ = false := blk_frozen hV 0
      have v1 : W4.cell? ⟨S + 1, 1, none⟩ = some (.int .i64 0) := (blk_cell hV 1).trans rfl
      have g1 : W4.frozen? ⟨S + 1, 1, none⟩ = false := blk_frozen hV 1
      have p1 : W4.cell? ⟨P, 1, none⟩ = some (.int .i64 a.f1) := (blk_cell hP 1).trans rfl
      have p2 : W4.cell? ⟨P, 2, none⟩ = some (.int .i64 a.f2.f0) := (blk_cell hP 2).trans rfl
      have p3 : W4.cell? ⟨P, 3, none⟩ = some (.int .i64 a.f2.f1) := (blk_cell hP 3).trans rfl
      clear hV hP t1
      go_wp2_with fail
      refine bodyPost_ret (results_ct rfl _ _ (S + 1) 28 #[.int .i64 a.f2.f0, .int .i64 a.f2.f1] (0, 0) _ rfl (put2 HV4.out _ _) Try.underlying28 rfl (by kernel_rfl)) rfl ?_
      refine ⟨by rw [HPF.out]; rfl, ?_⟩
      rw [HS.out]
      exact low2 HB4.out (by omega) _ _
    | some b =>
      have HY := Aside0.mk hy
      go_upto_region 5 with (go_at_call 44; (with_reducible refine (living_some HC3.out hl2 HY.out).mono ?_); rintro e w2 ⟨he, hb2⟩; subst he; have HB2 := Aside0.mk hb2; clear hb2)
      have hQ := blk_new w2 (.cells #[.int .i64 b.f0, .int .i64 b.f1, .int .i64 b.f2.f0, .int .i64 b.f2.f1, .int .i64 b.f3.f0, .int .i64 b.f3.f1, .int .i64 b.f4, .int .i64 b.f5] 67 (0, 0))
      have hV := blk_alloc (blk_below HV3.out HB2.out) (.cells #[.int .i64 b.f0, .int .i64 b.f1, .int .i64 b.f2.f0, .int .i64 b.f2.f1, .int .i64 b.f3.f0, .int .i64 b.f3.f1, .int .i64 b.f4, .int .i64 b.f5] 67 (0, 0))
      have hP := blk_alloc (blk_below HP3.out HB2.out) (.cells #[.int .i64 b.f0, .int .i64 b.f1, .int .i64 b.f2.f0, .int .i64 b.f2.f1, .int .i64 b.f3.f0, .int .i64 b.f3.f1, .int .i64 b.f4, .int .i64 b.f5] 67 (0, 0))
      have hT := blk_alloc (blk_below HT3.out HB2.out) (.cells #[.int .i64 b.f0, .int .i64 b.f1, .int .i64 b.f2.f0, .int .i64 b.f2.f1, .int .i64 b.f3.f0, .int .i64 b.f3.f1, .int .i64 b.f4, .int .i64 b.f5] 67 (0, 0))
      have HB4 := Aside0.mk (lowA (HB3.out.trans (HB2.out.mono (by have := HB3.out.size; have := HS.out; omega))) (by have := HS.out; omega) (.cells #[.int .i64 b.f0, .int .i64 b.f1, .int .i64 b.f2.f0, .int .i64 b.f2.f1, .int .i64 b.f3.f0, .int .i64 b.f3.f1, .int .i64 b.f4, .int .i64 b.f5] 67 (0, 0)))
      generalize w2.alloc (.cells #[.int .i64 b.f0, .int .i64 b.f1, .int .i64 b.f2.f0, .int .i64 b.f2.f1, .int .i64 b.f3.f0, .int .i64 b.f3.f1, .int .i64 b.f4, .int .i64 b.f5] 67 (0, 0)) = W4 at *
      generalize w2.heap.size = Q at *
      have HV4 := Aside0.mk hV
      have v0 : W4.cell? ⟨S + 1, 0, none⟩ = some (.int .i64 0) := (blk_cell hV 0).trans rfl
      have g0 : W4.frozen? ⟨S + 1, 0, none⟩ = false := blk_frozen hV 0
      have v1 : W4.cell? ⟨S + 1, 1, none⟩ = some (.int .i64 0) := (blk_cell hV 1).trans rfl
      have g1 : W4.frozen? ⟨S + 1, 1, none⟩ = false := blk_frozen hV 1
      have p1 : W4.cell? ⟨P, 1, none⟩ = some (.int .i64 a.f1) := (blk_cell hP 1).trans rfl
      have p2 : W4.cell? ⟨P, 2, none⟩ = some (.int .i64 a.f2.f0) := (blk_cell hP 2).trans rfl
      have p3 : W4.cell? ⟨P, 3, none⟩ = some (.int .i64 a.f2.f1) := (blk_cell hP 3).trans rfl
      have q1 : W4.cell? ⟨Q, 1, none⟩ = some (.int .i64 b.f1) := (blk_cell hQ 1).trans rfl
      have q2 : W4.cell? ⟨Q, 2, none⟩ = some (.int .i64 b.f2.f0) := (blk_cell hQ 2).trans rfl
      have q3 : W4.cell? ⟨Q, 3, none⟩ = some (.int .i64 b.f2.f1) := (blk_cell hQ 3).trans rfl
      have t2 : W4.cell? ⟨S, 2, none⟩ = some (.bool there) := (blk_cell hT 2).trans rfl
      have t3 : W4.cell? ⟨S, 3, none⟩ = some (.int .u8 part) := (blk_cell hT 3).trans rfl
      clear hV hP hQ hT t1 HV3 HT3 HP3 HC3 HB2 HB3
      by_cases hth : there = true ∧ a.f1 = b.f1
      · have HPF : Aside0 (placeF xs ys there part id = some (btw (hold a.f2.f0) (hold b.f2.f0) part, btw (hold a.f2.f1) (hold b.f2.f1) part)) := ⟨by unfold placeF; rw [hx]; simp only; rw [hy]; simp only; rw [if_pos hth]⟩
        obtain ⟨hth1, hth2⟩ := hth
        have HZ := Aside0.mk (zvBetween a.f2.f0 a.f2.f1 b.f2.f0 b.f2.f1 hp.1 hp.2)
        clear hx hy
        subst hth1
        rw [hth2] at p1
        clear hth2
        go_wp2_with (go_at_call 45; (with_reducible refine (vec_Between.calls _ _ _ _ _ _ _ _ HZ.out).mono ?_); rintro e w5 ⟨he, hb5⟩; subst he; have HB5 := Aside0.mk (HB4.out.trans (hb5.mono (by have := HB4.out.size; have := HS.out; omega))); have hV5 := blk_below HV4.out hb5; have HV5 := Aside0.mk hV5; have v50 : w5.cell? ⟨S + 1, 0, none⟩ = some (.int .i64 0) := (blk_cell hV5 0).trans rfl; have v51 : w5.cell? ⟨S + 1, 1, none⟩ = some (.int .i64 0) := (blk_cell hV5 1).trans rfl; have g50 : w5.frozen? ⟨S + 1, 0, none⟩ = false := blk_frozen hV5 0; have g51 : w5.frozen? ⟨S + 1, 1, none⟩ = false := blk_frozen hV5 1; clear hb5 hV5)
        refine bodyPost_ret (results_ct rfl _ _ (S + 1) 28 #[.int .i64 (btw (hold a.f2.f0) (hold b.f2.f0) part), .int .i64 (btw (hold a.f2.f1) (hold b.f2.f1) part)] (0, 0) _ rfl (put2 HV5.out _ _) Try.underlying28 rfl (by kernel_rfl)) rfl ?_
        refine ⟨by rw [HPF.out]; rfl, ?_⟩
        rw [HS.out]
        exact low2 HB5.out (by omega) _ _
      · have HPF : Aside0 (placeF xs ys there part id = some (a.f2.f0, a.f2.f1)) := ⟨by unfold placeF; rw [hx]; simp only; rw [hy]; simp only; rw [if_neg hth]⟩
        clear hx hy
        by_cases hth1 : there = true
        · have hth2 : ¬ a.f1 = b.f1 := fun h => hth ⟨hth1, h⟩
          subst hth1
          clear hth
          go_wp2_with fail
          refine bodyPost_ret (results_ct rfl _ _ (S + 1) 28 #[.int .i64 a.f2.f0, .int .i64 a.f2.f1] (0, 0) _ rfl (put2 HV4.out _ _) Try.underlying28 rfl (by kernel_rfl)) rfl ?_
          refine ⟨by rw [HPF.out]; rfl, ?_⟩
          rw [HS.out]
          exact low2 HB4.out (by omega) _ _
        · have hth3 : there = false := by simpa using hth1
          subst hth3
          clear hth
          go_wp2_with fail
          refine bodyPost_ret (results_ct rfl _ _ (S + 1) 28 #[.int .i64 a.f2.f0, .int .i64 a.f2.f1] (0, 0) _ rfl (put2 HV4.out _ _) Try.underlying28 rfl (by kernel_rfl)) rfl ?_
          refine ⟨by rw [HPF.out]; rfl, ?_⟩
          rw [HS.out]
          exact low2 HB4.out (by omega) _ _
end Go.Proofs.Ytcbmkhogmdkpdaa.Ring
