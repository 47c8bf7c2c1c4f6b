import Derived.Test.YtcbmkhogmdkpdaaRAround
import Derived.Test.YtcbmkhogmdkpdaaRLook
set_option linter.unusedVariables false
set_option linter.unusedSimpArgs false
namespace Go.Proofs.Ytcbmkhogmdkpdaa.Ring
open Go.RowKit Go.ChangeMaps Go.Proofs.YtcbmkhogmdkpdaaW.PrintWords Go.Proofs.YtcbmkhogmdkpdaaW.PrintLast Go.Proofs.YtcbmkhogmdkpdaaW.PrintMore Go.Proofs.Ytcbmkhogmdkpdaa.PRewindNone Go.Proofs.Ytcbmkhogmdkpdaa.MapI Go.Proofs.Ytcbmkhogmdkpdaa.Plain Go.Proofs.Ytcbmkhogmdkpdaa.Pure
theorem far_of {w : World} {S B o t : Nat} {a b v : Value} (hN : w.heap[S]? = some (.cells #[a, b] t (0, 0))) (h : w.cell? ⟨B, o + 2, none⟩ = some v) : B ≠ S := by
  rintro rfl
  rw [blk_cell hN] at h
  simp at h
theorem far_of' {w : World} {S B o t : Nat} {a b v : Value} (hN : w.heap[S]? = some (.cells #[a, b] t (0, 0))) (h : w.cell? ⟨B, o + 3, none⟩ = some v) : B ≠ S := by
  rintro rfl
  rw [blk_cell hN] at h
  simp at h
theorem placeF_none {xs ys : List S67} {there : Bool} {part id : Int} (h : liv id xs = none) : placeF xs ys there part id = none := by
  unfold placeF; rw [h]
theorem placeF_one {xs ys : List S67} {there : Bool} {part id : Int} {a : S67} (h : liv id xs = some a) (h2 : liv id ys = none) : placeF xs ys there part id = some (a.f2.f0, a.f2.f1) := by
  unfold placeF; rw [h]; simp only; rw [h2]
theorem placeF_off {xs ys : List S67} {there : Bool} {part id : Int} {a b : S67} (h : liv id xs = some a) (h2 : liv id ys = some b) (h3 : ¬ a.f1 = b.f1) : placeF xs ys there part id = some (a.f2.f0, a.f2.f1) := by
  unfold placeF; rw [h]; simp only; rw [h2]; simp only; rw [if_neg (fun h => h3 h.2)]
theorem placeF_on {xs ys : List S67} {there : Bool} {part id : Int} {a b : S67} (h : liv id xs = some a) (h2 : liv id ys = some b) (h3 : a.f1 = b.f1) (h4 : there = true) : placeF xs ys there part id = some (btw (hold a.f2.f0) (hold b.f2.f0) part, btw (hold a.f2.f1) (hold b.f2.f1) part) := by
  unfold placeF; rw [h]; simp only; rw [h2]; simp only; rw [if_pos ⟨h4, h3⟩]
set_option maxHeartbeats 4000000 in
set_option maxRecDepth 100000 in
theorem RefAt.place {w : World} {C : Nat} {its : List S51} (h : RefAt w C its) (id view part : Int) (hp : 0 ≤ part ∧ part ≤ 255) : Calls Try.prog 33 #[.pointer (some ⟨C, 0, none⟩), .int .i64 id, .int .i64 view, .int .u8 part] w fun e w' => e = .returned (.tuple #[.agg #[.int .i64 ((placeR (ticksOf its) (listsOf its) view part id).getD (0, 0)).1, .int .i64 ((placeR (ticksOf its) (listsOf its) view part id).getD (0, 0)).2], .bool (placeR (ticksOf its) (listsOf its) view part id).isSome]) ∧ Below w.heap.size w w' := by
  have hl1 := h.len (heldF (ticksOf its) view)
  have hl2 := h.len (heldF (ticksOf its) view + 1)
  have hbd := h.held_bd view
  have HB := Aside0.mk (below_alloc (Below.refl w.heap.size w) (.cells #[.int .i64 0, .int .i64 0] 28 (0, 0)))
  have HN := Aside0.mk (blk_new w (.cells #[.int .i64 0, .int .i64 0] 28 (0, 0)))
  have HH := Aside0.mk (h.below HB.out)
  clear h
  have hyes : (look (heldF (ticksOf its) view + 1) (ticksOf its) (listsOf its)).isSome = true ∨ (look (heldF (ticksOf its) view + 1) (ticksOf its) (listsOf its)).getD [] = [] := by
    cases look (heldF (ticksOf its) view + 1) (ticksOf its) (listsOf its) with
    | none => exact .inr rfl
    | some l => exact .inl rfl
  obtain ⟨o, ho⟩ : ∃ o, o = placeR (ticksOf its) (listsOf its) view part id := ⟨_, rfl⟩
  rw [← ho]
  unfold placeR at ho
  obtain ⟨v, hv⟩ : ∃ v, v = heldF (ticksOf its) view := ⟨_, rfl⟩
  rw [← hv] at hl1 hl2 hbd ho hyes
  have HV := Aside0.mk hv
  clear hv
  obtain ⟨xs, hxs⟩ : ∃ xs, xs = (look v (ticksOf its) (listsOf its)).getD [] := ⟨_, rfl⟩
  obtain ⟨ys, hys⟩ : ∃ ys, ys = (look (v + 1) (ticksOf its) (listsOf its)).getD [] := ⟨_, rfl⟩
  rw [← hxs] at hl1 ho
  rw [← hys] at hl2 ho hyes
  have HYE := Aside0.mk hyes
  have HO := Aside0.mk ho
  have HXS := Aside0.mk hxs
  have HYS := Aside0.mk hys
  clear hxs hys ho hyes
  go_enter Try.func33, Try.ntmps33
  go_upto_region 1 with fail
  obtain ⟨S, hS⟩ : ∃ S, w.heap.size = S := ⟨_, rfl⟩
  have HS := Aside0.mk hS
  rw [hS] at HN
  rw [hS]
  clear hS
  generalize w.alloc (.cells #[.int .i64 0, .int .i64 0] 28 (0, 0)) = W1 at *
  go_upto_region 4 with (first | (go_at_call 32; (with_reducible refine (HH.out.held view).mono ?_); rintro e w2 ⟨he, hb⟩; (rw [← HV.out] at he); subst he; have HB2 := Aside0.mk (HB.out.trans (hb.mono HB.out.size)); have HH2 := Aside0.mk (HH.out.below hb); have HN2 := Aside0.mk (blk_below HN.out hb); clear hb) | (go_at_call 31; (with_reducible refine (HH2.out.get v).mono ?_); rintro e w3 ⟨A, c, he, hw, hC⟩; (rw [← HXS.out] at he hC); subst he; subst hw; have HC := Aside0.mk hC; clear hC) | (go_at_call 46; (with_reducible refine (lives_any A xs.length c xs id _ HC.out hl1).mono ?_); rintro e w4 ⟨he, hb⟩; subst he; have HB4 := Aside0.mk (HB2.out.trans (hb.mono HB2.out.size)); have HH4 := Aside0.mk (HH2.out.below hb); have HN4 := Aside0.mk (blk_below HN2.out hb); have HC4 := Aside0.mk (Kd.C_below HC.out hb); clear hb))
  rcases livK_ways id xs with ⟨hx1, hx2⟩ | ⟨j, hj, hx2, hx1⟩
  · rw [hx2]
    have HPF := Aside0.mk (placeF_none (ys := ys) (there := (look (v + 1) (ticksOf its) (listsOf its)).isSome) (part := part) hx1)
    clear hx1 hx2
    have q0 : w4.cell? ⟨S, 0, none⟩ = some (.int .i64 0) := (blk_cell HN4.out 0).trans rfl
    have q1 : w4.cell? ⟨S, 1, none⟩ = some (.int .i64 0) := (blk_cell HN4.out 1).trans rfl
    have g0 : w4.frozen? ⟨S, 0, none⟩ = false := blk_frozen HN4.out 0
    have g1 : w4.frozen? ⟨S, 1, none⟩ = false := blk_frozen HN4.out 1
    go_wp2_with fail
    refine bodyPost_ret (results_ct rfl _ _ S 28 #[.int .i64 0, .int .i64 0] (0, 0) _ rfl (put2 HN4.out _ _) Try.underlying28 rfl (by kernel_rfl)) rfl ?_
    refine ⟨by rw [HO.out, HPF.out]; rfl, ?_⟩
    exact low2 HB4.out (by have := HS.out; omega) _ _
  · rw [hx2]
    have HX1 := Aside0.mk hx1
    clear hx1 hx2
    have hj0 : (0 : Int) ≤ j := by omega
    have hj2 : (j : Int) < (xs.length : Int) := by omega
    go_upto_region 8 with (first | (go_at_call 31; (with_reducible refine (HH4.out.get (v + 1)).mono ?_); rintro e w5 ⟨A2, c2, he, hw, hC⟩; (rw [← HYS.out] at he hC); subst he; subst hw; have HD := Aside0.mk hC; clear hC) | (go_at_call 46; (with_reducible refine (lives_any A2 ys.length c2 ys id _ HD.out hl2).mono ?_); rintro e w6 ⟨he, hb⟩; subst he; have HB6 := Aside0.mk (HB4.out.trans (hb.mono HB4.out.size)); have HN6 := Aside0.mk (blk_below HN4.out hb); have HC6 := Aside0.mk (Kd.C_below HC4.out hb); have HD6 := Aside0.mk (Kd.C_below HD.out hb); clear hb))
    obtain ⟨ad, e, x0, x1, x2, x3, x4, x5, x6, x7⟩ := at_T67 HC6.out (j : Int) (by omega) (by omega)
    cases e
    simp only [Int.toNat_natCast] at x0 x1 x2 x3 x4 x5 x6 x7
    obtain ⟨a, ha⟩ : ∃ a, a = rd_T67 xs (j : Int) := ⟨_, rfl⟩
    rw [← ha] at x0 x1 x2 x3 x4 x5 x6 x7 HX1
    clear ha x0 x4 x5 x6 x7
    have q0 : w6.cell? ⟨S, 0, none⟩ = some (.int .i64 0) := (blk_cell HN6.out 0).trans rfl
    have q1 : w6.cell? ⟨S, 1, none⟩ = some (.int .i64 0) := (blk_cell HN6.out 1).trans rfl
    have g0 : w6.frozen? ⟨S, 0, none⟩ = false := blk_frozen HN6.out 0
    have g1 : w6.frozen? ⟨S, 1, none⟩ = false := blk_frozen HN6.out 1
    rcases livK_ways id ys with ⟨hx1, hx2⟩ | ⟨i, hi, hx2, hy1⟩
    · rw [hx2]
      have HPF := Aside0.mk (placeF_one (there := (look (v + 1) (ticksOf its) (listsOf its)).isSome) (part := part) HX1.out hx1)
      clear hx1 hx2
      go_cut [56] (fun v56 wx => v56 = .bool true ∧ Aside0 (Below w6.heap.size w6 wx))
      case first =>
        go_quiet (fail)
        go_wp2_with fail
        go_meet
        exact ⟨rfl, ⟨by repeat (first | exact Below.refl _ _ | apply below_drew | apply pw_below_drewN)⟩⟩
      case rest =>
        obtain ⟨rfl, HBc⟩ := hcut
        generalize wc = Wc at *
        have HB7 := Aside0.mk (HB6.out.trans (HBc.out.mono HB6.out.size))
        have HN7 := Aside0.mk (blk_below HN6.out HBc.out)
        have x2c := cell_kept x2 (Kept.of_below HBc.out (fun _ => False)) (fun h => h)
        have x3c := cell_kept x3 (Kept.of_below HBc.out (fun _ => False)) (fun h => h)
        clear q0 q1 g0 g1 x1 x2 x3
        have q0 : Wc.cell? ⟨S, 0, none⟩ = some (.int .i64 0) := (blk_cell HN7.out 0).trans rfl
        have q1 : Wc.cell? ⟨S, 1, none⟩ = some (.int .i64 0) := (blk_cell HN7.out 1).trans rfl
        have g0 : Wc.frozen? ⟨S, 0, none⟩ = false := blk_frozen HN7.out 0
        have g1 : Wc.frozen? ⟨S, 1, none⟩ = false := blk_frozen HN7.out 1
        go_wp2_with fail
        refine bodyPost_ret (results_ct rfl _ _ S 28 #[.int .i64 a.f2.f0, .int .i64 a.f2.f1] (0, 0) _ rfl (put2 HN7.out _ _) Try.underlying28 rfl (by kernel_rfl)) rfl ?_
        refine ⟨by rw [HO.out, HPF.out]; rfl, ?_⟩
        exact low2 HB7.out (by have := HS.out; omega) _ _
    · rw [hx2]
      have HY1 := Aside0.mk hy1
      clear hy1 hx2
      have hi0 : (0 : Int) ≤ i := by omega
      have hi2 : (i : Int) < (ys.length : Int) := by omega
      obtain ⟨ad2, e, y0, y1, y2, y3, y4, y5, y6, y7⟩ := at_T67 HD6.out (i : Int) (by omega) (by omega)
      cases e
      simp only [Int.toNat_natCast] at y0 y1 y2 y3 y4 y5 y6 y7
      obtain ⟨b, hb⟩ : ∃ b, b = rd_T67 ys (i : Int) := ⟨_, rfl⟩
      rw [← hb] at y0 y1 y2 y3 y4 y5 y6 y7 HY1
      have HTH : Aside0 ((look (v + 1) (ticksOf its) (listsOf its)).isSome = true) := ⟨by
        rcases HYE.out with h | h
        · exact h
        · rw [h] at hi; simp at hi⟩
      clear hb y0 y4 y5 y6 y7
      have Y2 := Aside0.mk y2
      have Y3 := Aside0.mk y3
      clear y2 y3
      by_cases hk : a.f1 = b.f1
      · have HPF := Aside0.mk (placeF_on (part := part) HX1.out HY1.out hk HTH.out)
        have hk1 : (b.f1 == a.f1) = true := beq_iff_eq.2 hk.symm
        have hk2 : (b.f1 != a.f1) = false := by rw [bne, hk1]; rfl
        clear hk
        go_cut [56] (fun v56 wx => v56 = .bool false ∧ Aside0 (Below w6.heap.size w6 wx))
        case first =>
          go_quiet (fail)
          go_wp2_with fail
          go_meet
          exact ⟨rfl, ⟨by repeat (first | exact Below.refl _ _ | apply below_drew | apply pw_below_drewN)⟩⟩
        case rest =>
          obtain ⟨rfl, HBc⟩ := hcut
          generalize wc = Wc at *
          have HB7 := Aside0.mk (HB6.out.trans (HBc.out.mono HB6.out.size))
          have HN7 := Aside0.mk (blk_below HN6.out HBc.out)
          have x2c := cell_kept x2 (Kept.of_below HBc.out (fun _ => False)) (fun h => h)
          have x3c := cell_kept x3 (Kept.of_below HBc.out (fun _ => False)) (fun h => h)
          clear q0 q1 g0 g1 x1 x2 x3 y1
          have q0 : Wc.cell? ⟨S, 0, none⟩ = some (.int .i64 0) := (blk_cell HN7.out 0).trans rfl
          have q1 : Wc.cell? ⟨S, 1, none⟩ = some (.int .i64 0) := (blk_cell HN7.out 1).trans rfl
          have g0 : Wc.frozen? ⟨S, 0, none⟩ = false := blk_frozen HN7.out 0
          have g1 : Wc.frozen? ⟨S, 1, none⟩ = false := blk_frozen HN7.out 1
          have Y2c := Aside0.mk (cell_kept Y2.out (Kept.of_below HBc.out (fun _ => False)) (fun h => h))
          have Y3c := Aside0.mk (cell_kept Y3.out (Kept.of_below HBc.out (fun _ => False)) (fun h => h))
          have y2c := Y2c.out
          have y3c := Y3c.out
          have hn2 := far_of HN7.out x2c
          have hn3 := far_of' HN7.out x3c
          have hm2 := far_of HN7.out y2c
          have hm3 := far_of' HN7.out y3c
          go_upto_region 10 with fail
          go_region_held3 (fun w' => w'.cell? ⟨(ad.add (j * 8)).block, (ad.add (j * 8)).off + 2, none⟩ = some (.int .i64 a.f2.f0) ∧ w'.cell? ⟨(ad.add (j * 8)).block, (ad.add (j * 8)).off + 3, none⟩ = some (.int .i64 a.f2.f1) ∧ w'.cell? ⟨(ad2.add (i * 8)).block, (ad2.add (i * 8)).off + 2, none⟩ = some (.int .i64 b.f2.f0) ∧ w'.cell? ⟨(ad2.add (i * 8)).block, (ad2.add (i * 8)).off + 3, none⟩ = some (.int .i64 b.f2.f1)) (first | (refine ⟨?_, ?_, ?_, ?_⟩ <;> assumption) | (refine ⟨far2 x2c8 hn2 _ _, far2 x3c8 hn3 _ _, far2 y2c8 hm2 _ _, far2 y3c8 hm3 _ _⟩) | go_keep) (first | (go_at_call 47; (with_reducible refine (rvbtw_any a.f2.f0 a.f2.f1 b.f2.f0 b.f2.f1 part hp _).mono ?_); rintro e w8 ⟨he, hb⟩; subst he; have HB8 := Aside0.mk (below_thru (w0 := w) hb (by (with_reducible repeat (first | exact HB7.out | apply below_drew)))); have HN8 := Aside0.mk (blk_below (g := S) (o := .cells #[.int .i64 0, .int .i64 0] 28 (0, 0)) (by with_reducible first | exact HN7.out | exact blk_drew HN7.out) hb); have HK8 := below_thru (w0 := Wc) hb (by (with_reducible repeat (first | exact Below.refl _ _ | apply below_drew))); have x2c8 := cell_kept x2c (Kept.of_below HK8 (fun _ => False)) (fun h => h); have x3c8 := cell_kept x3c (Kept.of_below HK8 (fun _ => False)) (fun h => h); have y2c8 := cell_kept y2c (Kept.of_below HK8 (fun _ => False)) (fun h => h); have y3c8 := cell_kept y3c (Kept.of_below HK8 (fun _ => False)) (fun h => h); have q08 : w8.cell? ⟨S, 0, none⟩ = some (.int .i64 0) := (blk_cell HN8.out 0).trans rfl; have g08 : w8.frozen? ⟨S, 0, none⟩ = false := blk_frozen HN8.out 0; have q18 : w8.cell? ⟨S, 1, none⟩ = some (.int .i64 0) := (blk_cell HN8.out 1).trans rfl; have g18 : w8.frozen? ⟨S, 1, none⟩ = false := blk_frozen HN8.out 1; clear hb))
          all_goals
            go_wp2_with fail
            refine bodyPost_ret (results_ct rfl _ _ S 28 #[.int .i64 (btw (hold a.f2.f0) (hold b.f2.f0) part), .int .i64 (btw (hold a.f2.f1) (hold b.f2.f1) part)] (0, 0) _ rfl (put2 HN8.out _ _) Try.underlying28 rfl (by kernel_rfl)) rfl ?_
            refine ⟨by rw [HO.out, HPF.out]; rfl, ?_⟩
            exact low2 HB8.out (by have := HS.out; omega) _ _
      · have HPF := Aside0.mk (placeF_off (there := (look (v + 1) (ticksOf its) (listsOf its)).isSome) (part := part) HX1.out HY1.out hk)
        have hk1 : (b.f1 == a.f1) = false := beq_eq_false_iff_ne.2 (fun h => hk h.symm)
        have hk2 : (b.f1 != a.f1) = true := by rw [bne, hk1]; rfl
        clear hk
        go_cut [56] (fun v56 wx => v56 = .bool true ∧ Aside0 (Below w6.heap.size w6 wx))
        case first =>
          go_quiet (fail)
          go_wp2_with fail
          go_meet
          exact ⟨rfl, ⟨by repeat (first | exact Below.refl _ _ | apply below_drew | apply pw_below_drewN)⟩⟩
        case rest =>
          obtain ⟨rfl, HBc⟩ := hcut
          generalize wc = Wc at *
          have HB7 := Aside0.mk (HB6.out.trans (HBc.out.mono HB6.out.size))
          have HN7 := Aside0.mk (blk_below HN6.out HBc.out)
          have x2c := cell_kept x2 (Kept.of_below HBc.out (fun _ => False)) (fun h => h)
          have x3c := cell_kept x3 (Kept.of_below HBc.out (fun _ => False)) (fun h => h)
          clear q0 q1 g0 g1 x1 x2 x3 y1
          have q0 : Wc.cell? ⟨S, 0, none⟩ = some (.int .i64 0) := (blk_cell HN7.out 0).trans rfl
          have q1 : Wc.cell? ⟨S, 1, none⟩ = some (.int .i64 0) := (blk_cell HN7.out 1).trans rfl
          have g0 : Wc.frozen? ⟨S, 0, none⟩ = false := blk_frozen HN7.out 0
          have g1 : Wc.frozen? ⟨S, 1, none⟩ = false := blk_frozen HN7.out 1
          go_wp2_with fail
          refine bodyPost_ret (results_ct rfl _ _ S 28 #[.int .i64 a.f2.f0, .int .i64 a.f2.f1] (0, 0) _ rfl (put2 HN7.out _ _) Try.underlying28 rfl (by kernel_rfl)) rfl ?_
          refine ⟨by rw [HO.out, HPF.out]; rfl, ?_⟩
          exact low2 HB7.out (by have := HS.out; omega) _ _
end Go.Proofs.Ytcbmkhogmdkpdaa.Ring
