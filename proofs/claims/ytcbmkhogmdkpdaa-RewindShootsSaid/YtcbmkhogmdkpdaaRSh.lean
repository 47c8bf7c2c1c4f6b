import Derived.Test.YtcbmkhogmdkpdaaRMt
import Derived.Test.YtcbmkhogmdkpdaaRPlr
import Derived.Test.YtcbmkhogmdkpdaaRShoot
set_option linter.unusedVariables false
set_option linter.unusedSimpArgs false
namespace Go.Proofs.Ytcbmkhogmdkpdaa.Ring
open Go.RowKit Go.ChangeMaps Go.Proofs.YtcbmkhogmdkpdaaW.PrintWords Go.Proofs.YtcbmkhogmdkpdaaW.PrintLast Go.Proofs.YtcbmkhogmdkpdaaW.PrintMore Go.Proofs.Ytcbmkhogmdkpdaa.PRewindNone Go.Proofs.Ytcbmkhogmdkpdaa.MapI Go.Proofs.Ytcbmkhogmdkpdaa.Plain Go.Proofs.Ytcbmkhogmdkpdaa.Pure
theorem rfold_next (fx fy tx ty shooter : Int) (pl : Int → Option (Int × Int)) (xs : List S67) {k : Nat} (h : k < xs.length) : ((xs.take (k + 1)).map (·.f0)).foldl (refStep fx fy tx ty pl shooter) (-1, 0, 0) = refStep fx fy tx ty pl shooter (((xs.take k).map (·.f0)).foldl (refStep fx fy tx ty pl shooter) (-1, 0, 0)) (rd_T67 xs (k : Int)).f0 := by
  rw [List.take_succ_eq_append_getElem h, List.map_append, List.foldl_append]
  simp [rd_T67, List.getD, List.getElem?_eq_getElem h]
theorem meetF_off {fx fy tx ty : Int} (h : ¬ (fmd fx fy = true ∧ fmd tx ty = true)) (p : Int × Int) : (meetF fx fy tx ty p).2 = false := by
  unfold meetF mtt
  rw [if_neg (fun g => h ⟨g.1, g.2.1⟩)]
theorem refStep_off {fx fy tx ty shooter : Int} {pl : Int → Option (Int × Int)} (h : ¬ (fmd fx fy = true ∧ fmd tx ty = true)) (st : Int × Int × Int) (id : Int) : refStep fx fy tx ty pl shooter st id = st := by
  unfold refStep
  cases pl id with
  | none => rfl
  | some p =>
    simp only
    split
    · rfl
    · unfold refHit
      rw [if_neg (fun g => by rw [meetF_off h p] at g; exact Bool.false_ne_true g.1)]
theorem rfold_off {fx fy tx ty shooter : Int} {pl : Int → Option (Int × Int)} (h : ¬ (fmd fx fy = true ∧ fmd tx ty = true)) : ∀ (l : List Int) (st : Int × Int × Int), l.foldl (refStep fx fy tx ty pl shooter) st = st
  | [], _ => rfl
  | id :: l, st => by
    rw [List.foldl_cons, refStep_off h]
    exact rfold_off h l st
theorem shotF_ref {ts : List Int} {ls : List (List S67)} (shooter fx fy dx dy view part : Int) (hid : ∀ e, e ∈ (look (heldF ts view) ts ls).getD [] → 1 ≤ e.f0) : shotF ts ls shooter fx fy dx dy view part = ((((look (heldF ts view) ts ls).getD []).map (·.f0)).foldl (refStep fx fy (hold (hold fx + hold dx)) (hold (hold fy + hold dy)) (placeR ts ls view part) shooter) (-1, 0, 0)).1 := by
  unfold shotF
  by_cases hf : fmd fx fy = true ∧ fmd (hold (hold fx + hold dx)) (hold (hold fy + hold dy)) = true
  · rw [if_pos hf, refFold_eq _ _ _ _ _ _ _ [] _ (.inl ⟨rfl, by simp⟩) (fun id h => by obtain ⟨e, he, rfl⟩ := List.mem_map.1 h; exact hid e he)]
  · rw [if_neg hf, rfold_off hf]
theorem refStep_none {fx fy tx ty shooter : Int} {pl : Int → Option (Int × Int)} {st : Int × Int × Int} {id : Int} (h : pl id = none) : refStep fx fy tx ty pl shooter st id = st := by
  unfold refStep; rw [h]
theorem refStep_self {fx fy tx ty shooter : Int} {pl : Int → Option (Int × Int)} {st : Int × Int × Int} {id : Int} {p : Int × Int} (h : pl id = some p) (h2 : id = shooter) : refStep fx fy tx ty pl shooter st id = st := by
  unfold refStep; rw [h]; simp only; rw [if_pos h2]
theorem refStep_some {fx fy tx ty shooter : Int} {pl : Int → Option (Int × Int)} {st : Int × Int × Int} {id : Int} {p : Int × Int} (h : pl id = some p) (h2 : ¬ id = shooter) : refStep fx fy tx ty pl shooter st id = refHit (meetF fx fy tx ty p) id st := by
  unfold refStep; rw [h]; simp only; rw [if_neg h2]
theorem refHit_yes {mn md hit fn fd id : Int} (h : hit < 0 ∨ mn * fd < fn * md ∨ (mn * fd = fn * md ∧ id < hit)) : refHit ((mn, md), true) id (hit, fn, fd) = (id, mn, md) := by
  unfold refHit; rw [if_pos ⟨rfl, h⟩]
theorem refHit_no {mn md hit fn fd id : Int} {mb : Bool} (h : ¬ (mb = true ∧ (hit < 0 ∨ mn * fd < fn * md ∨ (mn * fd = fn * md ∧ id < hit)))) : refHit ((mn, md), mb) id (hit, fn, fd) = (hit, fn, fd) := by
  unfold refHit; rw [if_neg h]
set_option maxHeartbeats 8000000 in
set_option maxRecDepth 100000 in
theorem RefAt.shot {w : World} {C : Nat} {its : List S51} (h : RefAt w C its) (shooter fx fy dx dy view part : Int) (hp : 0 ≤ part ∧ part ≤ 255) (hid : ∀ e, e ∈ (look (heldF (ticksOf its) view) (ticksOf its) (listsOf its)).getD [] → 1 ≤ e.f0) : Calls Try.prog 12 #[.pointer (some ⟨C, 0, none⟩), .int .i64 shooter, .agg #[.int .i64 fx, .int .i64 fy], .agg #[.int .i64 dx, .int .i64 dy], .int .i64 view, .int .u8 part] w fun e w' => e = .returned (.int .i64 (shotF (ticksOf its) (listsOf its) shooter fx fy dx dy view part)) ∧ Below w.heap.size w w' := by
  have HSF := Aside0.mk (shotF_ref (ts := ticksOf its) (ls := listsOf its) shooter fx fy dx dy view part hid)
  have hl1 := h.len (heldF (ticksOf its) view)
  have HH := Aside0.mk h
  clear h hid
  obtain ⟨pl, hpl⟩ : ∃ pl, pl = placeR (ticksOf its) (listsOf its) view part := ⟨_, rfl⟩
  rw [← hpl] at HSF
  have HPL := Aside0.mk hpl
  obtain ⟨v, hv⟩ : ∃ v, v = heldF (ticksOf its) view := ⟨_, rfl⟩
  rw [← hv] at hl1 HSF
  have HV := Aside0.mk hv
  obtain ⟨xs, hxs⟩ : ∃ xs, xs = (look v (ticksOf its) (listsOf its)).getD [] := ⟨_, rfl⟩
  rw [← hxs] at hl1 HSF
  have HXS := Aside0.mk hxs
  obtain ⟨out, hout⟩ : ∃ o, o = shotF (ticksOf its) (listsOf its) shooter fx fy dx dy view part := ⟨_, rfl⟩
  rw [← hout] at HSF ⊢
  obtain ⟨tx, htx⟩ : ∃ x, x = hold (hold fx + hold dx) := ⟨_, rfl⟩
  obtain ⟨ty, hty⟩ : ∃ x, x = hold (hold fy + hold dy) := ⟨_, rfl⟩
  rw [← htx, ← hty] at HSF
  have HT := Aside0.mk (And.intro htx hty)
  clear hpl hv hxs hout htx hty
  have hK0 := blk_alloc (blk_new w (.cells #[.int .i64 fx, .int .i64 fy] 28 (0, 0))) (.cells #[.int .i64 dx, .int .i64 dy] 28 (0, 0))
  have HK0 := Aside0.mk hK0
  have hK1 := blk_new (w.alloc (.cells #[.int .i64 fx, .int .i64 fy] 28 (0, 0))) (.cells #[.int .i64 dx, .int .i64 dy] 28 (0, 0))
  rw [show (w.alloc (.cells #[.int .i64 fx, .int .i64 fy] 28 (0, 0))).heap.size = w.heap.size + 1 by simp] at hK1
  have HK1 := Aside0.mk hK1
  have HB := Aside0.mk (below_alloc (below_alloc (Below.refl w.heap.size w) (.cells #[.int .i64 fx, .int .i64 fy] 28 (0, 0))) (.cells #[.int .i64 dx, .int .i64 dy] 28 (0, 0)))
  clear hK0 hK1
  go_enter Try.func12, Try.ntmps12
  go_upto_region 1 with fail
  generalize ((w.alloc (.cells #[.int .i64 fx, .int .i64 fy] 28 (0, 0))).alloc (.cells #[.int .i64 dx, .int .i64 dy] 28 (0, 0))) = W1 at *
  obtain ⟨S, hS⟩ : ∃ S, w.heap.size = S := ⟨_, rfl⟩
  have HSS := Aside0.mk hS
  rw [hS] at HK0 HK1
  try rw [hS]
  clear hS
  have b0c0 : W1.cell? ⟨S, 0, none⟩ = some (.int .i64 fx) := (blk_cell HK0.out 0).trans rfl
  have b0c1 : W1.cell? ⟨S, 1, none⟩ = some (.int .i64 fy) := (blk_cell HK0.out 1).trans rfl
  have b1c0 : W1.cell? ⟨S + 1, 0, none⟩ = some (.int .i64 dx) := (blk_cell HK1.out 0).trans rfl
  have b1c1 : W1.cell? ⟨S + 1, 1, none⟩ = some (.int .i64 dy) := (blk_cell HK1.out 1).trans rfl
  go_upto_region 2 with (go_at_call 19; (with_reducible refine (rvadd_any fx fy dx dy _).mono ?_); rintro e w2 ⟨he, hb⟩; (rw [← HT.out.1, ← HT.out.2] at he); subst he; replace HB := Aside0.mk (HB.out.trans (hb.mono HB.out.size)); clear b0c0 b0c1 b1c0 b1c1; replace HK0 := Aside0.mk (blk_below HK0.out hb); replace HK1 := Aside0.mk (blk_below HK1.out hb); have b0c0 : w2.cell? ⟨S, 0, none⟩ = some (.int .i64 fx) := (blk_cell HK0.out 0).trans rfl; have b0c1 : w2.cell? ⟨S, 1, none⟩ = some (.int .i64 fy) := (blk_cell HK0.out 1).trans rfl; have b1c0 : w2.cell? ⟨S + 1, 0, none⟩ = some (.int .i64 dx) := (blk_cell HK1.out 0).trans rfl; have b1c1 : w2.cell? ⟨S + 1, 1, none⟩ = some (.int .i64 dy) := (blk_cell HK1.out 1).trans rfl; clear hb)
  have hb5 := below_alloc (Below.refl w2.heap.size w2) (.cells #[.int .i64 tx, .int .i64 ty] 28 (0, 0))
  have HTb := Aside0.mk (blk_new w2 (.cells #[.int .i64 tx, .int .i64 ty] 28 (0, 0)))
  have HF3 := Aside0.mk (blk_below HK0.out hb5)
  have HB3 := Aside0.mk (HB.out.trans (hb5.mono HB.out.size))
  clear hb5 b0c0 b0c1 b1c0 b1c1 HK0 HK1
  generalize w2.alloc (.cells #[.int .i64 tx, .int .i64 ty] 28 (0, 0)) = W2 at *
  generalize w2.heap.size = T at *
  have HH3 := Aside0.mk (HH.out.below HB3.out)
  go_upto_region 4 with (first | (go_at_call 32; (with_reducible refine (HH3.out.held view).mono ?_); rintro e w4 ⟨he, hb⟩; (rw [← HV.out] at he); subst he; have HB4 := Aside0.mk (HB3.out.trans (hb.mono HB3.out.size)); have HH4 := Aside0.mk (HH3.out.below hb); have HF4 := Aside0.mk (blk_below HF3.out hb); have HT4 := Aside0.mk (blk_below HTb.out hb); clear hb) | (go_at_call 31; (with_reducible refine (HH4.out.get v).mono ?_); rintro e w5 ⟨A1, c1, he, hw, hC⟩; (rw [← HXS.out] at he hC); subst he; subst hw; have HC := Aside0.mk hC; clear hC))
  clear HB HB3 HH3 HF3 HTb
  have H8 := Aside0.mk (below_alloc (Below.refl w5.heap.size w5) (.cells #[.int .i64 0, .int .i64 0] 86 (0, 0)))
  have H9 := Aside0.mk (blk_new w5 (.cells #[.int .i64 0, .int .i64 0] 86 (0, 0)))
  go_upto_region 5 with fail
  generalize hW8 : w5.alloc (.cells #[.int .i64 0, .int .i64 0] 86 (0, 0)) = W8 at *
  clear hW8
  obtain ⟨FB, hFB⟩ : ∃ FB, w5.heap.size = FB := ⟨_, rfl⟩
  have HFB := Aside0.mk hFB
  rw [hFB] at H9
  rw [hFB]
  clear hFB
  go_wp2_with fail
  go_loopg [16, 18] xs.length (fun kq v16 v18 w' => ∃ (k : Nat) (hit fn fd : Int), v16 = .int .i64 hit ∧ v18 = .int .i64 (k : Int) ∧ Aside0 (kq + k = xs.length) ∧ Aside0 (Below w5.heap.size w5 w') ∧ Aside0 (w'.heap[FB]? = some (.cells #[.int .i64 fn, .int .i64 fd] 86 (0, 0))) ∧ Aside0 (((xs.take k).map (·.f0)).foldl (refStep fx fy tx ty pl shooter) (-1, 0, 0) = (hit, fn, fd)) ∧ Aside0 ((0 ≤ fn ∧ fn ≤ 1073741824) ∧ (0 ≤ fd ∧ fd ≤ 1073741824)))
  case atStart => exact ⟨0, -1, 0, 0, rfl, rfl, ⟨rfl⟩, H8, H9, ⟨rfl⟩, ⟨by decide⟩⟩
  case round =>
    obtain ⟨k, hit, fn, fd, rfl, rfl, HK, HR, HQ, HS2, HBD⟩ := hrel
    clear H8 H9
    by_cases hi : (k : Int) < (xs.length : Int)
    · obtain ⟨ad, e, x0, x1, x2, x3, x4, x5, x6, x7⟩ := at_T67 (Kd.C_below HC.out HR.out) (k : Int) (by omega) hi
      cases e
      simp only [Int.toNat_natCast] at x0
      have HNX := Aside0.mk (rfold_next fx fy tx ty shooter pl xs (show k < xs.length by omega))
      rw [HS2.out] at HNX
      have hi1 : (0 : Int) ≤ k := by omega
      have hi3 : k < xs.length := by omega
      obtain ⟨y, hy⟩ : ∃ y, y = (rd_T67 xs (k : Int)).f0 := ⟨_, rfl⟩
      rw [← hy] at x0 HNX
      have HXC : Aside0 (∀ W, Below w5.heap.size w5 W → W.cell? (ad.add (k * 8)) = some (.int .i64 y)) := ⟨fun W hW => by
        obtain ⟨ad', e, z0, _⟩ := at_T67 (Kd.C_below HC.out hW) (k : Int) (by omega) hi
        cases e
        simp only [Int.toNat_natCast, ← hy] at z0
        exact z0⟩
      clear x1 x2 x3 x4 x5 x6 x7 hy
      have HX := Aside0.mk x0
      have HP := Aside0.mk ((HH4.out.below HR.out).place y view part hp)
      rw [← HPL.out] at HP
      cases hplv : pl y with
      | none =>
        rw [hplv] at HP
        have HN2 := Aside0.mk (refStep_none (fx := fx) (fy := fy) (tx := tx) (ty := ty) (shooter := shooter) (st := (hit, fn, fd)) hplv)
        clear hplv
        go_wp2_with (go_at_call 33; (with_reducible refine (HP.out).mono ?_); rintro e w9 ⟨he, hb⟩; simp only [Option.getD_none, Option.isSome_none] at he; subst he; have HR10 := Aside0.mk (HR.out.trans (hb.mono HR.out.size)); have HQ10 := Aside0.mk (blk_below HQ.out hb); clear hb)
        go_roundg (gk - 1)
        case measure => have := HK.out; omega
        case rel => exact ⟨k + 1, hit, fn, fd, rfl, by simp, ⟨by have := HK.out; omega⟩, ⟨lowA HR10.out (Nat.le_refl _) _⟩, ⟨blk_alloc HQ10.out _⟩, ⟨by rw [HNX.out, HN2.out]⟩, HBD⟩
      | some p =>
        rw [hplv] at HP
        have HN1 := Aside0.mk hplv
        clear hplv
        go_upto_region 9 with (go_at_call 33; (with_reducible refine (HP.out).mono ?_); rintro e w9 ⟨he, hb⟩; simp only [Option.getD_some, Option.isSome_some] at he; subst he; have HR10 := Aside0.mk (HR.out.trans (hb.mono HR.out.size)); have HQ10 := Aside0.mk (blk_below HQ.out hb); clear hb)
        have hb5 := below_alloc (Below.refl w9.heap.size w9) (.cells #[.int .i64 p.1, .int .i64 p.2] 28 (0, 0))
        have HPB := Aside0.mk (blk_new w9 (.cells #[.int .i64 p.1, .int .i64 p.2] 28 (0, 0)))
        have HR11 := Aside0.mk (HR10.out.trans (hb5.mono HR10.out.size))
        have HQ11 := Aside0.mk (blk_below HQ10.out hb5)
        clear hb5 x0
        generalize w9.alloc (.cells #[.int .i64 p.1, .int .i64 p.2] 28 (0, 0)) = W10 at *
        generalize w9.heap.size = PB at *
        have x0 := HXC.out _ HR11.out
        by_cases hs : y = shooter
        · have HN2 := Aside0.mk (refStep_self (fx := fx) (fy := fy) (tx := tx) (ty := ty) (st := (hit, fn, fd)) HN1.out hs)
          rw [hs] at x0
          clear hs
          go_wp2_with fail
          go_roundg (gk - 1)
          case measure => have := HK.out; omega
          case rel => exact ⟨k + 1, hit, fn, fd, rfl, by simp, ⟨by have := HK.out; omega⟩, HR11, HQ11, ⟨by rw [HNX.out, HN2.out]⟩, HBD⟩
        · have HN2 := Aside0.mk (refStep_some (fx := fx) (fy := fy) (tx := tx) (ty := ty) (st := (hit, fn, fd)) HN1.out hs)
          go_upto_region 10 with fail
          clear x0 hs
          have HF10 := Aside0.mk (blk_below HF4.out HR11.out)
          have HT10 := Aside0.mk (blk_below HT4.out HR11.out)
          have HRa := Aside0.mk (Below.refl W10.heap.size W10)
          have m0a : W10.cell? ⟨PB, 0, none⟩ = some (.int .i64 p.1) := (blk_cell (HPB.out) 0).trans rfl
          have m1a : W10.cell? ⟨PB, 1, none⟩ = some (.int .i64 p.2) := (blk_cell (HPB.out) 1).trans rfl
          have m2a : W10.cell? ⟨S, 0, none⟩ = some (.int .i64 fx) := (blk_cell (HF10.out) 0).trans rfl
          have m3a : W10.cell? ⟨S, 1, none⟩ = some (.int .i64 fy) := (blk_cell (HF10.out) 1).trans rfl
          have m4a : W10.cell? ⟨T, 0, none⟩ = some (.int .i64 tx) := (blk_cell (HT10.out) 0).trans rfl
          have m5a : W10.cell? ⟨T, 1, none⟩ = some (.int .i64 ty) := (blk_cell (HT10.out) 1).trans rfl
          obtain ⟨m, hm⟩ : ∃ m, m = meetF fx fy tx ty p := ⟨_, rfl⟩
          have HM := Aside0.mk hm
          unfold meetF at HM
          rw [← hm] at HN2
          have HMR := Aside0.mk (show m.2 = true → rght m.1 = true from fun h => by rw [hm] at h ⊢; exact meetF_right h)
          clear hm
          go_cut [21, 22] (fun vp vo wx => ∃ WB : Nat, vp = .pointer (some ⟨WB, 0, none⟩) ∧ vo = .bool m.2 ∧ Aside0 (Below W10.heap.size W10 wx ∧ W10.heap.size ≤ WB) ∧ Aside0 (wx.heap[WB]? = some (.cells #[.int .i64 m.1.1, .int .i64 m.1.2] 86 (0, 0))))
          case first =>
            go_region_held3 (fun w' => w'.cell? ⟨PB, 0, none⟩ = some (.int .i64 p.1) ∧ w'.cell? ⟨PB, 1, none⟩ = some (.int .i64 p.2) ∧ w'.cell? ⟨S, 0, none⟩ = some (.int .i64 fx) ∧ w'.cell? ⟨S, 1, none⟩ = some (.int .i64 fy) ∧ w'.cell? ⟨T, 0, none⟩ = some (.int .i64 tx) ∧ w'.cell? ⟨T, 1, none⟩ = some (.int .i64 ty)) (first | (refine ⟨?_, ?_, ?_, ?_, ?_, ?_⟩ <;> assumption) | (refine ⟨far2 m0c nn2.1 _ _, far2 m1c nn2.1 _ _, far2 m2c nn2.2.1 _ _, far2 m3c nn2.2.1 _ _, far2 m4c nn2.2.2 _ _, far2 m5c nn2.2.2 _ _⟩) | (refine ⟨far2 m0c nn3.1 _ _, far2 m1c nn3.1 _ _, far2 m2c nn3.2.1 _ _, far2 m3c nn3.2.1 _ _, far2 m4c nn3.2.2 _ _, far2 m5c nn3.2.2 _ _⟩) | go_keep) (first | (go_at_call 35; (with_reducible refine (around_any p.1 p.2 24576 _).mono ?_); rintro e w11 ⟨he, hb⟩; subst he; have HRb := Aside0.mk (below_thru (w0 := W10) hb (by (with_reducible repeat (first | exact HRa.out | refine lowA ?_ (Nat.le_refl _) _ | apply below_drew)))); have m0b : w11.cell? ⟨PB, 0, none⟩ = some (.int .i64 p.1) := (blk_cell (blk_below HPB.out HRb.out) 0).trans rfl; have m1b : w11.cell? ⟨PB, 1, none⟩ = some (.int .i64 p.2) := (blk_cell (blk_below HPB.out HRb.out) 1).trans rfl; have m2b : w11.cell? ⟨S, 0, none⟩ = some (.int .i64 fx) := (blk_cell (blk_below HF10.out HRb.out) 0).trans rfl; have m3b : w11.cell? ⟨S, 1, none⟩ = some (.int .i64 fy) := (blk_cell (blk_below HF10.out HRb.out) 1).trans rfl; have m4b : w11.cell? ⟨T, 0, none⟩ = some (.int .i64 tx) := (blk_cell (blk_below HT10.out HRb.out) 0).trans rfl; have m5b : w11.cell? ⟨T, 1, none⟩ = some (.int .i64 ty) := (blk_cell (blk_below HT10.out HRb.out) 1).trans rfl; (try (have zz : w11.heap[W10.heap.size]? = some (.cells #[.int .i64 0, .int .i64 0] 86 (0, 0)) := blk_below (by with_reducible first | exact blk_drew (blk_new W10 _) | exact blk_new W10 _ | exact new_drew W10 _ | exact blk_drew (new_drew W10 _)) hb)); clear hb) | (go_at_call 34; (with_reducible refine (rmeet_any fx fy tx ty _ _ _ _ _).mono ?_); rintro e w12 ⟨he, hb⟩; (rw [← HM.out] at he); subst he; have HRc := Aside0.mk (below_thru (w0 := W10) hb (by (with_reducible repeat (first | exact HRb.out | refine lowA ?_ (Nat.le_refl _) _ | apply below_drew)))); have m0c : w12.cell? ⟨PB, 0, none⟩ = some (.int .i64 p.1) := (blk_cell (blk_below HPB.out HRc.out) 0).trans rfl; have m1c : w12.cell? ⟨PB, 1, none⟩ = some (.int .i64 p.2) := (blk_cell (blk_below HPB.out HRc.out) 1).trans rfl; have m2c : w12.cell? ⟨S, 0, none⟩ = some (.int .i64 fx) := (blk_cell (blk_below HF10.out HRc.out) 0).trans rfl; have m3c : w12.cell? ⟨S, 1, none⟩ = some (.int .i64 fy) := (blk_cell (blk_below HF10.out HRc.out) 1).trans rfl; have m4c : w12.cell? ⟨T, 0, none⟩ = some (.int .i64 tx) := (blk_cell (blk_below HT10.out HRc.out) 0).trans rfl; have m5c : w12.cell? ⟨T, 1, none⟩ = some (.int .i64 ty) := (blk_cell (blk_below HT10.out HRc.out) 1).trans rfl; (try (have zz2 : w12.heap[W10.heap.size]? = some (.cells #[.int .i64 0, .int .i64 0] 86 (0, 0)) := blk_below (by with_reducible first | exact zz | exact blk_drew zz) hb; have nn2 := And.intro (Nat.ne_of_lt (blk_lt (HPB.out))) (And.intro (Nat.ne_of_lt (blk_lt (HF10.out))) (Nat.ne_of_lt (blk_lt (HT10.out)))); have zz2c0 : w12.cell? ⟨W10.heap.size, 0, none⟩ = some (.int .i64 0) := (blk_cell zz2 0).trans rfl; have zz2f0 : w12.frozen? ⟨W10.heap.size, 0, none⟩ = false := blk_frozen zz2 0; have zz2c1 : w12.cell? ⟨W10.heap.size, 1, none⟩ = some (.int .i64 0) := (blk_cell zz2 1).trans rfl; have zz2f1 : w12.frozen? ⟨W10.heap.size, 1, none⟩ = false := blk_frozen zz2 1)); (try (have zz3 : w12.heap[w11.heap.size]? = some (.cells #[.int .i64 0, .int .i64 0] 86 (0, 0)) := blk_below (by with_reducible first | exact blk_drew (blk_new w11 _) | exact blk_new w11 _ | exact new_drew w11 _ | exact blk_drew (new_drew w11 _)) hb; have nn3 := And.intro (Nat.ne_of_lt (blk_lt (blk_below HPB.out HRb.out))) (And.intro (Nat.ne_of_lt (blk_lt (blk_below HF10.out HRb.out))) (Nat.ne_of_lt (blk_lt (blk_below HT10.out HRb.out)))); have zz3c0 : w12.cell? ⟨w11.heap.size, 0, none⟩ = some (.int .i64 0) := (blk_cell zz3 0).trans rfl; have zz3f0 : w12.frozen? ⟨w11.heap.size, 0, none⟩ = false := blk_frozen zz3 0; have zz3c1 : w12.cell? ⟨w11.heap.size, 1, none⟩ = some (.int .i64 0) := (blk_cell zz3 1).trans rfl; have zz3f1 : w12.frozen? ⟨w11.heap.size, 1, none⟩ = false := blk_frozen zz3 1)); clear hb))
            · go_wp2_with fail
              go_meet
              exact ⟨_, rfl, rfl, ⟨lowA HRc.out (Nat.le_refl _) _, HRc.out.size⟩, ⟨blk_new _ _⟩⟩
            · go_wp2_with fail
              go_meet
              exact ⟨_, rfl, rfl, ⟨low2 HRc.out HRb.out.size _ _, HRb.out.size⟩, ⟨put2 zz3 _ _⟩⟩
            · go_wp2_with fail
              go_meet
              exact ⟨_, rfl, rfl, ⟨low2 HRc.out (Nat.le_refl _) _ _, Nat.le_refl _⟩, ⟨put2 zz2 _ _⟩⟩
          case rest =>
            obtain ⟨WB, rfl, rfl, HRx, HWB⟩ := hcut
            clear m0a m1a m2a m3a m4a m5a HRa HR10 HQ10
            generalize wc = W11 at *
            have HR12 := Aside0.mk (HR11.out.trans (HRx.out.1.mono HR11.out.size))
            have HQ12 := Aside0.mk (blk_below HQ11.out HRx.out.1)
            obtain ⟨⟨mn_, md_⟩, mb⟩ := m
            cases mb with
            | false =>
              have HN3 := Aside0.mk (HN2.out.trans (refHit_no (mn := mn_) (md := md_) (mb := false) (fun h => Bool.false_ne_true h.1)))
              go_wp2_with fail
              go_roundg (gk - 1)
              case measure => have := HK.out; omega
              case rel => exact ⟨k + 1, hit, fn, fd, rfl, by simp, ⟨by have := HK.out; omega⟩, HR12, HQ12, ⟨by rw [HNX.out, HN3.out]⟩, HBD⟩
            | true =>
              have hmb : (0 ≤ mn_ ∧ mn_ ≤ 1073741824) ∧ (0 ≤ md_ ∧ md_ ≤ 1073741824) := by
                have := rght_iff.1 (HMR.out rfl)
                simp only at this
                omega
              have hbd := HBD.out
              have HMB := Aside0.mk hmb
              have e1 : -(1073741824 * 1073741824) ≤ mn_ * fd ∧ mn_ * fd ≤ 1073741824 * 1073741824 := mul_bd (by omega) (by omega) (by omega) (by omega) (by omega) (by omega)
              have e2 : -(1073741824 * 1073741824) ≤ fn * md_ ∧ fn * md_ ≤ 1073741824 * 1073741824 := mul_bd (by omega) (by omega) (by omega) (by omega) (by omega) (by omega)
              go_upto_region 12 with fail
              have x0 := HXC.out _ HR12.out
              have g0 : W11.cell? ⟨WB, 0, none⟩ = some (.int .i64 mn_) := (blk_cell HWB.out 0).trans rfl
              have g1 : W11.cell? ⟨WB, 1, none⟩ = some (.int .i64 md_) := (blk_cell HWB.out 1).trans rfl
              have q0 : W11.cell? ⟨FB, 0, none⟩ = some (.int .i64 fn) := (blk_cell HQ12.out 0).trans rfl
              have q1 : W11.cell? ⟨FB, 1, none⟩ = some (.int .i64 fd) := (blk_cell HQ12.out 1).trans rfl
              have qf0 : W11.frozen? ⟨FB, 0, none⟩ = false := blk_frozen HQ12.out 0
              have qf1 : W11.frozen? ⟨FB, 1, none⟩ = false := blk_frozen HQ12.out 1
              obtain ⟨u, hu⟩ : ∃ u, u = mn_ * fd := ⟨_, rfl⟩
              obtain ⟨z, hz⟩ : ∃ z, z = fn * md_ := ⟨_, rfl⟩
              have wu : wrap64 (mn_ * fd) = u := by rw [hu]; exact wrap64_id (by omega) (by omega)
              have vu : IntKind.i64.wrap (mn_ * fd) = u := (i64_w _).trans wu
              have wz : wrap64 (fn * md_) = z := by rw [hz]; exact wrap64_id (by omega) (by omega)
              have vz : IntKind.i64.wrap (fn * md_) = z := (i64_w _).trans wz
              have HU := Aside0.mk hu.symm
              have HZ := Aside0.mk hz.symm
              clear hu hz e1 e2 hbd hmb
              rcases Int.lt_trichotomy u z with hlt | heq | hgt
              · skip
                by_cases hn : hit < 0
                · skip
                  have HN3 : Aside0 (refStep fx fy tx ty pl shooter (hit, fn, fd) y = (y, mn_, md_)) := ⟨HN2.out.trans (refHit_yes (by rw [HU.out, HZ.out]; exact .inl hn))⟩
                  go_wp2_with fail
                  go_roundg (gk - 1)
                  case measure => have := HK.out; omega
                  case rel => exact ⟨k + 1, y, mn_, md_, rfl, by simp, ⟨by have := HK.out; omega⟩, ⟨low2 HR12.out (Nat.le_of_eq HFB.out) _ _⟩, ⟨put2 HQ12.out _ _⟩, ⟨by rw [HNX.out, HN3.out]⟩, HMB⟩
                · skip
                  have HN3 : Aside0 (refStep fx fy tx ty pl shooter (hit, fn, fd) y = (y, mn_, md_)) := ⟨HN2.out.trans (refHit_yes (by rw [HU.out, HZ.out]; exact .inr (.inl hlt)))⟩
                  go_wp2_with fail
                  go_roundg (gk - 1)
                  case measure => have := HK.out; omega
                  case rel => exact ⟨k + 1, y, mn_, md_, rfl, by simp, ⟨by have := HK.out; omega⟩, ⟨low2 HR12.out (Nat.le_of_eq HFB.out) _ _⟩, ⟨put2 HQ12.out _ _⟩, ⟨by rw [HNX.out, HN3.out]⟩, HMB⟩
              · subst heq
                by_cases hn : hit < 0
                · skip
                  have HN3 : Aside0 (refStep fx fy tx ty pl shooter (hit, fn, fd) y = (y, mn_, md_)) := ⟨HN2.out.trans (refHit_yes (by rw [HU.out, HZ.out]; exact .inl hn))⟩
                  go_wp2_with fail
                  go_roundg (gk - 1)
                  case measure => have := HK.out; omega
                  case rel => exact ⟨k + 1, y, mn_, md_, rfl, by simp, ⟨by have := HK.out; omega⟩, ⟨low2 HR12.out (Nat.le_of_eq HFB.out) _ _⟩, ⟨put2 HQ12.out _ _⟩, ⟨by rw [HNX.out, HN3.out]⟩, HMB⟩
                · skip
                  by_cases hy2 : y < hit
                  · skip
                    have HN3 : Aside0 (refStep fx fy tx ty pl shooter (hit, fn, fd) y = (y, mn_, md_)) := ⟨HN2.out.trans (refHit_yes (by rw [HU.out, HZ.out]; exact .inr (.inr ⟨rfl, hy2⟩)))⟩
                    go_wp2_with fail
                    go_roundg (gk - 1)
                    case measure => have := HK.out; omega
                    case rel => exact ⟨k + 1, y, mn_, md_, rfl, by simp, ⟨by have := HK.out; omega⟩, ⟨low2 HR12.out (Nat.le_of_eq HFB.out) _ _⟩, ⟨put2 HQ12.out _ _⟩, ⟨by rw [HNX.out, HN3.out]⟩, HMB⟩
                  · skip
                    have HN3 : Aside0 (refStep fx fy tx ty pl shooter (hit, fn, fd) y = (hit, fn, fd)) := ⟨HN2.out.trans (refHit_no (by rw [HU.out, HZ.out]; omega))⟩
                    go_wp2_with fail
                    go_roundg (gk - 1)
                    case measure => have := HK.out; omega
                    case rel => exact ⟨k + 1, hit, fn, fd, rfl, by simp, ⟨by have := HK.out; omega⟩, HR12, HQ12, ⟨by rw [HNX.out, HN3.out]⟩, HBD⟩
              · skip
                by_cases hn : hit < 0
                · skip
                  have HN3 : Aside0 (refStep fx fy tx ty pl shooter (hit, fn, fd) y = (y, mn_, md_)) := ⟨HN2.out.trans (refHit_yes (by rw [HU.out, HZ.out]; exact .inl hn))⟩
                  go_wp2_with fail
                  go_roundg (gk - 1)
                  case measure => have := HK.out; omega
                  case rel => exact ⟨k + 1, y, mn_, md_, rfl, by simp, ⟨by have := HK.out; omega⟩, ⟨low2 HR12.out (Nat.le_of_eq HFB.out) _ _⟩, ⟨put2 HQ12.out _ _⟩, ⟨by rw [HNX.out, HN3.out]⟩, HMB⟩
                · skip
                  have HN3 : Aside0 (refStep fx fy tx ty pl shooter (hit, fn, fd) y = (hit, fn, fd)) := ⟨HN2.out.trans (refHit_no (by rw [HU.out, HZ.out]; omega))⟩
                  go_wp2_with fail
                  go_roundg (gk - 1)
                  case measure => have := HK.out; omega
                  case rel => exact ⟨k + 1, hit, fn, fd, rfl, by simp, ⟨by have := HK.out; omega⟩, HR12, HQ12, ⟨by rw [HNX.out, HN3.out]⟩, HBD⟩
    · have hi2 : (xs.length : Int) ≤ k := by omega
      have HFIN : Aside0 (out = hit) := ⟨by
        have hs2 := HS2.out
        rw [List.take_of_length_le (by omega)] at hs2
        rw [HSF.out, hs2]⟩
      go_wp2_with fail
      go_ret
      refine ⟨?_, HB4.out.trans (HR.out.mono HB4.out.size)⟩
      rw [HFIN.out]
      rfl
end Go.Proofs.Ytcbmkhogmdkpdaa.Ring
