import Derived.Test.YtcbmkhogmdkpdaaRPl
set_option linter.unusedVariables false
set_option linter.unusedSimpArgs false
namespace Go.Proofs.Ytcbmkhogmdkpdaa.Ring
open Go.RowKit Go.ChangeMaps Go.Proofs.YtcbmkhogmdkpdaaW.PrintWords Go.Proofs.YtcbmkhogmdkpdaaW.PrintLast Go.Proofs.YtcbmkhogmdkpdaaW.PrintMore Go.Proofs.Ytcbmkhogmdkpdaa.PRewindNone Go.Proofs.Ytcbmkhogmdkpdaa.MapI Go.Proofs.Ytcbmkhogmdkpdaa.Plain Go.Proofs.Ytcbmkhogmdkpdaa.Pure
theorem far2 {w : World} {B o g : Nat} {v : Value} (h : w.cell? ⟨B, o, none⟩ = some v) (hne : B ≠ g) (a b : Value) : ((w.setCell ⟨g, 0, none⟩ a).setCell ⟨g, 1, none⟩ b).cell? ⟨B, o, none⟩ = some v := by
  rw [World.cell?_of_block (w := w)]
  · exact h
  · show ((w.setCell ⟨g, 0, none⟩ a).setCell ⟨g, 1, none⟩ b).heap[B]? = w.heap[B]?
    rw [Below.heap_setCell _ _ _ _ hne, Below.heap_setCell _ _ _ _ hne]
theorem blk_two {w : World} {g h : Nat} (hne : g ≠ h) (a b : Value) : ((w.setCell ⟨h, 0, none⟩ a).setCell ⟨h, 1, none⟩ b).heap[g]? = w.heap[g]? := by
  rw [Below.heap_setCell _ _ _ _ hne, Below.heap_setCell _ _ _ _ hne]
theorem new_drew (w : World) (o : Obj) : (w.drew.alloc o).heap[w.heap.size]? = some o := blk_new w.drew o
theorem below_thru {w0 w1 w2 : World} (hb : Below w1.heap.size w1 w2) (h : Below w0.heap.size w0 w1) : Below w0.heap.size w0 w2 := h.trans (hb.mono h.size)
/-- What a shot has hit so far, and when, behind one more entity that it meets (or not). -/
def hitStep (m : (Int × Int) × Bool) (id : Int) (st : Int × Int × Int) : Int × Int × Int := if m.2 = true ∧ (st.1 = -1 ∨ ahd m.1 st.2 = true ∨ (ahd st.2 m.1 = false ∧ id < st.1)) then (id, m.1) else st
def meetF (fx fy tx ty : Int) (p : Int × Int) : (Int × Int) × Bool := mtt fx fy tx ty (hold (hold p.1 - hold 24576)) (hold (hold p.2 - hold 24576)) (hold (hold p.1 + hold 24576)) (hold (hold p.2 + hold 24576))
def shotStep (fx fy tx ty : Int) (pl : Int → Option (Int × Int)) (shooter : Int) (st : Int × Int × Int) (id : Int) : Int × Int × Int :=
  if id = shooter then st else match pl id with
    | none => st
    | some p => hitStep (meetF fx fy tx ty p) id st
theorem fold_next (fx fy tx ty shooter : Int) (pl : Int → Option (Int × Int)) (xs : List S67) {k : Nat} (h : k < xs.length) : ((xs.take (k + 1)).map (·.f0)).foldl (shotStep fx fy tx ty pl shooter) (-1, 0, 0) = shotStep fx fy tx ty pl shooter (((xs.take k).map (·.f0)).foldl (shotStep fx fy tx ty pl shooter) (-1, 0, 0)) (rd_T67 xs (k : Int)).f0 := by
  rw [List.take_succ_eq_append_getElem h, List.map_append, List.foldl_append]
  simp [rd_T67, List.getD, List.getElem?_eq_getElem h]
/-- What a shot hits. -/
def shotF (ts : List Int) (ls : List (List S67)) (shooter fx fy dx dy view part : Int) : Int :=
  if fmd fx fy = true ∧ fmd (hold (hold fx + hold dx)) (hold (hold fy + hold dy)) = true then ((((look (heldF ts view) ts ls).getD []).map (·.f0)).foldl (shotStep fx fy (hold (hold fx + hold dx)) (hold (hold fy + hold dy)) (placeR ts ls view part) shooter) (-1, 0, 0)).1 else -1
set_option maxHeartbeats 8000000 in
set_option maxRecDepth 100000 in
theorem Holds.shot {w : World} {r : Option Addr} {ts : List Int} {ls : List (List S67)} (h : Holds w r ts ls) (shooter fx fy dx dy view part : Int) (hp : 0 ≤ part ∧ part ≤ 255) : Calls Try.prog 11 #[.pointer r, .int .i64 shooter, .agg #[.int .i64 fx, .int .i64 fy], .agg #[.int .i64 dx, .int .i64 dy], .int .i64 view, .int .u8 part] w fun e w' => e = .returned (.int .i64 (shotF ts ls shooter fx fy dx dy view part)) ∧ Below w.heap.size w w' := by
  have HH := Aside0.mk h
  have hl1 := h.len (heldF ts view)
  have hl2 := h.len (heldF ts view + 1)
  have HB := Aside0.mk (below_alloc (below_alloc (Below.refl w.heap.size w) (.cells #[.int .i64 fx, .int .i64 fy] 28 (0, 0))) (.cells #[.int .i64 dx, .int .i64 dy] 28 (0, 0)))
  have hF := blk_alloc (blk_new w (.cells #[.int .i64 fx, .int .i64 fy] 28 (0, 0))) (.cells #[.int .i64 dx, .int .i64 dy] 28 (0, 0))
  have hW := blk_new (w.alloc (.cells #[.int .i64 fx, .int .i64 fy] 28 (0, 0))) (.cells #[.int .i64 dx, .int .i64 dy] 28 (0, 0))
  rw [show (w.alloc (.cells #[.int .i64 fx, .int .i64 fy] 28 (0, 0))).heap.size = w.heap.size + 1 by simp] at hW
  have HF := Aside0.mk hF
  have HW := Aside0.mk hW
  have HV := Aside0.mk (zvAdd fx fy dx dy)
  have HG := Aside0.mk (zFormed fx fy)
  have HG2 := Aside0.mk (zFormed (hold (hold fx + hold dx)) (hold (hold fy + hold dy)))
  clear h hF hW
  go_enter Try.func11, Try.ntmps11
  go_upto_region 1 with fail
  generalize (w.alloc (.cells #[.int .i64 fx, .int .i64 fy] 28 (0, 0))).alloc (.cells #[.int .i64 dx, .int .i64 dy] 28 (0, 0)) = W1 at *
  obtain ⟨S, hS⟩ : ∃ S, w.heap.size = S := ⟨_, rfl⟩
  have HS := Aside0.mk hS
  rw [hS] at HF HW
  rw [hS]
  clear hS
  have f0 : W1.cell? ⟨S, 0, none⟩ = some (.int .i64 fx) := (blk_cell HF.out 0).trans rfl
  have f1 : W1.cell? ⟨S, 1, none⟩ = some (.int .i64 fy) := (blk_cell HF.out 1).trans rfl
  have d0 : W1.cell? ⟨S + 1, 0, none⟩ = some (.int .i64 dx) := (blk_cell HW.out 0).trans rfl
  have d1 : W1.cell? ⟨S + 1, 1, none⟩ = some (.int .i64 dy) := (blk_cell HW.out 1).trans rfl
  obtain ⟨tx, htx⟩ : ∃ x, x = hold (hold fx + hold dx) := ⟨_, rfl⟩
  obtain ⟨ty, hty⟩ : ∃ x, x = hold (hold fy + hold dy) := ⟨_, rfl⟩
  rw [← htx, ← hty] at HV HG2
  have HT := Aside0.mk (And.intro htx hty)
  clear htx hty
  go_upto_region 2 with (go_at_call 27; (with_reducible refine (vec_Add.calls _ _ _ _ _ _ _ HV.out).mono ?_); rintro e w2 ⟨he, hb⟩; subst he; have HF2 := Aside0.mk (blk_below HF.out hb); have HB2 := Aside0.mk (HB.out.trans (hb.mono HB.out.size)); clear hb)
  have hF3 := blk_alloc HF2.out (.cells #[.int .i64 tx, .int .i64 ty] 28 (0, 0))
  have hT3 := blk_new w2 (.cells #[.int .i64 tx, .int .i64 ty] 28 (0, 0))
  have HB3 := Aside0.mk (lowA HB2.out (Nat.le_refl _) (.cells #[.int .i64 tx, .int .i64 ty] 28 (0, 0)))
  generalize w2.alloc (.cells #[.int .i64 tx, .int .i64 ty] 28 (0, 0)) = W2 at *
  generalize w2.heap.size = T at *
  have HF3 := Aside0.mk hF3
  have HT3 := Aside0.mk hT3
  clear f0 f1 d0 d1 HB HB2 HF HW HF2 hT3
  have f0 : W2.cell? ⟨S, 0, none⟩ = some (.int .i64 fx) := (blk_cell hF3 0).trans rfl
  have f1 : W2.cell? ⟨S, 1, none⟩ = some (.int .i64 fy) := (blk_cell hF3 1).trans rfl
  clear hF3
  cases hf : fmd fx fy with
  | false =>
    have HR : Aside0 (shotF ts ls shooter fx fy dx dy view part = -1) := ⟨by unfold shotF; rw [hf]; simp⟩
    rw [hf] at HG
    clear hf
    go_wp2_with (go_at_call 28; (with_reducible refine (vec_Formed.calls fx fy _ _ HG.out).mono ?_); rintro e w3 ⟨he, hb⟩; subst he; have HB4 := Aside0.mk (HB3.out.trans (hb.mono HB3.out.size)); clear hb)
    go_ret
    refine ⟨?_, HB4.out⟩
    rw [HR.out]
    rfl
  | true =>
    rw [hf] at HG
    cases ht : fmd tx ty with
    | false =>
      have HR : Aside0 (shotF ts ls shooter fx fy dx dy view part = -1) := ⟨by unfold shotF; rw [hf, ← HT.out.1, ← HT.out.2, ht]; simp⟩
      rw [ht] at HG2
      clear hf ht
      go_wp2_with (first | (go_at_call 28; (with_reducible refine (vec_Formed.calls fx fy _ _ HG.out).mono ?_); rintro e w3 ⟨he, hb⟩; subst he; have HB4 := Aside0.mk (HB3.out.trans (hb.mono HB3.out.size)); have t0 : w3.cell? ⟨T, 0, none⟩ = some (.int .i64 tx) := (blk_cell (blk_below HT3.out hb) 0).trans rfl; have t1 : w3.cell? ⟨T, 1, none⟩ = some (.int .i64 ty) := (blk_cell (blk_below HT3.out hb) 1).trans rfl; clear hb) | (go_at_call 28; (with_reducible refine (vec_Formed.calls tx ty _ _ HG2.out).mono ?_); rintro e w4 ⟨he, hb⟩; subst he; have HB5 := Aside0.mk (HB4.out.trans (hb.mono HB4.out.size)); clear hb))
      go_ret
      refine ⟨?_, HB5.out⟩
      rw [HR.out]
      rfl
    | true =>
      rw [ht] at HG2
      have HFT := Aside0.mk (And.intro hf ht)
      clear hf ht
      go_upto_region 4 with (first | (go_at_call 28; (with_reducible refine (vec_Formed.calls fx fy _ _ HG.out).mono ?_); rintro e w3 ⟨he, hb⟩; subst he; have HB4 := Aside0.mk (HB3.out.trans (hb.mono HB3.out.size)); have hT4 := blk_below HT3.out hb; have HF4 := Aside0.mk (blk_below HF3.out hb); have HT4 := Aside0.mk hT4; have t0 : w3.cell? ⟨T, 0, none⟩ = some (.int .i64 tx) := (blk_cell hT4 0).trans rfl; have t1 : w3.cell? ⟨T, 1, none⟩ = some (.int .i64 ty) := (blk_cell hT4 1).trans rfl; clear hb hT4) | (go_at_call 28; (with_reducible refine (vec_Formed.calls tx ty _ _ HG2.out).mono ?_); rintro e w4 ⟨he, hb⟩; subst he; have HB5 := Aside0.mk (HB4.out.trans (hb.mono HB4.out.size)); have HF5 := Aside0.mk (blk_below HF4.out hb); have HT5 := Aside0.mk (blk_below HT4.out hb); clear hb t0 t1))
      clear f0 f1 HB3 HB4 HF3 HF4 HT3 HT4
      go_upto_region 5 with (go_at_call 29; (with_reducible refine ((HH.out.below HB5.out).at_ view part).mono ?_); rintro e w5 ⟨A1, c1, A2, c2, he, hb, hC1, hC2⟩; subst he; have HB6 := Aside0.mk (HB5.out.trans (hb.mono HB5.out.size)); have HF6 := Aside0.mk (blk_below HF5.out hb); have HT6 := Aside0.mk (blk_below HT5.out hb); have HC6 := Aside0.mk (And.intro hC1 hC2); clear hb hC1 hC2)
      generalize hxs : (look (heldF ts view) ts ls).getD [] = xs at *
      generalize hys : (look (heldF ts view + 1) ts ls).getD [] = ys at *
      generalize hth : (look (heldF ts view + 1) ts ls).isSome = th at *
      have HL := Aside0.mk (And.intro hxs (And.intro hys hth))
      clear hxs hys hth HB5 HF5 HT5 HG HG2 HV
      have hD := blk_new w5 (.cells #[.slice A1 xs.length c1, .slice A2 ys.length c2, .bool th, .int .u8 part] 82 (0, 0))
      have hF7 := blk_alloc HF6.out (.cells #[.slice A1 xs.length c1, .slice A2 ys.length c2, .bool th, .int .u8 part] 82 (0, 0))
      have hT7 := blk_alloc HT6.out (.cells #[.slice A1 xs.length c1, .slice A2 ys.length c2, .bool th, .int .u8 part] 82 (0, 0))
      have HB7 := Aside0.mk (lowA HB6.out (Nat.le_refl _) (.cells #[.slice A1 xs.length c1, .slice A2 ys.length c2, .bool th, .int .u8 part] 82 (0, 0)))
      have HC7 := Aside0.mk (And.intro (Kd.C_alloc HC6.out.1 (.cells #[.slice A1 xs.length c1, .slice A2 ys.length c2, .bool th, .int .u8 part] 82 (0, 0))) (Kd.C_alloc HC6.out.2 (.cells #[.slice A1 xs.length c1, .slice A2 ys.length c2, .bool th, .int .u8 part] 82 (0, 0))))
      generalize w5.alloc (.cells #[.slice A1 xs.length c1, .slice A2 ys.length c2, .bool th, .int .u8 part] 82 (0, 0)) = Wb at *
      generalize w5.heap.size = D at *
      have HD := Aside0.mk hD
      have HF := Aside0.mk hF7
      have HTT := Aside0.mk hT7
      clear HF6 HT6 HC6 HB6 hD hF7 hT7
      go_upto_region 6 with fail
      have H8 := Aside0.mk (below_alloc (Below.refl Wb.heap.size Wb) (.cells #[.int .i64 0, .int .i64 0] 58 (0, 0)))
      have H9 := Aside0.mk (blk_new Wb (.cells #[.int .i64 0, .int .i64 0] 58 (0, 0)))
      generalize hW8 : Wb.alloc (.cells #[.int .i64 0, .int .i64 0] 58 (0, 0)) = W8 at *
      clear hW8
      have d0 : W8.cell? ⟨D, 0, none⟩ = some (.slice A1 xs.length c1) := (blk_cell (blk_below HD.out H8.out) 0).trans rfl
      obtain ⟨FB, hFB⟩ : ∃ FB, Wb.heap.size = FB := ⟨_, rfl⟩
      have HFB := Aside0.mk hFB
      rw [hFB] at H9
      rw [hFB]
      clear hFB
      go_wp2_with fail
      clear d0
      obtain ⟨pl, hpl⟩ : ∃ pl, pl = placeF xs ys th part := ⟨_, rfl⟩
      have HPL := Aside0.mk hpl
      clear hpl
      go_loopg [15, 42] xs.length (fun kq v15 v42 w' => ∃ (k : Nat) (hit fn fd : Int), v15 = .int .i64 hit ∧ v42 = .int .i64 (k : Int) ∧ Aside0 (kq + k = xs.length) ∧ Aside0 (Below Wb.heap.size Wb w') ∧ Aside0 (w'.heap[FB]? = some (.cells #[.int .i64 fn, .int .i64 fd] 58 (0, 0))) ∧ Aside0 (((xs.take k).map (·.f0)).foldl (shotStep fx fy tx ty pl shooter) (-1, 0, 0) = (hit, fn, fd)))
      case atStart => exact ⟨0, -1, 0, 0, rfl, rfl, ⟨rfl⟩, H8, H9, ⟨rfl⟩⟩
      case round =>
        obtain ⟨k, hit, fn, fd, rfl, rfl, HK, HR, HQ, HS2⟩ := hrel
        clear H8 H9
        by_cases hi : (k : Int) < (xs.length : Int)
        · obtain ⟨ad, e, x0, x1, x2, x3, x4, x5, x6, x7⟩ := at_T67 (Kd.C_below HC7.out.1 HR.out) (k : Int) (by omega) hi
          cases e
          simp only [Int.toNat_natCast] at x0 x1 x2 x3 x4 x5 x6 x7
          have HNX := Aside0.mk (fold_next fx fy tx ty shooter pl xs (show k < xs.length by omega))
          rw [HS2.out] at HNX
          have hi1 : (0 : Int) ≤ k := by omega
          have hi3 : k < xs.length := by omega
          generalize rd_T67 xs (k : Int) = y at *
          go_upto_region 9 with fail
          have hE := blk_new wr (.cells #[.int .i64 y.f0, .int .i64 y.f1, .int .i64 y.f2.f0, .int .i64 y.f2.f1, .int .i64 y.f3.f0, .int .i64 y.f3.f1, .int .i64 y.f4, .int .i64 y.f5] 67 (0, 0))
          have HR9 := Aside0.mk (lowA HR.out (Nat.le_refl _) (.cells #[.int .i64 y.f0, .int .i64 y.f1, .int .i64 y.f2.f0, .int .i64 y.f2.f1, .int .i64 y.f3.f0, .int .i64 y.f3.f1, .int .i64 y.f4, .int .i64 y.f5] 67 (0, 0)))
          have HQ9 := Aside0.mk (blk_alloc HQ.out (.cells #[.int .i64 y.f0, .int .i64 y.f1, .int .i64 y.f2.f0, .int .i64 y.f2.f1, .int .i64 y.f3.f0, .int .i64 y.f3.f1, .int .i64 y.f4, .int .i64 y.f5] 67 (0, 0)))
          generalize wr.alloc (.cells #[.int .i64 y.f0, .int .i64 y.f1, .int .i64 y.f2.f0, .int .i64 y.f2.f1, .int .i64 y.f3.f0, .int .i64 y.f3.f1, .int .i64 y.f4, .int .i64 y.f5] 67 (0, 0)) = W9 at *
          generalize wr.heap.size = EB at *
          have e0 : W9.cell? ⟨EB, 0, none⟩ = some (.int .i64 y.f0) := (blk_cell hE 0).trans rfl
          have HE := Aside0.mk hE
          clear hE x0 x1 x2 x3 x4 x5 x6 x7 HR HQ
          by_cases hs : y.f0 = shooter
          · have HN2 : Aside0 (shotStep fx fy tx ty pl shooter (hit, fn, fd) y.f0 = (hit, fn, fd)) := ⟨by unfold shotStep; rw [if_pos hs]⟩
            rw [hs] at e0
            clear hs
            go_wp2_with fail
            go_roundg (gk - 1)
            case measure => have := HK.out; omega
            case rel => exact ⟨k + 1, hit, fn, fd, rfl, by simp, ⟨by have := HK.out; omega⟩, HR9, HQ9, ⟨by rw [HNX.out, HN2.out]⟩⟩
          · have d0 : W9.cell? ⟨D, 0, none⟩ = some (.slice (some ad) xs.length c1) := (blk_cell (blk_below HD.out HR9.out) 0).trans rfl
            have d1 : W9.cell? ⟨D, 1, none⟩ = some (.slice A2 ys.length c2) := (blk_cell (blk_below HD.out HR9.out) 1).trans rfl
            have d2 : W9.cell? ⟨D, 2, none⟩ = some (.bool th) := (blk_cell (blk_below HD.out HR9.out) 2).trans rfl
            have d3 : W9.cell? ⟨D, 3, none⟩ = some (.int .u8 part) := (blk_cell (blk_below HD.out HR9.out) 3).trans rfl
            have HP := Aside0.mk (place_any (some ad) A2 c1 c2 xs ys th part y.f0 W9 (Kd.C_below HC7.out.1 HR9.out) (Kd.C_below HC7.out.2 HR9.out) hl1 hl2 hp)
            rw [← HPL.out] at HP
            have HSN := Aside0.mk hs
            cases hplv : pl y.f0 with
            | none =>
              rw [hplv] at HP
              have HN2 : Aside0 (shotStep fx fy tx ty pl shooter (hit, fn, fd) y.f0 = (hit, fn, fd)) := ⟨by unfold shotStep; rw [if_neg hs, hplv]⟩
              clear hplv
              go_wp2_with (go_at_call 30; (with_reducible refine HP.out.mono ?_); rintro e w9 ⟨he, hb⟩; simp only [Option.getD_none, Option.isSome_none] at he; subst he; have HR10 := Aside0.mk (HR9.out.trans (hb.mono HR9.out.size)); have HQ10 := Aside0.mk (blk_below HQ9.out hb); clear hb)
              go_roundg (gk - 1)
              case measure => have := HK.out; omega
              case rel => exact ⟨k + 1, hit, fn, fd, rfl, by simp, ⟨by have := HK.out; omega⟩, ⟨lowA HR10.out (Nat.le_refl _) _⟩, ⟨blk_alloc HQ10.out _⟩, ⟨by rw [HNX.out, HN2.out]⟩⟩
            | some p =>
              rw [hplv] at HP
              have HN2 : Aside0 (shotStep fx fy tx ty pl shooter (hit, fn, fd) y.f0 = hitStep (meetF fx fy tx ty p) y.f0 (hit, fn, fd)) := ⟨by unfold shotStep; rw [if_neg hs, hplv]⟩
              clear hplv
              go_upto_region 12 with (go_at_call 30; (with_reducible refine HP.out.mono ?_); rintro e w9 ⟨he, hb⟩; simp only [Option.getD_some, Option.isSome_some] at he; subst he; have HR10 := Aside0.mk (HR9.out.trans (hb.mono HR9.out.size)); have HQ10 := Aside0.mk (blk_below HQ9.out hb); have HE10 := Aside0.mk (blk_below HE.out hb); clear hb)
              have hPB := blk_new w9 (.cells #[.int .i64 p.1, .int .i64 p.2] 28 (0, 0))
              have HR11 := Aside0.mk (lowA HR10.out (Nat.le_refl _) (.cells #[.int .i64 p.1, .int .i64 p.2] 28 (0, 0)))
              have HQ11 := Aside0.mk (blk_alloc HQ10.out (.cells #[.int .i64 p.1, .int .i64 p.2] 28 (0, 0)))
              have HE11 := Aside0.mk (blk_alloc HE10.out (.cells #[.int .i64 p.1, .int .i64 p.2] 28 (0, 0)))
              generalize w9.alloc (.cells #[.int .i64 p.1, .int .i64 p.2] 28 (0, 0)) = W10 at *
              generalize w9.heap.size = PB at *
              have HPB11 := Aside0.mk hPB
              have HA := Aside0.mk (zAround p.1 p.2 24576)
              obtain ⟨l1, hl1'⟩ : ∃ x, x = hold (hold p.1 - hold 24576) := ⟨_, rfl⟩
              obtain ⟨l2, hl2'⟩ : ∃ x, x = hold (hold p.2 - hold 24576) := ⟨_, rfl⟩
              obtain ⟨l3, hl3'⟩ : ∃ x, x = hold (hold p.1 + hold 24576) := ⟨_, rfl⟩
              obtain ⟨l4, hl4'⟩ : ∃ x, x = hold (hold p.2 + hold 24576) := ⟨_, rfl⟩
              rw [← hl1', ← hl2', ← hl3', ← hl4'] at HA
              have HM := Aside0.mk (zMeet fx fy tx ty l1 l2 l3 l4 0)
              have hmf : meetF fx fy tx ty p = mtt fx fy tx ty l1 l2 l3 l4 := by unfold meetF; rw [← hl1', ← hl2', ← hl3', ← hl4']
              obtain ⟨m, hm⟩ : ∃ m, m = mtt fx fy tx ty l1 l2 l3 l4 := ⟨_, rfl⟩
              rw [hmf] at HN2
              rw [← hm] at HN2 HM
              have p0 : W10.cell? ⟨PB, 0, none⟩ = some (.int .i64 p.1) := (blk_cell hPB 0).trans rfl
              have p1 : W10.cell? ⟨PB, 1, none⟩ = some (.int .i64 p.2) := (blk_cell hPB 1).trans rfl
              have f0 : W10.cell? ⟨S, 0, none⟩ = some (.int .i64 fx) := (blk_cell (blk_below HF.out HR11.out) 0).trans rfl
              have f1 : W10.cell? ⟨S, 1, none⟩ = some (.int .i64 fy) := (blk_cell (blk_below HF.out HR11.out) 1).trans rfl
              have t0 : W10.cell? ⟨T, 0, none⟩ = some (.int .i64 tx) := (blk_cell (blk_below HTT.out HR11.out) 0).trans rfl
              have t1 : W10.cell? ⟨T, 1, none⟩ = some (.int .i64 ty) := (blk_cell (blk_below HTT.out HR11.out) 1).trans rfl
              clear hPB hl1' hl2' hl3' hl4' hmf hm e0 d0 d1 d2 d3 HP hs
              go_cut [21, 22] (fun v21 v22 wx => ∃ WB : Nat, v21 = .pointer (some ⟨WB, 0, none⟩) ∧ v22 = .bool m.2 ∧ Aside0 (Below Wb.heap.size Wb wx) ∧ Aside0 (wx.heap[FB]? = some (.cells #[.int .i64 fn, .int .i64 fd] 58 (0, 0))) ∧ Aside0 (∃ a1 a2 a3 a4 a5 a6 a7, wx.heap[EB]? = some (.cells #[.int .i64 y.f0, a1, a2, a3, a4, a5, a6, a7] 67 (0, 0))) ∧ Aside0 (wx.heap[WB]? = some (.cells #[.int .i64 m.1.1, .int .i64 m.1.2] 58 (0, 0)) ∧ FB ≠ WB))
              case first =>
                go_region_held3 (fun w' => w'.cell? ⟨PB, 0, none⟩ = some (.int .i64 p.1) ∧ w'.cell? ⟨PB, 1, none⟩ = some (.int .i64 p.2) ∧ w'.cell? ⟨S, 0, none⟩ = some (.int .i64 fx) ∧ w'.cell? ⟨S, 1, none⟩ = some (.int .i64 fy) ∧ w'.cell? ⟨T, 0, none⟩ = some (.int .i64 tx) ∧ w'.cell? ⟨T, 1, none⟩ = some (.int .i64 ty)) (first | (refine ⟨?_, ?_, ?_, ?_, ?_, ?_⟩ <;> assumption) | (refine ⟨far2 p013 nn2.1 _ _, far2 p113 nn2.1 _ _, far2 f013 nn2.2.1 _ _, far2 f113 nn2.2.1 _ _, far2 t013 nn2.2.2 _ _, far2 t113 nn2.2.2 _ _⟩) | (refine ⟨far2 p013 nn3.1 _ _, far2 p113 nn3.1 _ _, far2 f013 nn3.2.1 _ _, far2 f113 nn3.2.1 _ _, far2 t013 nn3.2.2 _ _, far2 t113 nn3.2.2 _ _⟩) | go_keep) (first | (go_at_call 22; (with_reducible refine (box_Around.calls p.1 p.2 24576 _ _ _ _ _ HA.out).mono ?_); rintro e w11 ⟨he, hb⟩; subst he; have HR12 := Aside0.mk (below_thru (w0 := Wb) hb (by (with_reducible repeat (first | exact HR11.out | refine lowA ?_ (Nat.le_refl _) _ | apply below_drew)))); have HQ12 := Aside0.mk (blk_below (g := FB) (o := .cells #[.int .i64 fn, .int .i64 fd] 58 (0, 0)) (by (with_reducible repeat (first | exact HQ11.out | refine blk_drew ?_ | refine blk_drewN ?_ _ | refine blk_alloc ?_ _))) hb); have HE12 := Aside0.mk (blk_below (g := EB) (o := .cells #[.int .i64 y.f0, .int .i64 y.f1, .int .i64 y.f2.f0, .int .i64 y.f2.f1, .int .i64 y.f3.f0, .int .i64 y.f3.f1, .int .i64 y.f4, .int .i64 y.f5] 67 (0, 0)) (by (with_reducible repeat (first | exact HE11.out | refine blk_drew ?_ | refine blk_drewN ?_ _ | refine blk_alloc ?_ _))) hb); have HPB12 := Aside0.mk (blk_below (g := PB) (o := .cells #[.int .i64 p.1, .int .i64 p.2] 28 (0, 0)) (by (with_reducible repeat (first | exact HPB11.out | refine blk_drew ?_ | refine blk_drewN ?_ _ | refine blk_alloc ?_ _))) hb); have p012 : w11.cell? ⟨PB, 0, none⟩ = some (.int .i64 p.1) := (blk_cell HPB12.out 0).trans rfl; have p112 : w11.cell? ⟨PB, 1, none⟩ = some (.int .i64 p.2) := (blk_cell HPB12.out 1).trans rfl; have f012 : w11.cell? ⟨S, 0, none⟩ = some (.int .i64 fx) := (blk_cell (blk_below HF.out HR12.out) 0).trans rfl; have f112 : w11.cell? ⟨S, 1, none⟩ = some (.int .i64 fy) := (blk_cell (blk_below HF.out HR12.out) 1).trans rfl; have t012 : w11.cell? ⟨T, 0, none⟩ = some (.int .i64 tx) := (blk_cell (blk_below HTT.out HR12.out) 0).trans rfl; have t112 : w11.cell? ⟨T, 1, none⟩ = some (.int .i64 ty) := (blk_cell (blk_below HTT.out HR12.out) 1).trans rfl; (try have zz : w11.heap[W10.heap.size]? = some (.cells #[.int .i64 0, .int .i64 0] 58 (0, 0)) := blk_below (by with_reducible first | exact blk_drew (blk_new W10 _) | exact blk_new W10 _ | exact new_drew W10 _ | exact blk_drew (new_drew W10 _)) hb); clear hb) | (go_at_call 21; (with_reducible refine (box_Meet.calls _ fx fy tx ty _ _ _ _ _ _ _ _ HM.out).mono ?_); rintro e w12 ⟨he, hb⟩; subst he; have HR13 := Aside0.mk (below_thru (w0 := Wb) hb (by (with_reducible repeat (first | exact HR12.out | refine lowA ?_ (Nat.le_refl _) _ | apply below_drew)))); have HQ13 := Aside0.mk (blk_below (g := FB) (o := .cells #[.int .i64 fn, .int .i64 fd] 58 (0, 0)) (by (with_reducible repeat (first | exact HQ12.out | refine blk_drew ?_ | refine blk_drewN ?_ _ | refine blk_alloc ?_ _))) hb); have HE13 := Aside0.mk (blk_below (g := EB) (o := .cells #[.int .i64 y.f0, .int .i64 y.f1, .int .i64 y.f2.f0, .int .i64 y.f2.f1, .int .i64 y.f3.f0, .int .i64 y.f3.f1, .int .i64 y.f4, .int .i64 y.f5] 67 (0, 0)) (by (with_reducible repeat (first | exact HE12.out | refine blk_drew ?_ | refine blk_drewN ?_ _ | refine blk_alloc ?_ _))) hb); have HPB13 := Aside0.mk (blk_below (g := PB) (o := .cells #[.int .i64 p.1, .int .i64 p.2] 28 (0, 0)) (by (with_reducible repeat (first | exact HPB12.out | refine blk_drew ?_ | refine blk_drewN ?_ _ | refine blk_alloc ?_ _))) hb); have p013 : w12.cell? ⟨PB, 0, none⟩ = some (.int .i64 p.1) := (blk_cell HPB13.out 0).trans rfl; have p113 : w12.cell? ⟨PB, 1, none⟩ = some (.int .i64 p.2) := (blk_cell HPB13.out 1).trans rfl; have f013 : w12.cell? ⟨S, 0, none⟩ = some (.int .i64 fx) := (blk_cell (blk_below HF.out HR13.out) 0).trans rfl; have f113 : w12.cell? ⟨S, 1, none⟩ = some (.int .i64 fy) := (blk_cell (blk_below HF.out HR13.out) 1).trans rfl; have t013 : w12.cell? ⟨T, 0, none⟩ = some (.int .i64 tx) := (blk_cell (blk_below HTT.out HR13.out) 0).trans rfl; have t113 : w12.cell? ⟨T, 1, none⟩ = some (.int .i64 ty) := (blk_cell (blk_below HTT.out HR13.out) 1).trans rfl; (try (have zz2 : w12.heap[W10.heap.size]? = some (.cells #[.int .i64 0, .int .i64 0] 58 (0, 0)) := blk_below (by with_reducible first | exact zz | exact blk_drew zz) hb; have nn2 := And.intro (Nat.ne_of_lt (blk_lt HPB11.out)) (And.intro (Nat.ne_of_lt (blk_lt (blk_below HF.out HR11.out))) (Nat.ne_of_lt (blk_lt (blk_below HTT.out HR11.out)))); have zz2c0 : w12.cell? ⟨W10.heap.size, 0, none⟩ = some (.int .i64 0) := (blk_cell zz2 0).trans rfl; have zz2f0 : w12.frozen? ⟨W10.heap.size, 0, none⟩ = false := blk_frozen zz2 0; have zz2c1 : w12.cell? ⟨W10.heap.size, 1, none⟩ = some (.int .i64 0) := (blk_cell zz2 1).trans rfl; have zz2f1 : w12.frozen? ⟨W10.heap.size, 1, none⟩ = false := blk_frozen zz2 1)); (try (have zz3 : w12.heap[w11.heap.size]? = some (.cells #[.int .i64 0, .int .i64 0] 58 (0, 0)) := blk_below (by with_reducible first | exact blk_new w11 _ | exact new_drew w11 _ | exact blk_drew (new_drew w11 _)) hb; have nn3 := And.intro (Nat.ne_of_lt (blk_lt HPB12.out)) (And.intro (Nat.ne_of_lt (blk_lt (blk_below HF.out HR12.out))) (Nat.ne_of_lt (blk_lt (blk_below HTT.out HR12.out)))); have zz3c0 : w12.cell? ⟨w11.heap.size, 0, none⟩ = some (.int .i64 0) := (blk_cell zz3 0).trans rfl; have zz3f0 : w12.frozen? ⟨w11.heap.size, 0, none⟩ = false := blk_frozen zz3 0; have zz3c1 : w12.cell? ⟨w11.heap.size, 1, none⟩ = some (.int .i64 0) := (blk_cell zz3 1).trans rfl; have zz3f1 : w12.frozen? ⟨w11.heap.size, 1, none⟩ = false := blk_frozen zz3 1)); clear hb))
                · go_wp2_with fail
                  go_meet
                  exact ⟨_, rfl, rfl, ⟨lowA HR13.out (Nat.le_refl _) _⟩, ⟨blk_alloc HQ13.out _⟩, ⟨_, _, _, _, _, _, _, blk_alloc HE13.out _⟩, ⟨blk_new _ _, Nat.ne_of_lt (blk_lt HQ13.out)⟩⟩
                · go_wp2_with fail
                  go_meet
                  exact ⟨_, rfl, rfl, ⟨low2 HR13.out HR12.out.size _ _⟩, ⟨(blk_two (Nat.ne_of_lt (blk_lt HQ12.out)) _ _).trans HQ13.out⟩, ⟨_, _, _, _, _, _, _, (blk_two (Nat.ne_of_lt (blk_lt HE12.out)) _ _).trans HE13.out⟩, ⟨put2 zz3 _ _, Nat.ne_of_lt (blk_lt HQ12.out)⟩⟩
                · go_wp2_with fail
                  go_meet
                  exact ⟨_, rfl, rfl, ⟨low2 HR13.out HR11.out.size _ _⟩, ⟨(blk_two (Nat.ne_of_lt (blk_lt HQ11.out)) _ _).trans HQ13.out⟩, ⟨_, _, _, _, _, _, _, (blk_two (Nat.ne_of_lt (blk_lt HE11.out)) _ _).trans HE13.out⟩, ⟨put2 zz2 _ _, Nat.ne_of_lt (blk_lt HQ11.out)⟩⟩
              case rest =>
                obtain ⟨WB, rfl, rfl, HR13, HQ13, HE13, HW13⟩ := hcut
                have HNE := Aside0.mk HW13.out.2
                replace HW13 := Aside0.mk HW13.out.1
                clear p0 p1 f0 f1 t0 t1 HR10 HQ10 HE10 HR11 HQ11 HE11 HPB11 HA HM HR9 HQ9 HE
                obtain ⟨a1, a2, a3, a4, a5, a6, a7, hE13⟩ := HE13.out
                have HE13 := Aside0.mk hE13
                clear hE13
                obtain ⟨⟨mn_, md_⟩, mb⟩ := m
                go_upto_region 13 with fail
                have g0 : wc.cell? ⟨WB, 0, none⟩ = some (.int .i64 mn_) := (blk_cell HW13.out 0).trans rfl
                have g1 : wc.cell? ⟨WB, 1, none⟩ = some (.int .i64 md_) := (blk_cell HW13.out 1).trans rfl
                have q0 : wc.cell? ⟨FB, 0, none⟩ = some (.int .i64 fn) := (blk_cell HQ13.out 0).trans rfl
                have q1 : wc.cell? ⟨FB, 1, none⟩ = some (.int .i64 fd) := (blk_cell HQ13.out 1).trans rfl
                have e0 : wc.cell? ⟨EB, 0, none⟩ = some (.int .i64 y.f0) := (blk_cell HE13.out 0).trans rfl
                have HA1 := Aside0.mk (zAhead mn_ md_ fn fd)
                have HA2 := Aside0.mk (zAhead fn fd mn_ md_)
                obtain ⟨x1, hx1⟩ : ∃ x, x = ahd (mn_, md_) (fn, fd) := ⟨_, rfl⟩
                obtain ⟨x2, hx2⟩ : ∃ x, x = ahd (fn, fd) (mn_, md_) := ⟨_, rfl⟩
                rw [← hx1] at HA1
                rw [← hx2] at HA2
                have HN3 : Aside0 (shotStep fx fy tx ty pl shooter (hit, fn, fd) y.f0 = if (mb && (decide (hit = -1) || (x1 || (!x2 && decide (y.f0 < hit))))) = true then (y.f0, mn_, md_) else (hit, fn, fd)) := ⟨by
                  rw [HN2.out]
                  unfold hitStep
                  rw [← hx1, ← hx2]
                  congr 1
                  cases mb <;> cases x1 <;> cases x2 <;> simp⟩
                clear hx1 hx2 HN2
                obtain ⟨bc, hbc⟩ : ∃ b, b = (mb && (decide (hit = -1) || (x1 || (!x2 && decide (y.f0 < hit))))) := ⟨_, rfl⟩
                rw [← hbc] at HN3
                have HBC := Aside0.mk hbc
                clear hbc
                go_cut [88] (fun v88 wx => v88 = .bool bc ∧ Aside0 (Below Wb.heap.size Wb wx) ∧ Aside0 (wx.heap[FB]? = some (.cells #[.int .i64 fn, .int .i64 fd] 58 (0, 0))) ∧ Aside0 (∃ a1 a2 a3 a4 a5 a6 a7, wx.heap[EB]? = some (.cells #[.int .i64 y.f0, a1, a2, a3, a4, a5, a6, a7] 67 (0, 0))) ∧ Aside0 (wx.heap[WB]? = some (.cells #[.int .i64 mn_, .int .i64 md_] 58 (0, 0))))
                case first =>
                  cases mb with
                  | false =>
                    have HC : Aside0 (Value.bool false = .bool bc) := ⟨by rw [HBC.out]; simp⟩
                    go_wp2_with fail
                    go_meet
                    exact ⟨(by first | exact HC.out | (rw [← HC.out]; simp [hh])), HR13, HQ13, ⟨_, _, _, _, _, _, _, HE13.out⟩, HW13⟩
                  | true =>
                    by_cases hh : hit = -1
                    · have HC : Aside0 (Value.bool true = .bool bc) := ⟨by rw [HBC.out, hh]; simp⟩
                      subst hh
                      go_wp2_with fail
                      go_meet
                      exact ⟨(by first | exact HC.out | (rw [← HC.out]; simp [hh])), HR13, HQ13, ⟨_, _, _, _, _, _, _, HE13.out⟩, HW13⟩
                    · cases x1 with
                      | true =>
                        have HC : Aside0 (Value.bool true = .bool bc) := ⟨by rw [HBC.out]; simp⟩
                        go_wp2_with (go_at_call 23; (with_reducible refine (box_Ahead.calls mn_ md_ fn fd _ _ HA1.out).mono ?_); rintro e w13 ⟨he, hb⟩; subst he; have HR14 := Aside0.mk (below_thru (w0 := Wb) hb HR13.out); have HQ14 := Aside0.mk (blk_below HQ13.out hb); have HE14 := Aside0.mk (blk_below HE13.out hb); have HW14 := Aside0.mk (blk_below HW13.out hb); have gg0 : w13.cell? ⟨WB, 0, none⟩ = some (.int .i64 mn_) := (blk_cell HW14.out 0).trans rfl; have gg1 : w13.cell? ⟨WB, 1, none⟩ = some (.int .i64 md_) := (blk_cell HW14.out 1).trans rfl; have qq0 : w13.cell? ⟨FB, 0, none⟩ = some (.int .i64 fn) := (blk_cell HQ14.out 0).trans rfl; have qq1 : w13.cell? ⟨FB, 1, none⟩ = some (.int .i64 fd) := (blk_cell HQ14.out 1).trans rfl; have ee0 : w13.cell? ⟨EB, 0, none⟩ = some (.int .i64 y.f0) := (blk_cell HE14.out 0).trans rfl; clear hb)
                        go_meet
                        exact ⟨(by first | exact HC.out | (rw [← HC.out]; simp [hh])), HR14, HQ14, ⟨_, _, _, _, _, _, _, HE14.out⟩, HW14⟩
                      | false =>
                        cases x2 with
                        | true =>
                          have HC : Aside0 (Value.bool false = .bool bc) := ⟨by rw [HBC.out]; simp [hh]⟩
                          go_wp2_with (first | (go_at_call 23; (with_reducible refine (box_Ahead.calls mn_ md_ fn fd _ _ HA1.out).mono ?_); rintro e w13 ⟨he, hb⟩; subst he; have HR14 := Aside0.mk (below_thru (w0 := Wb) hb HR13.out); have HQ14 := Aside0.mk (blk_below HQ13.out hb); have HE14 := Aside0.mk (blk_below HE13.out hb); have HW14 := Aside0.mk (blk_below HW13.out hb); have gg0 : w13.cell? ⟨WB, 0, none⟩ = some (.int .i64 mn_) := (blk_cell HW14.out 0).trans rfl; have gg1 : w13.cell? ⟨WB, 1, none⟩ = some (.int .i64 md_) := (blk_cell HW14.out 1).trans rfl; have qq0 : w13.cell? ⟨FB, 0, none⟩ = some (.int .i64 fn) := (blk_cell HQ14.out 0).trans rfl; have qq1 : w13.cell? ⟨FB, 1, none⟩ = some (.int .i64 fd) := (blk_cell HQ14.out 1).trans rfl; have ee0 : w13.cell? ⟨EB, 0, none⟩ = some (.int .i64 y.f0) := (blk_cell HE14.out 0).trans rfl; clear hb) | (go_at_call 23; (with_reducible refine (box_Ahead.calls fn fd mn_ md_ _ _ HA2.out).mono ?_); rintro e w14 ⟨he, hb⟩; subst he; have HR15 := Aside0.mk (below_thru (w0 := Wb) hb HR14.out); have HQ15 := Aside0.mk (blk_below HQ14.out hb); have HE15 := Aside0.mk (blk_below HE14.out hb); have HW15 := Aside0.mk (blk_below HW14.out hb); have ee0 : w14.cell? ⟨EB, 0, none⟩ = some (.int .i64 y.f0) := (blk_cell HE15.out 0).trans rfl; clear hb))
                          go_meet
                          exact ⟨(by first | exact HC.out | (rw [← HC.out]; simp [hh])), HR15, HQ15, ⟨_, _, _, _, _, _, _, HE15.out⟩, HW15⟩
                        | false =>
                          have HC : Aside0 (Value.bool (decide (y.f0 < hit)) = .bool bc) := ⟨by rw [HBC.out]; simp [hh]⟩
                          go_wp2_with (first | (go_at_call 23; (with_reducible refine (box_Ahead.calls mn_ md_ fn fd _ _ HA1.out).mono ?_); rintro e w13 ⟨he, hb⟩; subst he; have HR14 := Aside0.mk (below_thru (w0 := Wb) hb HR13.out); have HQ14 := Aside0.mk (blk_below HQ13.out hb); have HE14 := Aside0.mk (blk_below HE13.out hb); have HW14 := Aside0.mk (blk_below HW13.out hb); have gg0 : w13.cell? ⟨WB, 0, none⟩ = some (.int .i64 mn_) := (blk_cell HW14.out 0).trans rfl; have gg1 : w13.cell? ⟨WB, 1, none⟩ = some (.int .i64 md_) := (blk_cell HW14.out 1).trans rfl; have qq0 : w13.cell? ⟨FB, 0, none⟩ = some (.int .i64 fn) := (blk_cell HQ14.out 0).trans rfl; have qq1 : w13.cell? ⟨FB, 1, none⟩ = some (.int .i64 fd) := (blk_cell HQ14.out 1).trans rfl; have ee0 : w13.cell? ⟨EB, 0, none⟩ = some (.int .i64 y.f0) := (blk_cell HE14.out 0).trans rfl; clear hb) | (go_at_call 23; (with_reducible refine (box_Ahead.calls fn fd mn_ md_ _ _ HA2.out).mono ?_); rintro e w14 ⟨he, hb⟩; subst he; have HR15 := Aside0.mk (below_thru (w0 := Wb) hb HR14.out); have HQ15 := Aside0.mk (blk_below HQ14.out hb); have HE15 := Aside0.mk (blk_below HE14.out hb); have HW15 := Aside0.mk (blk_below HW14.out hb); have ee0 : w14.cell? ⟨EB, 0, none⟩ = some (.int .i64 y.f0) := (blk_cell HE15.out 0).trans rfl; clear hb))
                          go_meet
                          exact ⟨(by first | exact HC.out | (rw [← HC.out]; simp [hh])), HR15, HQ15, ⟨_, _, _, _, _, _, _, HE15.out⟩, HW15⟩
                case rest =>
                  obtain ⟨rfl, HR15, HQ15, HE15, HW15⟩ := hcut
                  clear g0 g1 q0 q1 e0 HR13 HQ13 HE13 HW13 HA1 HA2
                  cases bc with
                  | false =>
                    go_upto_if 88 with fail
                    go_wp2_with fail
                    go_roundg (gk - 1)
                    case measure => have := HK.out; omega
                    case rel => exact ⟨k + 1, hit, fn, fd, rfl, by simp, ⟨by have := HK.out; omega⟩, HR15, HQ15, ⟨by rw [HNX.out, HN3.out]; simp⟩⟩
                  | true =>
                    obtain ⟨b1, b2, b3, b4, b5, b6, b7, hE15⟩ := HE15.out
                    have HEF : EB ≠ FB := by
                      rintro rfl
                      rw [HQ15.out] at hE15
                      simp at hE15
                    have e0 : wc.cell? ⟨EB, 0, none⟩ = some (.int .i64 y.f0) := (blk_cell hE15 0).trans rfl
                    have g0 : wc.cell? ⟨WB, 0, none⟩ = some (.int .i64 mn_) := (blk_cell HW15.out 0).trans rfl
                    have g1 : wc.cell? ⟨WB, 1, none⟩ = some (.int .i64 md_) := (blk_cell HW15.out 1).trans rfl
                    have q0 : wc.cell? ⟨FB, 0, none⟩ = some (.int .i64 fn) := (blk_cell HQ15.out 0).trans rfl
                    have q1 : wc.cell? ⟨FB, 1, none⟩ = some (.int .i64 fd) := (blk_cell HQ15.out 1).trans rfl
                    have qf0 : wc.frozen? ⟨FB, 0, none⟩ = false := blk_frozen HQ15.out 0
                    have qf1 : wc.frozen? ⟨FB, 1, none⟩ = false := blk_frozen HQ15.out 1
                    clear hE15 HE15
                    go_upto_region 14 with fail
                    go_region_held3 (fun w' => w'.cell? ⟨EB, 0, none⟩ = some (.int .i64 y.f0) ∧ w'.cell? ⟨WB, 0, none⟩ = some (.int .i64 mn_) ∧ w'.cell? ⟨WB, 1, none⟩ = some (.int .i64 md_)) (first | (refine ⟨?_, ?_, ?_⟩ <;> assumption) | (refine ⟨far2 e0 HEF _ _, far2 g0 (Ne.symm HNE.out) _ _, far2 g1 (Ne.symm HNE.out) _ _⟩) | go_keep) (fail)
                    all_goals
                      go_wp2_with fail
                      go_roundg (gk - 1)
                      case measure => have := HK.out; omega
                      case rel => exact ⟨k + 1, y.f0, mn_, md_, rfl, by simp, ⟨by have := HK.out; omega⟩, ⟨by (first | exact below_drew (low2 HR15.out (Nat.le_of_eq HFB.out) _ _) | exact low2 (below_drew HR15.out) (Nat.le_of_eq HFB.out) _ _)⟩, ⟨by (first | exact blk_drew (put2 HQ15.out _ _) | exact put2 (blk_drew HQ15.out) _ _)⟩, ⟨by rw [HNX.out, HN3.out]; simp⟩⟩
        · have hi2 : (xs.length : Int) ≤ k := by omega
          have HFIN : Aside0 (shotF ts ls shooter fx fy dx dy view part = hit) := ⟨by
            have hs2 := HS2.out
            rw [List.take_of_length_le (by omega)] at hs2
            unfold shotF
            rw [← HT.out.1, ← HT.out.2, if_pos HFT.out]
            unfold placeR
            rw [HL.out.1, HL.out.2.1, HL.out.2.2, ← HPL.out, hs2]⟩
          go_wp2_with fail
          go_ret
          refine ⟨?_, HB7.out.trans (HR.out.mono HB7.out.size)⟩
          rw [HFIN.out]
          rfl
end Go.Proofs.Ytcbmkhogmdkpdaa.Ring
