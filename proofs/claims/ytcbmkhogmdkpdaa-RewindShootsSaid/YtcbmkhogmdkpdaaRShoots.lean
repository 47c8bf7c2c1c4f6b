import Derived.Test.YtcbmkhogmdkpdaaRSh
import Derived.Test.YtcbmkhogmdkpdaaRAwake
set_option linter.unusedVariables false
set_option linter.unusedSimpArgs false
namespace Go.Proofs.Ytcbmkhogmdkpdaa.Ring
open Go.RowKit Go.ChangeMaps Go.Proofs.YtcbmkhogmdkpdaaW.PrintWords Go.Proofs.YtcbmkhogmdkpdaaW.PrintLast Go.Proofs.YtcbmkhogmdkpdaaW.PrintMore Go.Proofs.Ytcbmkhogmdkpdaa.PRewindNone Go.Proofs.Ytcbmkhogmdkpdaa.MapI Go.Proofs.Ytcbmkhogmdkpdaa.Plain Go.Proofs.Ytcbmkhogmdkpdaa.Pure
set_option maxHeartbeats 8000000 in
set_option maxRecDepth 100000 in
theorem shoots_walk (from_ : Int) (A : Option Addr) (n c : Nat) (xs : List S76) (sh fx fy dx dy tick part : Int) (w : World) (hC : Kd.C k76 w A n xs) (hf : 0 ≤ from_ ∧ from_ ≤ 65535) (hxs : ∀ x, x ∈ xs → 0 ≤ x.f0 ∧ x.f0 ≤ 255) (hp : 0 ≤ part ∧ part ≤ 255) :
    Calls Try.prog 3 #[.agg #[.int .u16 from_, .slice A n c], .agg #[.int .i64 sh, .int .i64 fx, .int .i64 fy, .int .i64 dx, .int .i64 dy], .agg #[.int .i64 tick, .int .u8 part]] w fun e w' => e = .returned (.bool true) ∧ Below w.heap.size w w' := by
  obtain rfl : xs.length = n := Kd.C_len hC
  have hB := below_alloc (below_alloc (below_alloc (Below.refl w.heap.size w) (.cells #[.int .u16 from_, .slice A xs.length c] 25 (0, 0))) (.cells #[.int .i64 sh, .int .i64 fx, .int .i64 fy, .int .i64 dx, .int .i64 dy] 30 (0, 0))) (.cells #[.int .i64 tick, .int .u8 part] 32 (0, 0))
  have hP := blk_alloc (blk_alloc (blk_new w (.cells #[.int .u16 from_, .slice A xs.length c] 25 (0, 0))) (.cells #[.int .i64 sh, .int .i64 fx, .int .i64 fy, .int .i64 dx, .int .i64 dy] 30 (0, 0))) (.cells #[.int .i64 tick, .int .u8 part] 32 (0, 0))
  have hY := blk_alloc (blk_new (w.alloc (.cells #[.int .u16 from_, .slice A xs.length c] 25 (0, 0))) (.cells #[.int .i64 sh, .int .i64 fx, .int .i64 fy, .int .i64 dx, .int .i64 dy] 30 (0, 0))) (.cells #[.int .i64 tick, .int .u8 part] 32 (0, 0))
  have hV := blk_new ((w.alloc (.cells #[.int .u16 from_, .slice A xs.length c] 25 (0, 0))).alloc (.cells #[.int .i64 sh, .int .i64 fx, .int .i64 fy, .int .i64 dx, .int .i64 dy] 30 (0, 0))) (.cells #[.int .i64 tick, .int .u8 part] 32 (0, 0))
  rw [show (w.alloc (.cells #[.int .u16 from_, .slice A xs.length c] 25 (0, 0))).heap.size = w.heap.size + 1 by simp] at hY
  rw [show ((w.alloc (.cells #[.int .u16 from_, .slice A xs.length c] 25 (0, 0))).alloc (.cells #[.int .i64 sh, .int .i64 fx, .int .i64 fy, .int .i64 dx, .int .i64 dy] 30 (0, 0))).heap.size = w.heap.size + 1 + 1 by simp] at hV
  have HB := Aside0.mk hB
  have HP := Aside0.mk hP
  have HY := Aside0.mk hY
  have HV := Aside0.mk hV
  have HC := Aside0.mk (Kd.C_below hC hB)
  have HL := Aside0.mk (laid_any from_ A xs.length c xs (((w.alloc (.cells #[.int .u16 from_, .slice A xs.length c] 25 (0, 0))).alloc (.cells #[.int .i64 sh, .int .i64 fx, .int .i64 fy, .int .i64 dx, .int .i64 dy] 30 (0, 0))).alloc (.cells #[.int .i64 tick, .int .u8 part] 32 (0, 0))) (Kd.C_below hC hB) hf hxs)
  clear hB hP hY hV hC hxs
  go_enter Try.func3, Try.ntmps3
  go_upto_region 1 with fail
  generalize ((w.alloc (.cells #[.int .u16 from_, .slice A xs.length c] 25 (0, 0))).alloc (.cells #[.int .i64 sh, .int .i64 fx, .int .i64 fy, .int .i64 dx, .int .i64 dy] 30 (0, 0))).alloc (.cells #[.int .i64 tick, .int .u8 part] 32 (0, 0)) = W1 at *
  obtain ⟨V, hVV⟩ : ∃ X, w.heap.size + 1 + 1 = X := ⟨_, rfl⟩
  rw [hVV] at HV
  rw [hVV]
  clear hVV
  obtain ⟨Y, hYY⟩ : ∃ X, w.heap.size + 1 = X := ⟨_, rfl⟩
  rw [hYY] at HY
  rw [hYY]
  clear hYY
  obtain ⟨P, hPP⟩ : ∃ P, w.heap.size = P := ⟨_, rfl⟩
  rw [hPP] at HP
  rw [hPP]
  clear hPP
  have p0 : W1.cell? ⟨P, 0, none⟩ = some (.int .u16 from_) := (blk_cell HP.out 0).trans rfl
  have p1 : W1.cell? ⟨P, 1, none⟩ = some (.slice A xs.length c) := (blk_cell HP.out 1).trans rfl
  go_upto_region 2 with (go_at_call 8; (with_reducible refine HL.out.mono ?_); rintro e w2 ⟨B, C, bv, he, hb, its, ht, hk, h80⟩; subst he; have H80 := Aside0.mk h80; have HB2 := Aside0.mk (HB.out.trans (hb.mono HB.out.size)); have HT2 := Aside0.mk ht; have HK2 := Aside0.mk hk; have HV2 := Aside0.mk (blk_below HV.out hb); have HY2 := Aside0.mk (blk_below HY.out hb); have HP2 := Aside0.mk (blk_below HP.out hb); have HC2 := Aside0.mk (Kd.C_below HC.out hb); clear hb ht hk h80)
  clear p0 p1 HL HP HV HC HY
  rcases H80.out with hbv | ⟨hbv, h80⟩
  · subst hbv
    go_wp2_with (go_at_call 9; (with_reducible refine (awake _).mono ?_); rintro e w3 ⟨rfl, hb⟩; have hb_ := HB2.out.trans (hb.mono HB2.out.size); clear HB2 hb; have HB2 := Aside0.mk hb_; clear hb_)
    go_ret
    exact ⟨rfl, HB2.out⟩
  · subst hbv
    clear H80
    have HH2 := Aside0.mk (HK2.out.holds HT2.out)
    have HSUB : Aside0 (∀ l, l ∈ listsOf its → ∃ x, x ∈ xs ∧ x.f1 = l) := ⟨fun l hl => by
      obtain ⟨y, hy, rfl⟩ := List.mem_map.1 hl
      exact List.mem_map.1 (HK2.out.2.2 y hy)⟩
    have HF2 : Aside0 (RefAt w2 C its) := ⟨⟨⟨_, _, _, HT2.out⟩, HH2.out.bd, HK2.out.1⟩⟩
    clear HT2 HK2
    have H80 := Aside0.mk h80
    clear h80
    go_cut [26] (fun v wx => (v = .bool true ∨ (v = .bool false ∧ Aside0 (∀ l, l ∈ listsOf its → ∀ y, y ∈ l → 1 ≤ y.f0))) ∧ Aside0 (Below w2.heap.size w2 wx))
    case first =>
      go_wp2_with (first | (go_at_call 9; (with_reducible refine (awake _).mono ?_); rintro e w3 ⟨rfl, hb⟩; have HB3 := Aside0.mk hb; have q0 : w3.cell? ⟨P, 0, none⟩ = some (.int .u16 from_) := (blk_cell (blk_below HP2.out hb) 0).trans rfl; have q1 : w3.cell? ⟨P, 1, none⟩ = some (.slice A xs.length c) := (blk_cell (blk_below HP2.out hb) 1).trans rfl; have HC3 := Aside0.mk (Kd.C_below HC2.out hb); clear hb) | (go_at_call 10; (with_reducible refine (formed_any from_ A c xs _ HC3.out).mono ?_); rintro e w4 ⟨v, he, hv, hb⟩; subst he; have HB4 := Aside0.mk (HB3.out.trans (hb.mono HB3.out.size)); clear hb; rcases hv with rfl | ⟨rfl, hid⟩))
      · go_meet
        exact ⟨.inl rfl, HB4⟩
      · go_meet
        exact ⟨.inr ⟨rfl, ⟨fun l hl y hy => by
          obtain ⟨x, hx, rfl⟩ := HSUB.out l hl
          exact hid H80.out x hx y hy⟩⟩, HB4⟩
    case rest =>
      obtain ⟨hv, HRx⟩ := hcut
      obtain ⟨wq3, hwq⟩ : ∃ x, x = wc := ⟨_, rfl⟩
      subst hwq
      have HBx := Aside0.mk (HB2.out.trans (HRx.out.mono HB2.out.size))
      have HVx := Aside0.mk (blk_below HV2.out HRx.out)
      have HYx := Aside0.mk (blk_below HY2.out HRx.out)
      have HHx := Aside0.mk (HH2.out.below HRx.out)
      have HFx := Aside0.mk (HF2.out.below HRx.out)
      clear HB2 HV2 HP2 HC2 HH2 HF2 HRx HY2 HSUB
      rcases hv with rfl | ⟨rfl, HIDS⟩
      · go_wp2_with (go_at_call 9; (with_reducible refine (awake _).mono ?_); rintro e w3 ⟨rfl, hb⟩; have hb_ := HBx.out.trans (hb.mono HBx.out.size); clear HBx hb; have HBx := Aside0.mk hb_; clear hb_)
        go_ret
        exact ⟨rfl, HBx.out⟩
      · have HIDL : Aside0 (∀ e, e ∈ (look (heldF (ticksOf its) tick) (ticksOf its) (listsOf its)).getD [] → 1 ≤ e.f0) := ⟨fun e he => by
          cases hk : look (heldF (ticksOf its) tick) (ticksOf its) (listsOf its) with
          | none => rw [hk] at he; simp at he
          | some l => rw [hk] at he; exact HIDS.out l (look_len hk) e he⟩
        obtain ⟨hit, hhit⟩ : ∃ h, h = shotF (ticksOf its) (listsOf its) sh fx fy dx dy tick part := ⟨_, rfl⟩
        have HHIT := Aside0.mk hhit
        clear hhit HIDS
        go_upto_region 4 with fail
        have y0a : wq3.cell? ⟨Y, 0, none⟩ = some (.int .i64 sh) := (blk_cell (HYx.out) 0).trans rfl
        have y1a : wq3.cell? ⟨Y, 1, none⟩ = some (.int .i64 fx) := (blk_cell (HYx.out) 1).trans rfl
        have y2a : wq3.cell? ⟨Y, 2, none⟩ = some (.int .i64 fy) := (blk_cell (HYx.out) 2).trans rfl
        have y3a : wq3.cell? ⟨Y, 3, none⟩ = some (.int .i64 dx) := (blk_cell (HYx.out) 3).trans rfl
        have y4a : wq3.cell? ⟨Y, 4, none⟩ = some (.int .i64 dy) := (blk_cell (HYx.out) 4).trans rfl
        have v0a : wq3.cell? ⟨V, 0, none⟩ = some (.int .i64 tick) := (blk_cell (HVx.out) 0).trans rfl
        have v1a : wq3.cell? ⟨V, 1, none⟩ = some (.int .u8 part) := (blk_cell (HVx.out) 1).trans rfl
        go_region_held3 (fun w' => w'.cell? ⟨Y, 0, none⟩ = some (.int .i64 sh) ∧ w'.cell? ⟨Y, 1, none⟩ = some (.int .i64 fx) ∧ w'.cell? ⟨Y, 2, none⟩ = some (.int .i64 fy) ∧ w'.cell? ⟨Y, 3, none⟩ = some (.int .i64 dx) ∧ w'.cell? ⟨Y, 4, none⟩ = some (.int .i64 dy) ∧ w'.cell? ⟨V, 0, none⟩ = some (.int .i64 tick) ∧ w'.cell? ⟨V, 1, none⟩ = some (.int .u8 part)) (first | (refine ⟨?_, ?_, ?_, ?_, ?_, ?_, ?_⟩ <;> assumption) | go_keep) (first | (go_at_call 11; (with_reducible refine ((HHx.out.below (by (with_reducible repeat (first | exact Below.refl _ _ | apply below_drew)))).shot sh fx fy dx dy tick part hp).mono ?_); rintro e w4 ⟨he, hb⟩; (rw [← HHIT.out] at he); subst he; have HRb := Aside0.mk (below_thru (w0 := wq3) hb (by (with_reducible repeat (first | exact Below.refl _ _ | apply below_drew)))); have y0b : w4.cell? ⟨Y, 0, none⟩ = some (.int .i64 sh) := (blk_cell (blk_below HYx.out HRb.out) 0).trans rfl; have y1b : w4.cell? ⟨Y, 1, none⟩ = some (.int .i64 fx) := (blk_cell (blk_below HYx.out HRb.out) 1).trans rfl; have y2b : w4.cell? ⟨Y, 2, none⟩ = some (.int .i64 fy) := (blk_cell (blk_below HYx.out HRb.out) 2).trans rfl; have y3b : w4.cell? ⟨Y, 3, none⟩ = some (.int .i64 dx) := (blk_cell (blk_below HYx.out HRb.out) 3).trans rfl; have y4b : w4.cell? ⟨Y, 4, none⟩ = some (.int .i64 dy) := (blk_cell (blk_below HYx.out HRb.out) 4).trans rfl; have v0b : w4.cell? ⟨V, 0, none⟩ = some (.int .i64 tick) := (blk_cell (blk_below HVx.out HRb.out) 0).trans rfl; have v1b : w4.cell? ⟨V, 1, none⟩ = some (.int .u8 part) := (blk_cell (blk_below HVx.out HRb.out) 1).trans rfl; clear hb) | (go_at_call 12; (with_reducible refine ((HFx.out.below (by (with_reducible repeat (first | exact HRb.out | apply below_drew)))).shot sh fx fy dx dy tick part hp HIDL.out).mono ?_); rintro e w5 ⟨he, hb⟩; (rw [← HHIT.out] at he); subst he; have HRc := Aside0.mk (below_thru (w0 := wq3) hb (by (with_reducible repeat (first | exact HRb.out | apply below_drew)))); have y0c : w5.cell? ⟨Y, 0, none⟩ = some (.int .i64 sh) := (blk_cell (blk_below HYx.out HRc.out) 0).trans rfl; have y1c : w5.cell? ⟨Y, 1, none⟩ = some (.int .i64 fx) := (blk_cell (blk_below HYx.out HRc.out) 1).trans rfl; have y2c : w5.cell? ⟨Y, 2, none⟩ = some (.int .i64 fy) := (blk_cell (blk_below HYx.out HRc.out) 2).trans rfl; have y3c : w5.cell? ⟨Y, 3, none⟩ = some (.int .i64 dx) := (blk_cell (blk_below HYx.out HRc.out) 3).trans rfl; have y4c : w5.cell? ⟨Y, 4, none⟩ = some (.int .i64 dy) := (blk_cell (blk_below HYx.out HRc.out) 4).trans rfl; have v0c : w5.cell? ⟨V, 0, none⟩ = some (.int .i64 tick) := (blk_cell (blk_below HVx.out HRc.out) 0).trans rfl; have v1c : w5.cell? ⟨V, 1, none⟩ = some (.int .u8 part) := (blk_cell (blk_below HVx.out HRc.out) 1).trans rfl; clear hb))
        all_goals
          go_wp2_with fail
          go_ret
          exact ⟨rfl, HBx.out.trans ((by (with_reducible repeat (first | exact HRc.out | apply below_drew)) : Below wq3.heap.size wq3 _).mono HBx.out.size)⟩
end Go.Proofs.Ytcbmkhogmdkpdaa.Ring
