import Derived.Test.YtcbmkhogmdkpdaaRMeetA
set_option linter.unusedVariables false
set_option linter.unusedSimpArgs false
namespace Go.Proofs.Ytcbmkhogmdkpdaa.Ring
open Go.RowKit Go.ChangeMaps Go.Proofs.YtcbmkhogmdkpdaaW.PrintWords Go.Proofs.YtcbmkhogmdkpdaaW.PrintLast Go.Proofs.YtcbmkhogmdkpdaaW.PrintMore Go.Proofs.Ytcbmkhogmdkpdaa.PRewindNone Go.Proofs.Ytcbmkhogmdkpdaa.MapI Go.Proofs.Ytcbmkhogmdkpdaa.Plain Go.Proofs.Ytcbmkhogmdkpdaa.Pure
theorem meet_calls (fx fy tx ty : Int) (p : Int × Int) : ∃ l1 l2 l3 l4, box_Around.f p.1 p.2 24576 = some (l1, l2, l3, l4) ∧ box_Meet.f 5 fx fy tx ty l1 l2 l3 l4 = some ((meetF fx fy tx ty p).1.1, (meetF fx fy tx ty p).1.2, (meetF fx fy tx ty p).2) :=
  ⟨_, _, _, _, zAround p.1 p.2 24576, zMeet fx fy tx ty _ _ _ _ 0⟩
theorem or_mt {v : Value} {P Q : Prop} (h : (v = .bool false ∧ Aside0 P) ∨ (v = .bool true ∧ Aside0 Q)) : ∃ mt : Bool, v = .bool mt ∧ (mt = false → P) ∧ (mt = true → Q) := by
  rcases h with ⟨h1, h2⟩ | ⟨h1, h2⟩
  · exact ⟨false, h1, fun _ => h2.out, (fun h => by cases h)⟩
  · exact ⟨true, h1, (fun h => by cases h), fun _ => h2.out⟩
theorem cell_two {w : World} {p : Addr} {g : Nat} {v : Value} (h : w.cell? p = some v) (hne : p.block ≠ g) (a b : Value) : ((w.setCell ⟨g, 0, none⟩ a).setCell ⟨g, 1, none⟩ b).cell? p = some v := cell_kept h (kep2 (Kept.refl w (fun j => j = g)) (.inl rfl) a b) hne
theorem add_block' (ad : Addr) (m : Nat) : (ad.add m).block = ad.block := by
  unfold Addr.add
  split <;> rfl
set_option maxHeartbeats 8000000 in
set_option maxRecDepth 100000 in
theorem meets_walk (from_ : Int) (A : Option Addr) (n c : Nat) (xs : List S76) (sh fx fy dx dy tick part : Int) (w : World) (hC : Kd.C k76 w A n xs) (hf : 0 ≤ from_ ∧ from_ ≤ 65535) (hxs : ∀ x, x ∈ xs → 0 ≤ x.f0 ∧ x.f0 ≤ 255) (hp : 0 ≤ part ∧ part ≤ 255) :
    Calls Try.prog 5 #[.agg #[.int .u16 from_, .slice A n c], .agg #[.int .i64 sh, .int .i64 fx, .int .i64 fy, .int .i64 dx, .int .i64 dy], .agg #[.int .i64 tick, .int .u8 part]] w fun e w' => e = .returned (.bool true) ∧ Below w.heap.size w w' := by
  obtain rfl : xs.length = n := Kd.C_len hC
  have hB := below_alloc (below_alloc (below_alloc (Below.refl w.heap.size w) (.cells #[.int .u16 from_, .slice A xs.length c] 25 (0, 0))) (.cells #[.int .i64 sh, .int .i64 fx, .int .i64 fy, .int .i64 dx, .int .i64 dy] 30 (0, 0))) (.cells #[.int .i64 tick, .int .u8 part] 32 (0, 0))
  have hP := blk_alloc (blk_alloc (blk_new w (.cells #[.int .u16 from_, .slice A xs.length c] 25 (0, 0))) (.cells #[.int .i64 sh, .int .i64 fx, .int .i64 fy, .int .i64 dx, .int .i64 dy] 30 (0, 0))) (.cells #[.int .i64 tick, .int .u8 part] 32 (0, 0))
  have hY := blk_alloc (blk_new (w.alloc (.cells #[.int .u16 from_, .slice A xs.length c] 25 (0, 0))) (.cells #[.int .i64 sh, .int .i64 fx, .int .i64 fy, .int .i64 dx, .int .i64 dy] 30 (0, 0))) (.cells #[.int .i64 tick, .int .u8 part] 32 (0, 0))
  have hV := blk_new ((w.alloc (.cells #[.int .u16 from_, .slice A xs.length c] 25 (0, 0))).alloc (.cells #[.int .i64 sh, .int .i64 fx, .int .i64 fy, .int .i64 dx, .int .i64 dy] 30 (0, 0))) (.cells #[.int .i64 tick, .int .u8 part] 32 (0, 0))
  rw [show (w.alloc (.cells #[.int .u16 from_, .slice A xs.length c] 25 (0, 0))).heap.size = w.heap.size + 1 by simp] at hY
  rw [show ((w.alloc (.cells #[.int .u16 from_, .slice A xs.length c] 25 (0, 0))).alloc (.cells #[.int .i64 sh, .int .i64 fx, .int .i64 fy, .int .i64 dx, .int .i64 dy] 30 (0, 0))).heap.size = w.heap.size + 1 + 1 by simp] at hV
  have HB := Aside0.mk hB
  have HP := Aside0.mk hP
  have HY := Aside0.mk hY
  have HV := Aside0.mk hV
  have HC := Aside0.mk (Kd.C_below hC hB)
  have HL := Aside0.mk (laid_any from_ A xs.length c xs (((w.alloc (.cells #[.int .u16 from_, .slice A xs.length c] 25 (0, 0))).alloc (.cells #[.int .i64 sh, .int .i64 fx, .int .i64 fy, .int .i64 dx, .int .i64 dy] 30 (0, 0))).alloc (.cells #[.int .i64 tick, .int .u8 part] 32 (0, 0))) (Kd.C_below hC hB) hf hxs)
  clear hB hP hY hV hC hxs
  go_enter Try.func5, Try.ntmps5
  go_upto_region 1 with fail
  generalize ((w.alloc (.cells #[.int .u16 from_, .slice A xs.length c] 25 (0, 0))).alloc (.cells #[.int .i64 sh, .int .i64 fx, .int .i64 fy, .int .i64 dx, .int .i64 dy] 30 (0, 0))).alloc (.cells #[.int .i64 tick, .int .u8 part] 32 (0, 0)) = W1 at *
  obtain ⟨V, hVV⟩ : ∃ X, w.heap.size + 1 + 1 = X := ⟨_, rfl⟩
  rw [hVV] at HV
  rw [hVV]
  clear hVV
  obtain ⟨Y, hYY⟩ : ∃ X, w.heap.size + 1 = X := ⟨_, rfl⟩
  rw [hYY] at HY
  rw [hYY]
  clear hYY
  obtain ⟨P, hPP⟩ : ∃ P, w.heap.size = P := ⟨_, rfl⟩
  rw [hPP] at HP
  rw [hPP]
  clear hPP
  have p0 : W1.cell? ⟨P, 0, none⟩ = some (.int .u16 from_) := (blk_cell HP.out 0).trans rfl
  have p1 : W1.cell? ⟨P, 1, none⟩ = some (.slice A xs.length c) := (blk_cell HP.out 1).trans rfl
  go_upto_region 2 with (go_at_call 8; (with_reducible refine HL.out.mono ?_); rintro e w2 ⟨B, C, bv, he, hb, its, ht, hk, h80⟩; subst he; have H80 := Aside0.mk h80; have HB2 := Aside0.mk (HB.out.trans (hb.mono HB.out.size)); have HT2 := Aside0.mk ht; have HK2 := Aside0.mk hk; have HV2 := Aside0.mk (blk_below HV.out hb); have HY2 := Aside0.mk (blk_below HY.out hb); have HP2 := Aside0.mk (blk_below HP.out hb); have HC2 := Aside0.mk (Kd.C_below HC.out hb); clear hb ht hk h80)
  clear p0 p1 HL HP HV HC HY
  rcases H80.out with hbv | ⟨hbv, h80⟩
  · subst hbv
    go_wp2_with (go_at_call 9; (with_reducible refine (awake _).mono ?_); rintro e w3 ⟨rfl, hb⟩; have hb_ := HB2.out.trans (hb.mono HB2.out.size); clear HB2 hb; have HB2 := Aside0.mk hb_; clear hb_)
    go_ret
    exact ⟨rfl, HB2.out⟩
  · subst hbv
    clear H80
    have HH2 := Aside0.mk (HK2.out.holds HT2.out)
    have HSUB : Aside0 (∀ l, l ∈ listsOf its → ∃ x, x ∈ xs ∧ x.f1 = l) := ⟨fun l hl => by
      obtain ⟨y, hy, rfl⟩ := List.mem_map.1 hl
      exact List.mem_map.1 (HK2.out.2.2 y hy)⟩
    generalize ticksOf its = ts at *
    generalize listsOf its = ls at *
    clear HT2 HK2
    have H80 := Aside0.mk h80
    clear h80
    go_cut [41] (fun v wx => (v = .bool true ∨ (v = .bool false ∧ Aside0 (∀ l, l ∈ ls → ∀ y, y ∈ l → 1 ≤ y.f0))) ∧ Aside0 (Below w2.heap.size w2 wx))
    case first =>
      go_wp2_with (first | (go_at_call 9; (with_reducible refine (awake _).mono ?_); rintro e w3 ⟨rfl, hb⟩; have HB3 := Aside0.mk hb; have q0 : w3.cell? ⟨P, 0, none⟩ = some (.int .u16 from_) := (blk_cell (blk_below HP2.out hb) 0).trans rfl; have q1 : w3.cell? ⟨P, 1, none⟩ = some (.slice A xs.length c) := (blk_cell (blk_below HP2.out hb) 1).trans rfl; have HC3 := Aside0.mk (Kd.C_below HC2.out hb); clear hb) | (go_at_call 10; (with_reducible refine (formed_any from_ A c xs _ HC3.out).mono ?_); rintro e w4 ⟨v, he, hv, hb⟩; subst he; have HB4 := Aside0.mk (HB3.out.trans (hb.mono HB3.out.size)); clear hb; rcases hv with rfl | ⟨rfl, hid⟩))
      · go_meet
        exact ⟨.inl rfl, HB4⟩
      · go_meet
        exact ⟨.inr ⟨rfl, ⟨fun l hl y hy => by
          obtain ⟨x, hx, rfl⟩ := HSUB.out l hl
          exact hid H80.out x hx y hy⟩⟩, HB4⟩
    case rest =>
      obtain ⟨hv, HRx⟩ := hcut
      obtain ⟨wq3, hwq⟩ : ∃ x, x = wc := ⟨_, rfl⟩
      subst hwq
      have HBx := Aside0.mk (HB2.out.trans (HRx.out.mono HB2.out.size))
      have HVx := Aside0.mk (blk_below HV2.out HRx.out)
      have HYx := Aside0.mk (blk_below HY2.out HRx.out)
      have HHx := Aside0.mk (HH2.out.below HRx.out)
      clear HB2 HV2 HP2 HC2 HH2 HRx HY2 HSUB
      rcases hv with rfl | ⟨rfl, HIDS⟩
      · go_wp2_with (go_at_call 9; (with_reducible refine (awake _).mono ?_); rintro e w3 ⟨rfl, hb⟩; have hb_ := HBx.out.trans (hb.mono HBx.out.size); clear HBx hb; have HBx := Aside0.mk hb_; clear hb_)
        go_ret
        exact ⟨rfl, HBx.out⟩
      · have HLAW := Aside0.mk (shot_law (ts := ts) (ls := ls) sh fx fy dx dy tick part (fun e he => by
          cases hk : look (heldF ts tick) ts ls with
          | none => rw [hk] at he; simp at he
          | some l => rw [hk] at he; exact HIDS.out l (look_len hk) e he))
        obtain ⟨hit, hhit⟩ : ∃ h, h = shotF ts ls sh fx fy dx dy tick part := ⟨_, rfl⟩
        obtain ⟨tx, htx⟩ : ∃ x, x = hold (hold fx + hold dx) := ⟨_, rfl⟩
        obtain ⟨ty, hty⟩ : ∃ x, x = hold (hold fy + hold dy) := ⟨_, rfl⟩
        rw [← hhit, ← htx, ← hty] at HLAW
        have HHIT := Aside0.mk hhit
        have HTXY := Aside0.mk (And.intro htx hty)
        clear hhit htx hty HIDS
        have y0 : wq3.cell? ⟨Y, 0, none⟩ = some (.int .i64 sh) := (blk_cell HYx.out 0).trans rfl
        have y1 : wq3.cell? ⟨Y, 1, none⟩ = some (.int .i64 fx) := (blk_cell HYx.out 1).trans rfl
        have y2 : wq3.cell? ⟨Y, 2, none⟩ = some (.int .i64 fy) := (blk_cell HYx.out 2).trans rfl
        have y3 : wq3.cell? ⟨Y, 3, none⟩ = some (.int .i64 dx) := (blk_cell HYx.out 3).trans rfl
        have y4 : wq3.cell? ⟨Y, 4, none⟩ = some (.int .i64 dy) := (blk_cell HYx.out 4).trans rfl
        have v0 : wq3.cell? ⟨V, 0, none⟩ = some (.int .i64 tick) := (blk_cell HVx.out 0).trans rfl
        have v1 : wq3.cell? ⟨V, 1, none⟩ = some (.int .u8 part) := (blk_cell HVx.out 1).trans rfl
        go_upto_region 5 with (go_at_call 11; (with_reducible refine (HHx.out.shot sh fx fy dx dy tick part hp).mono ?_); rintro e w4 ⟨he, hb⟩; (rw [← HHIT.out] at he); subst he; have HB4 := Aside0.mk (HBx.out.trans (hb.mono HBx.out.size)); have HV4 := Aside0.mk (blk_below HVx.out hb); have HY4 := Aside0.mk (blk_below HYx.out hb); have HH4 := Aside0.mk (HHx.out.below hb); have v40 : w4.cell? ⟨V, 0, none⟩ = some (.int .i64 tick) := (blk_cell HV4.out 0).trans rfl; clear hb)
        clear y0 y1 y2 y3 y4 v0 v1 HBx HVx HYx HHx
        obtain ⟨l, hl⟩ : ∃ l, l = (look (heldF ts tick) ts ls).getD [] := ⟨_, rfl⟩
        have HLL := Aside0.mk hl
        rw [← hl] at HLAW
        clear hl
        go_upto_region 6 with (first | (go_at_call 18; (with_reducible refine (HH4.out.held tick).mono ?_); rintro e w5 ⟨he, hb⟩; subst he; have HB5 := Aside0.mk (HB4.out.trans (hb.mono HB4.out.size)); have HV5 := Aside0.mk (blk_below HV4.out hb); have HY5 := Aside0.mk (blk_below HY4.out hb); have HH5 := Aside0.mk (HH4.out.below hb); clear hb) | (go_at_call 14; (with_reducible refine (HH5.out.get (heldF ts tick)).mono ?_); rintro e w6 ⟨A6, c6, he, hb, hC6, hl6⟩; (rw [← HLL.out] at he hC6); subst he; have HC6 := Aside0.mk (hC6 w6 (Kept.refl _ _)); have HB6 := Aside0.mk (HB5.out.trans (hb.mono HB5.out.size)); have HV6 := Aside0.mk (blk_below HV5.out hb); have HY6 := Aside0.mk (blk_below HY5.out hb); have HH6 := Aside0.mk (HH5.out.below hb); have y1 : w6.cell? ⟨Y, 1, none⟩ = some (.int .i64 fx) := (blk_cell HY6.out 1).trans rfl; have y2 : w6.cell? ⟨Y, 2, none⟩ = some (.int .i64 fy) := (blk_cell HY6.out 2).trans rfl; have y3 : w6.cell? ⟨Y, 3, none⟩ = some (.int .i64 dx) := (blk_cell HY6.out 3).trans rfl; have y4 : w6.cell? ⟨Y, 4, none⟩ = some (.int .i64 dy) := (blk_cell HY6.out 4).trans rfl; clear hb hC6 hl6))
        go_upto_region 7 with (go_at_call 19; (with_reducible refine (rvadd_any fx fy dx dy _).mono ?_); rintro e w7 ⟨he, hb⟩; (rw [← HTXY.out.1, ← HTXY.out.2] at he); subst he; have HB7 := Aside0.mk (HB6.out.trans (hb.mono HB6.out.size)); have HV7 := Aside0.mk (blk_below HV6.out hb); have HY7 := Aside0.mk (blk_below HY6.out hb); have HH7 := Aside0.mk (HH6.out.below hb); have HC7 := Aside0.mk (Kd.C_below HC6.out hb); clear hb)
        have hTB := blk_new w7 (.cells #[.int .i64 tx, .int .i64 ty] 28 (0, 0))
        have HB8 := Aside0.mk (lowA HB7.out (Nat.le_refl _) (.cells #[.int .i64 tx, .int .i64 ty] 28 (0, 0)))
        have HV8 := Aside0.mk (blk_alloc HV7.out (.cells #[.int .i64 tx, .int .i64 ty] 28 (0, 0)))
        have HY8 := Aside0.mk (blk_alloc HY7.out (.cells #[.int .i64 tx, .int .i64 ty] 28 (0, 0)))
        have HH8 := Aside0.mk (HH7.out.below (below_alloc (Below.refl _ _) (.cells #[.int .i64 tx, .int .i64 ty] 28 (0, 0))))
        have HC8 := Aside0.mk (Kd.C_alloc HC7.out (.cells #[.int .i64 tx, .int .i64 ty] 28 (0, 0)))
        generalize w7.alloc (.cells #[.int .i64 tx, .int .i64 ty] 28 (0, 0)) = W8 at *
        generalize w7.heap.size = TB at *
        have HT8 := Aside0.mk hTB
        clear hTB y1 y2 y3 y4 v40 HB7 HV7 HY7 HH7 HC7 HB6 HV6 HY6 HH6 HC6 HB5 HV5 HY5 HH5 HB4 HV4 HY4 HH4
        go_upto_region 8 with fail
        have hFB := blk_new W8 (.cells #[.int .i64 0, .int .i64 0] 58 (0, 0))
        have HB9 := Aside0.mk (lowA HB8.out (Nat.le_refl _) (.cells #[.int .i64 0, .int .i64 0] 58 (0, 0)))
        have HV9 := Aside0.mk (blk_alloc HV8.out (.cells #[.int .i64 0, .int .i64 0] 58 (0, 0)))
        have HY9 := Aside0.mk (blk_alloc HY8.out (.cells #[.int .i64 0, .int .i64 0] 58 (0, 0)))
        have HT9 := Aside0.mk (blk_alloc HT8.out (.cells #[.int .i64 0, .int .i64 0] 58 (0, 0)))
        have HH9 := Aside0.mk (HH8.out.below (below_alloc (Below.refl _ _) (.cells #[.int .i64 0, .int .i64 0] 58 (0, 0))))
        have HC9 := Aside0.mk (Kd.C_alloc HC8.out (.cells #[.int .i64 0, .int .i64 0] 58 (0, 0)))
        have hne := Nat.ne_of_lt (blk_lt HT8.out)
        have hneY := Nat.ne_of_lt (blk_lt HY8.out)
        have hneV := Nat.ne_of_lt (blk_lt HV8.out)
        have H89 := Aside0.mk (below_alloc (Below.refl W8.heap.size W8) (.cells #[.int .i64 0, .int .i64 0] 58 (0, 0)))
        generalize W8.alloc (.cells #[.int .i64 0, .int .i64 0] 58 (0, 0)) = W9 at *
        obtain ⟨FB, hFBs⟩ : ∃ FB, W8.heap.size = FB := ⟨_, rfl⟩
        have HFS := Aside0.mk hFBs
        rw [hFBs] at hFB hne hneY hneV
        try rw [hFBs]
        clear hFBs
        have HF9 := Aside0.mk hFB
        have HNE := Aside0.mk (And.intro hne (And.intro hneY hneV))
        clear hFB hne hneY hneV
        go_cut [15] (fun v wx => v = .bool false ∧ W9 = wx)
        case first =>
          go_wp2_with fail
          go_meet
          exact ⟨rfl, rfl⟩
        obtain ⟨rfl, rfl⟩ := hcut
        apply_assumption
        refine wp_seq_k (fun K15 hK15 => ?_)
        go_cut [15] (fun v wx => Aside0 (Below w.heap.size w wx) ∧ Aside0 (wx.heap[V]? = some (.cells #[.int .i64 tick, .int .u8 part] 32 (0, 0))) ∧ Aside0 (wx.heap[Y]? = some (.cells #[.int .i64 sh, .int .i64 fx, .int .i64 fy, .int .i64 dx, .int .i64 dy] 30 (0, 0))) ∧ Aside0 (wx.heap[TB]? = some (.cells #[.int .i64 tx, .int .i64 ty] 28 (0, 0))) ∧ Aside0 (Holds wx (some ⟨B, 0, none⟩) ts ls) ∧ Aside0 (Kd.C k67 wx A6 l.length l) ∧ ∃ fn fd : Int, Aside0 (wx.heap[FB]? = some (.cells #[.int .i64 fn, .int .i64 fd] 58 (0, 0))) ∧
          ((v = .bool false ∧ Aside0 (∀ e, e ∈ l → e.f0 ≠ sh → ∀ p, placeR ts ls tick part e.f0 = some p → (meetF fx fy tx ty p).2 = false)) ∨ (v = .bool true ∧ Aside0 (∀ e, e ∈ l → e.f0 ≠ sh → ∀ q, placeR ts ls tick part e.f0 = some q → (meetF fx fy tx ty q).2 = true → ahd (meetF fx fy tx ty q).1 (fn, fd) = false))))
        case first =>
          rcases HLAW.out with ⟨hm1, h2⟩ | ⟨h0, h1, p, h2, h3, h4⟩
          · subst hm1
            have H2 := Aside0.mk h2
            clear h2
            go_wp2_with fail
            go_meet
            exact ⟨HB9, HV9, HY9, HT9, HH9, HC9, 0, 0, HF9, .inl ⟨rfl, H2⟩⟩
          · have H2 := Aside0.mk (And.intro h1 (And.intro h2 (And.intro h3 h4)))
            have hh0 : (0 : Int) ≤ hit := by omega
            have hh1 : ¬ hit = sh := h1
            clear h1 h2 h3 h4
            obtain ⟨hv1, hv2⟩ : W9.cell? ⟨V, 0, none⟩ = some (.int .i64 tick) ∧ W9.cell? ⟨V, 1, none⟩ = some (.int .u8 part) := ⟨(blk_cell HV9.out 0).trans rfl, (blk_cell HV9.out 1).trans rfl⟩
            have HPS : Aside0 (placeR ts ls tick part hit = some p) := ⟨H2.out.2.1⟩
            go_upto_region 11 with (go_at_call 20; (with_reducible refine (HH9.out.place hit tick part hp).mono ?_); rintro e w10 ⟨he, hb⟩; (rw [HPS.out] at he); simp only [Option.getD_some, Option.isSome_some] at he; subst he; have H8b := Aside0.mk (H89.out.trans (hb.mono H89.out.size)); have HF10 := Aside0.mk (blk_below HF9.out hb); clear hb)
            have hPB := blk_new w10 (.cells #[.int .i64 p.1, .int .i64 p.2] 28 (0, 0))
            have H8c := Aside0.mk (lowA H8b.out (Nat.le_refl _) (.cells #[.int .i64 p.1, .int .i64 p.2] 28 (0, 0)))
            have HF11 := Aside0.mk (blk_alloc HF10.out (.cells #[.int .i64 p.1, .int .i64 p.2] 28 (0, 0)))
            generalize w10.alloc (.cells #[.int .i64 p.1, .int .i64 p.2] 28 (0, 0)) = W11 at *
            generalize w10.heap.size = AB at *
            have HP11 := Aside0.mk hPB
            have HY11 := Aside0.mk (blk_below HY8.out H8c.out)
            have HT11 := Aside0.mk (blk_below HT8.out H8c.out)
            clear hPB hv1 hv2
            have HRa := Aside0.mk (Below.refl W11.heap.size W11)
            have m0a : W11.cell? ⟨AB, 0, none⟩ = some (.int .i64 p.1) := (blk_cell (HP11.out) 0).trans rfl
            have m1a : W11.cell? ⟨AB, 1, none⟩ = some (.int .i64 p.2) := (blk_cell (HP11.out) 1).trans rfl
            have m2a : W11.cell? ⟨Y, 1, none⟩ = some (.int .i64 fx) := (blk_cell (HY11.out) 1).trans rfl
            have m3a : W11.cell? ⟨Y, 2, none⟩ = some (.int .i64 fy) := (blk_cell (HY11.out) 2).trans rfl
            have m4a : W11.cell? ⟨TB, 0, none⟩ = some (.int .i64 tx) := (blk_cell (HT11.out) 0).trans rfl
            have m5a : W11.cell? ⟨TB, 1, none⟩ = some (.int .i64 ty) := (blk_cell (HT11.out) 1).trans rfl
            obtain ⟨l1, l2, l3, l4, hA, hM⟩ := meet_calls fx fy tx ty p
            have HA := Aside0.mk hA
            have HM := Aside0.mk hM
            clear hA hM
            obtain ⟨m, hm⟩ : ∃ m, m = meetF fx fy tx ty p := ⟨_, rfl⟩
            rw [← hm] at HM
            have Hm := Aside0.mk hm
            clear hm
            go_cut [18, 19] (fun vp vo wx => ∃ WB : Nat, vp = .pointer (some ⟨WB, 0, none⟩) ∧ vo = .bool m.2 ∧ Aside0 (Below W11.heap.size W11 wx) ∧ Aside0 (wx.heap[WB]? = some (.cells #[.int .i64 m.1.1, .int .i64 m.1.2] 58 (0, 0))))
            case first =>
              go_region_held3 (fun w' => w'.cell? ⟨AB, 0, none⟩ = some (.int .i64 p.1) ∧ w'.cell? ⟨AB, 1, none⟩ = some (.int .i64 p.2) ∧ w'.cell? ⟨Y, 1, none⟩ = some (.int .i64 fx) ∧ w'.cell? ⟨Y, 2, none⟩ = some (.int .i64 fy) ∧ w'.cell? ⟨TB, 0, none⟩ = some (.int .i64 tx) ∧ w'.cell? ⟨TB, 1, none⟩ = some (.int .i64 ty)) (first | (refine ⟨?_, ?_, ?_, ?_, ?_, ?_⟩ <;> assumption) | (refine ⟨far2 m0c nn2.1 _ _, far2 m1c nn2.1 _ _, far2 m2c nn2.2.1 _ _, far2 m3c nn2.2.1 _ _, far2 m4c nn2.2.2 _ _, far2 m5c nn2.2.2 _ _⟩) | (refine ⟨far2 m0c nn3.1 _ _, far2 m1c nn3.1 _ _, far2 m2c nn3.2.1 _ _, far2 m3c nn3.2.1 _ _, far2 m4c nn3.2.2 _ _, far2 m5c nn3.2.2 _ _⟩) | go_keep) (first | (go_at_call 22; (with_reducible refine (box_Around.calls p.1 p.2 24576 l1 l2 l3 l4 _ HA.out).mono ?_); rintro e w11 ⟨he, hb⟩; subst he; have HRb := Aside0.mk (below_thru (w0 := W11) hb (by (with_reducible repeat (first | exact HRa.out | refine lowA ?_ (Nat.le_refl _) _ | apply below_drew)))); have m0b : w11.cell? ⟨AB, 0, none⟩ = some (.int .i64 p.1) := (blk_cell (blk_below HP11.out HRb.out) 0).trans rfl; have m1b : w11.cell? ⟨AB, 1, none⟩ = some (.int .i64 p.2) := (blk_cell (blk_below HP11.out HRb.out) 1).trans rfl; have m2b : w11.cell? ⟨Y, 1, none⟩ = some (.int .i64 fx) := (blk_cell (blk_below HY11.out HRb.out) 1).trans rfl; have m3b : w11.cell? ⟨Y, 2, none⟩ = some (.int .i64 fy) := (blk_cell (blk_below HY11.out HRb.out) 2).trans rfl; have m4b : w11.cell? ⟨TB, 0, none⟩ = some (.int .i64 tx) := (blk_cell (blk_below HT11.out HRb.out) 0).trans rfl; have m5b : w11.cell? ⟨TB, 1, none⟩ = some (.int .i64 ty) := (blk_cell (blk_below HT11.out HRb.out) 1).trans rfl; (try (have zz : w11.heap[W11.heap.size]? = some (.cells #[.int .i64 0, .int .i64 0] 58 (0, 0)) := blk_below (by with_reducible first | exact blk_drew (blk_new W11 _) | exact blk_new W11 _ | exact new_drew W11 _ | exact blk_drew (new_drew W11 _)) hb)); clear hb) | (go_at_call 21; (with_reducible refine (box_Meet.calls _ fx fy tx ty l1 l2 l3 l4 _ _ _ _ HM.out).mono ?_); rintro e w12 ⟨he, hb⟩; subst he; have HRc := Aside0.mk (below_thru (w0 := W11) hb (by (with_reducible repeat (first | exact HRb.out | refine lowA ?_ (Nat.le_refl _) _ | apply below_drew)))); have m0c : w12.cell? ⟨AB, 0, none⟩ = some (.int .i64 p.1) := (blk_cell (blk_below HP11.out HRc.out) 0).trans rfl; have m1c : w12.cell? ⟨AB, 1, none⟩ = some (.int .i64 p.2) := (blk_cell (blk_below HP11.out HRc.out) 1).trans rfl; have m2c : w12.cell? ⟨Y, 1, none⟩ = some (.int .i64 fx) := (blk_cell (blk_below HY11.out HRc.out) 1).trans rfl; have m3c : w12.cell? ⟨Y, 2, none⟩ = some (.int .i64 fy) := (blk_cell (blk_below HY11.out HRc.out) 2).trans rfl; have m4c : w12.cell? ⟨TB, 0, none⟩ = some (.int .i64 tx) := (blk_cell (blk_below HT11.out HRc.out) 0).trans rfl; have m5c : w12.cell? ⟨TB, 1, none⟩ = some (.int .i64 ty) := (blk_cell (blk_below HT11.out HRc.out) 1).trans rfl; (try (have zz2 : w12.heap[W11.heap.size]? = some (.cells #[.int .i64 0, .int .i64 0] 58 (0, 0)) := blk_below (by with_reducible first | exact zz | exact blk_drew zz) hb; have nn2 := And.intro (Nat.ne_of_lt (blk_lt (HP11.out))) (And.intro (Nat.ne_of_lt (blk_lt (HY11.out))) (Nat.ne_of_lt (blk_lt (HT11.out)))); have zz2c0 : w12.cell? ⟨W11.heap.size, 0, none⟩ = some (.int .i64 0) := (blk_cell zz2 0).trans rfl; have zz2f0 : w12.frozen? ⟨W11.heap.size, 0, none⟩ = false := blk_frozen zz2 0; have zz2c1 : w12.cell? ⟨W11.heap.size, 1, none⟩ = some (.int .i64 0) := (blk_cell zz2 1).trans rfl; have zz2f1 : w12.frozen? ⟨W11.heap.size, 1, none⟩ = false := blk_frozen zz2 1)); (try (have zz3 : w12.heap[w11.heap.size]? = some (.cells #[.int .i64 0, .int .i64 0] 58 (0, 0)) := blk_below (by with_reducible first | exact blk_drew (blk_new w11 _) | exact blk_new w11 _ | exact new_drew w11 _ | exact blk_drew (new_drew w11 _)) hb; have nn3 := And.intro (Nat.ne_of_lt (blk_lt (blk_below HP11.out HRb.out))) (And.intro (Nat.ne_of_lt (blk_lt (blk_below HY11.out HRb.out))) (Nat.ne_of_lt (blk_lt (blk_below HT11.out HRb.out)))); have zz3c0 : w12.cell? ⟨w11.heap.size, 0, none⟩ = some (.int .i64 0) := (blk_cell zz3 0).trans rfl; have zz3f0 : w12.frozen? ⟨w11.heap.size, 0, none⟩ = false := blk_frozen zz3 0; have zz3c1 : w12.cell? ⟨w11.heap.size, 1, none⟩ = some (.int .i64 0) := (blk_cell zz3 1).trans rfl; have zz3f1 : w12.frozen? ⟨w11.heap.size, 1, none⟩ = false := blk_frozen zz3 1)); clear hb))
              · go_wp2_with fail
                go_meet
                exact ⟨_, rfl, rfl, ⟨lowA HRc.out (Nat.le_refl _) _⟩, ⟨blk_new _ _⟩⟩
              · go_wp2_with fail
                go_meet
                exact ⟨_, rfl, rfl, ⟨low2 HRc.out HRb.out.size _ _⟩, ⟨put2 zz3 _ _⟩⟩
              · go_wp2_with fail
                go_meet
                exact ⟨_, rfl, rfl, ⟨low2 HRc.out (Nat.le_refl _) _ _⟩, ⟨put2 zz2 _ _⟩⟩
            case rest =>
              obtain ⟨WB1, rfl, rfl, HRx, HW1⟩ := hcut
              obtain ⟨wq12, hwq⟩ : ∃ x, x = wc := ⟨_, rfl⟩
              subst hwq
              have hm2 : m.2 = true := by rw [Hm.out]; exact H2.out.2.2.1
              rw [hm2]
              have H8d := Aside0.mk (H8c.out.trans (HRx.out.mono H8c.out.size))
              have HF12 := Aside0.mk (blk_below HF11.out HRx.out)
              have y0 : wq12.cell? ⟨Y, 0, none⟩ = some (.int .i64 sh) := (blk_cell (blk_below HY8.out H8d.out) 0).trans rfl
              have g0 : wq12.cell? ⟨WB1, 0, none⟩ = some (.int .i64 m.1.1) := (blk_cell HW1.out 0).trans rfl
              have g1 : wq12.cell? ⟨WB1, 1, none⟩ = some (.int .i64 m.1.2) := (blk_cell HW1.out 1).trans rfl
              have q0 : wq12.cell? ⟨FB, 0, none⟩ = some (.int .i64 0) := (blk_cell HF12.out 0).trans rfl
              have q1 : wq12.cell? ⟨FB, 1, none⟩ = some (.int .i64 0) := (blk_cell HF12.out 1).trans rfl
              have qf0 : wq12.frozen? ⟨FB, 0, none⟩ = false := blk_frozen HF12.out 0
              have qf1 : wq12.frozen? ⟨FB, 1, none⟩ = false := blk_frozen HF12.out 1
              have HFIN := Aside0.mk (low2 H8d.out (Nat.le_of_eq HFS.out) (.int .i64 m.1.1) (.int .i64 m.1.2))
              clear hm2 m0a m1a m2a m3a m4a m5a HRa HA HM
              go_wp2_with fail
              go_meet
              refine ⟨⟨HB8.out.trans (HFIN.out.mono HB8.out.size)⟩, ⟨blk_below HV8.out HFIN.out⟩, ⟨blk_below HY8.out HFIN.out⟩, ⟨blk_below HT8.out HFIN.out⟩, ⟨HH8.out.below HFIN.out⟩, ⟨Kd.C_below HC8.out HFIN.out⟩, m.1.1, m.1.2, ⟨put2 HF12.out _ _⟩, .inr ⟨rfl, ⟨fun e he hne q hq hm => ?_⟩⟩⟩
              have := H2.out.2.2.2 e he hne q hq hm
              rw [← Hm.out] at this
              exact this
        case rest =>
          obtain ⟨HBl, HVl, HYl, HTl, HHl, HCl, fn, fd, HFl, hor⟩ := hcut
          obtain ⟨Wl, hwq⟩ : ∃ x, x = wc := ⟨_, rfl⟩
          subst hwq
          obtain ⟨mt, rfl, hmf, hmt⟩ := or_mt hor
          have HPR : Aside0 (∀ e, e ∈ l → e.f0 ≠ sh → ∀ q, placeR ts ls tick part e.f0 = some q → (meetF fx fy tx ty q).2 = true → mt = true ∧ ahd (meetF fx fy tx ty q).1 (fn, fd) = false) := ⟨fun e he hne q hq hm => by
            cases mt with
            | false => rw [hmf rfl e he hne q hq] at hm; cases hm
            | true => exact ⟨rfl, hmt rfl e he hne q hq hm⟩⟩
          clear hor hmf hmt HLAW HB8 HV8 HY8 HT8 HH8 HC8 HB9 HV9 HY9 HT9 HH9 HC9 H89 HF9 HNE
          refine hK15 _ _ ?_
          clear hK15 K15
          have hlen : l.length ≤ 1000 := by rw [HLL.out]; exact HHl.out.len _
          go_upto_region 16 with fail
          go_wp2_with fail
          go_loopg [20] l.length (fun kq v20 w' => ∃ k : Nat, v20 = .int .i64 (k : Int) ∧ Aside0 (kq + k = l.length) ∧ Aside0 (Below Wl.heap.size Wl w'))
          case atStart => exact ⟨0, rfl, ⟨rfl⟩, ⟨Below.refl _ _⟩⟩
          case round =>
            obtain ⟨k, rfl, HK, HR⟩ := hrel
            by_cases hi : (k : Int) < (l.length : Int)
            · obtain ⟨ad, e, x0, _⟩ := at_T67 (Kd.C_below HCl.out HR.out) (k : Int) (by omega) hi
              obtain ⟨ae, e2, xl0, _⟩ := at_T67 HCl.out (k : Int) (by omega) hi
              obtain rfl : ad = ae := by rw [e] at e2; injection e2
              cases e
              simp only [Int.toNat_natCast] at x0 xl0
              have hi1 : (0 : Int) ≤ k := by omega
              have hi3 : k < l.length := by omega
              have HMEM := Aside0.mk (show rd_T67 l (k : Int) ∈ l by
                simp only [rd_T67, Int.toNat_natCast, List.getD_eq_getElem?_getD, List.getElem?_eq_getElem hi3, Option.getD_some]
                exact List.getElem_mem _)
              generalize rd_T67 l (k : Int) = y at *
              have HX := Aside0.mk xl0
              clear xl0 e2
              obtain ⟨o, ho⟩ : ∃ o, placeR ts ls tick part y.f0 = o := ⟨_, rfl⟩
              have HO := Aside0.mk ho
              clear ho
              have v0a : wr.cell? ⟨V, 0, none⟩ = some (.int .i64 tick) := (blk_cell (blk_below HVl.out HR.out) 0).trans rfl
              have v1a : wr.cell? ⟨V, 1, none⟩ = some (.int .u8 part) := (blk_cell (blk_below HVl.out HR.out) 1).trans rfl
              have HHr := Aside0.mk ((HHl.out.below HR.out).below (below_drew (Below.refl _ _)))
              have HHs := Aside0.mk ((HHl.out.below HR.out))
              have hadb : (ad.add (k * 8)).block ≠ wr.heap.size := by
                rw [add_block']
                have h1 := Kd.C_lt HCl.out (by omega) (by decide)
                have h2 := HR.out.size
                omega
              have HADB := Aside0.mk hadb
              have HRa := Aside0.mk (Below.refl wr.heap.size wr)
              clear hadb
              go_upto_region 19 with fail
              go_cut [21, 22] (fun vp vo wx => ∃ AB : Nat, vp = .pointer (some ⟨AB, 0, none⟩) ∧ vo = .bool o.isSome ∧ Aside0 (Below wr.heap.size wr wx) ∧ Aside0 (wx.heap[AB]? = some (.cells #[.int .i64 (o.getD (0, 0)).1, .int .i64 (o.getD (0, 0)).2] 28 (0, 0))))
              case first =>
                go_region_held3 (fun w' => w'.cell? (ad.add (k * 8)) = some (.int .i64 y.f0) ∧ w'.cell? ⟨V, 0, none⟩ = some (.int .i64 tick) ∧ w'.cell? ⟨V, 1, none⟩ = some (.int .u8 part)) (first | (refine ⟨?_, ?_, ?_⟩ <;> assumption) | (refine ⟨cell_two x0c nn2.1 _ _, far2 v0c nn2.2 _ _, far2 v1c nn2.2 _ _⟩) | go_keep) (first | (go_at_call 20; (with_reducible refine (Holds.place (ts := ts) (ls := ls) ?_ y.f0 tick part hp).mono ?_); (· with_reducible first | exact HHs.out | exact HHr.out | exact HHs.out.below (below_drew (below_alloc (Below.refl _ _) _)) | exact HHs.out.below (below_alloc (Below.refl _ _) _) | exact HHr.out.below (below_alloc (Below.refl _ _) _)); rintro e w12 ⟨he, hb⟩; (rw [HO.out] at he); subst he; have HRc := Aside0.mk (below_thru (w0 := wr) hb (by (with_reducible repeat (first | exact HRa.out | refine lowA ?_ (Nat.le_refl _) _ | apply below_drew)))); have v0c : w12.cell? ⟨V, 0, none⟩ = some (.int .i64 tick) := (blk_cell (blk_below (blk_below HVl.out HR.out) HRc.out) 0).trans rfl; have v1c : w12.cell? ⟨V, 1, none⟩ = some (.int .u8 part) := (blk_cell (blk_below (blk_below HVl.out HR.out) HRc.out) 1).trans rfl; have x0c := cell_kept x0 (Kept.of_below HRc.out (fun _ => False)) (fun h => h); (try (have zz2 : w12.heap[wr.heap.size]? = some (.cells #[.int .i64 0, .int .i64 0] 28 (0, 0)) := blk_below (by with_reducible first | exact blk_drew (blk_new wr _) | exact blk_new wr _ | exact new_drew wr _ | exact blk_drew (new_drew wr _)) hb; have nn2 := And.intro HADB.out (Nat.ne_of_lt (blk_lt (blk_below HVl.out HR.out))); have zz2c0 : w12.cell? ⟨wr.heap.size, 0, none⟩ = some (.int .i64 0) := (blk_cell zz2 0).trans rfl; have zz2f0 : w12.frozen? ⟨wr.heap.size, 0, none⟩ = false := blk_frozen zz2 0; have zz2c1 : w12.cell? ⟨wr.heap.size, 1, none⟩ = some (.int .i64 0) := (blk_cell zz2 1).trans rfl; have zz2f1 : w12.frozen? ⟨wr.heap.size, 1, none⟩ = false := blk_frozen zz2 1)); clear hb))
                · go_wp2_with fail
                  go_meet
                  exact ⟨_, rfl, rfl, ⟨lowA HRc.out (Nat.le_refl _) _⟩, ⟨blk_new _ _⟩⟩
                · go_wp2_with fail
                  go_meet
                  exact ⟨_, rfl, rfl, ⟨low2 HRc.out (Nat.le_refl _) _ _⟩, ⟨put2 zz2 _ _⟩⟩
              case rest =>
                obtain ⟨AB2, rfl, rfl, HRx, HA2⟩ := hcut
                obtain ⟨wq20, hwq⟩ : ∃ x, x = wc := ⟨_, rfl⟩
                subst hwq
                have HR20 := Aside0.mk (HR.out.trans (HRx.out.mono HR.out.size))
                have x0w : wq20.cell? (ad.add (k * 8)) = some (.int .i64 y.f0) := cell_kept HX.out (Kept.of_below HR20.out (fun _ => False)) (fun h => h)
                have y0w : wq20.cell? ⟨Y, 0, none⟩ = some (.int .i64 sh) := (blk_cell (blk_below HYl.out HR20.out) 0).trans rfl
                clear x0 v0a v1a HHr HHs HRa HRx HR
                cases o with
                | none =>
                  simp only [Option.isSome_none]
                  go_upto_region 20 with fail
                  go_quiet (fail)
                  go_wp2_with fail
                  go_roundg (gk - 1)
                  case measure => have := HK.out; omega
                  case rel => exact ⟨k + 1, by simp, ⟨by have := HK.out; omega⟩, ⟨by repeat (first | exact HR20.out | apply below_drew | apply pw_below_drewN)⟩⟩
                | some q =>
                  simp only [Option.isSome_some, Option.getD_some] at HA2 ⊢
                  by_cases hs : y.f0 = sh
                  · have hsb : (y.f0 == sh) = true := beq_iff_eq.2 hs
                    clear hs
                    go_upto_region 20 with fail
                    go_quiet (fail)
                    go_wp2_with fail
                    go_roundg (gk - 1)
                    case measure => have := HK.out; omega
                    case rel => exact ⟨k + 1, by simp, ⟨by have := HK.out; omega⟩, ⟨by repeat (first | exact HR20.out | apply below_drew | apply pw_below_drewN)⟩⟩
                  · have hsb : (y.f0 == sh) = false := beq_eq_false_iff_ne.2 hs
                    have HS := Aside0.mk hs
                    clear hs
                    go_upto_region 20 with fail
                    go_cut [134] (fun v wx => v = .bool false ∧ Aside0 (Below wq20.heap.size wq20 wx))
                    case first =>
                      go_quiet (fail)
                      go_wp2_with fail
                      go_meet
                      exact ⟨rfl, ⟨by repeat (first | exact Below.refl _ _ | apply below_drew | apply pw_below_drewN)⟩⟩
                    case rest =>
                      obtain ⟨rfl, HRx⟩ := hcut
                      obtain ⟨wq21, hwq⟩ : ∃ x, x = wc := ⟨_, rfl⟩
                      subst hwq
                      have HR21 := Aside0.mk (HR20.out.trans (HRx.out.mono HR20.out.size))
                      have HA21 := Aside0.mk (blk_below HA2.out HRx.out)
                      have HY21 := Aside0.mk (blk_below HYl.out HR21.out)
                      have HT21 := Aside0.mk (blk_below HTl.out HR21.out)
                      clear x0w y0w HRx hsb
                      go_upto_region 21 with fail
                      have HRa := Aside0.mk (Below.refl wq21.heap.size wq21)
                      have m0a : wq21.cell? ⟨AB2, 0, none⟩ = some (.int .i64 q.1) := (blk_cell (HA21.out) 0).trans rfl
                      have m1a : wq21.cell? ⟨AB2, 1, none⟩ = some (.int .i64 q.2) := (blk_cell (HA21.out) 1).trans rfl
                      have m2a : wq21.cell? ⟨Y, 1, none⟩ = some (.int .i64 fx) := (blk_cell (HY21.out) 1).trans rfl
                      have m3a : wq21.cell? ⟨Y, 2, none⟩ = some (.int .i64 fy) := (blk_cell (HY21.out) 2).trans rfl
                      have m4a : wq21.cell? ⟨TB, 0, none⟩ = some (.int .i64 tx) := (blk_cell (HT21.out) 0).trans rfl
                      have m5a : wq21.cell? ⟨TB, 1, none⟩ = some (.int .i64 ty) := (blk_cell (HT21.out) 1).trans rfl
                      obtain ⟨l1, l2, l3, l4, hA, hM⟩ := meet_calls fx fy tx ty q
                      have HA := Aside0.mk hA
                      have HM := Aside0.mk hM
                      clear hA hM
                      obtain ⟨m2, hm2⟩ : ∃ m, m = meetF fx fy tx ty q := ⟨_, rfl⟩
                      rw [← hm2] at HM
                      have Hm2 := Aside0.mk hm2
                      clear hm2
                      go_cut [23, 24] (fun vp vo wx => ∃ WB : Nat, vp = .pointer (some ⟨WB, 0, none⟩) ∧ vo = .bool m2.2 ∧ Aside0 (Below wq21.heap.size wq21 wx) ∧ Aside0 (wx.heap[WB]? = some (.cells #[.int .i64 m2.1.1, .int .i64 m2.1.2] 58 (0, 0))))
                      case first =>
                        go_region_held3 (fun w' => w'.cell? ⟨AB2, 0, none⟩ = some (.int .i64 q.1) ∧ w'.cell? ⟨AB2, 1, none⟩ = some (.int .i64 q.2) ∧ w'.cell? ⟨Y, 1, none⟩ = some (.int .i64 fx) ∧ w'.cell? ⟨Y, 2, none⟩ = some (.int .i64 fy) ∧ w'.cell? ⟨TB, 0, none⟩ = some (.int .i64 tx) ∧ w'.cell? ⟨TB, 1, none⟩ = some (.int .i64 ty)) (first | (refine ⟨?_, ?_, ?_, ?_, ?_, ?_⟩ <;> assumption) | (refine ⟨far2 m0c nn2.1 _ _, far2 m1c nn2.1 _ _, far2 m2c nn2.2.1 _ _, far2 m3c nn2.2.1 _ _, far2 m4c nn2.2.2 _ _, far2 m5c nn2.2.2 _ _⟩) | (refine ⟨far2 m0c nn3.1 _ _, far2 m1c nn3.1 _ _, far2 m2c nn3.2.1 _ _, far2 m3c nn3.2.1 _ _, far2 m4c nn3.2.2 _ _, far2 m5c nn3.2.2 _ _⟩) | go_keep) (first | (go_at_call 22; (with_reducible refine (box_Around.calls q.1 q.2 24576 l1 l2 l3 l4 _ HA.out).mono ?_); rintro e w11 ⟨he, hb⟩; subst he; have HRb := Aside0.mk (below_thru (w0 := wq21) hb (by (with_reducible repeat (first | exact HRa.out | refine lowA ?_ (Nat.le_refl _) _ | apply below_drew)))); have m0b : w11.cell? ⟨AB2, 0, none⟩ = some (.int .i64 q.1) := (blk_cell (blk_below HA21.out HRb.out) 0).trans rfl; have m1b : w11.cell? ⟨AB2, 1, none⟩ = some (.int .i64 q.2) := (blk_cell (blk_below HA21.out HRb.out) 1).trans rfl; have m2b : w11.cell? ⟨Y, 1, none⟩ = some (.int .i64 fx) := (blk_cell (blk_below HY21.out HRb.out) 1).trans rfl; have m3b : w11.cell? ⟨Y, 2, none⟩ = some (.int .i64 fy) := (blk_cell (blk_below HY21.out HRb.out) 2).trans rfl; have m4b : w11.cell? ⟨TB, 0, none⟩ = some (.int .i64 tx) := (blk_cell (blk_below HT21.out HRb.out) 0).trans rfl; have m5b : w11.cell? ⟨TB, 1, none⟩ = some (.int .i64 ty) := (blk_cell (blk_below HT21.out HRb.out) 1).trans rfl; (try (have zz : w11.heap[wq21.heap.size]? = some (.cells #[.int .i64 0, .int .i64 0] 58 (0, 0)) := blk_below (by with_reducible first | exact blk_drew (blk_new wq21 _) | exact blk_new wq21 _ | exact new_drew wq21 _ | exact blk_drew (new_drew wq21 _)) hb)); clear hb) | (go_at_call 21; (with_reducible refine (box_Meet.calls _ fx fy tx ty l1 l2 l3 l4 _ _ _ _ HM.out).mono ?_); rintro e w12 ⟨he, hb⟩; subst he; have HRc := Aside0.mk (below_thru (w0 := wq21) hb (by (with_reducible repeat (first | exact HRb.out | refine lowA ?_ (Nat.le_refl _) _ | apply below_drew)))); have m0c : w12.cell? ⟨AB2, 0, none⟩ = some (.int .i64 q.1) := (blk_cell (blk_below HA21.out HRc.out) 0).trans rfl; have m1c : w12.cell? ⟨AB2, 1, none⟩ = some (.int .i64 q.2) := (blk_cell (blk_below HA21.out HRc.out) 1).trans rfl; have m2c : w12.cell? ⟨Y, 1, none⟩ = some (.int .i64 fx) := (blk_cell (blk_below HY21.out HRc.out) 1).trans rfl; have m3c : w12.cell? ⟨Y, 2, none⟩ = some (.int .i64 fy) := (blk_cell (blk_below HY21.out HRc.out) 2).trans rfl; have m4c : w12.cell? ⟨TB, 0, none⟩ = some (.int .i64 tx) := (blk_cell (blk_below HT21.out HRc.out) 0).trans rfl; have m5c : w12.cell? ⟨TB, 1, none⟩ = some (.int .i64 ty) := (blk_cell (blk_below HT21.out HRc.out) 1).trans rfl; (try (have zz2 : w12.heap[wq21.heap.size]? = some (.cells #[.int .i64 0, .int .i64 0] 58 (0, 0)) := blk_below (by with_reducible first | exact zz | exact blk_drew zz) hb; have nn2 := And.intro (Nat.ne_of_lt (blk_lt (HA21.out))) (And.intro (Nat.ne_of_lt (blk_lt (HY21.out))) (Nat.ne_of_lt (blk_lt (HT21.out)))); have zz2c0 : w12.cell? ⟨wq21.heap.size, 0, none⟩ = some (.int .i64 0) := (blk_cell zz2 0).trans rfl; have zz2f0 : w12.frozen? ⟨wq21.heap.size, 0, none⟩ = false := blk_frozen zz2 0; have zz2c1 : w12.cell? ⟨wq21.heap.size, 1, none⟩ = some (.int .i64 0) := (blk_cell zz2 1).trans rfl; have zz2f1 : w12.frozen? ⟨wq21.heap.size, 1, none⟩ = false := blk_frozen zz2 1)); (try (have zz3 : w12.heap[w11.heap.size]? = some (.cells #[.int .i64 0, .int .i64 0] 58 (0, 0)) := blk_below (by with_reducible first | exact blk_drew (blk_new w11 _) | exact blk_new w11 _ | exact new_drew w11 _ | exact blk_drew (new_drew w11 _)) hb; have nn3 := And.intro (Nat.ne_of_lt (blk_lt (blk_below HA21.out HRb.out))) (And.intro (Nat.ne_of_lt (blk_lt (blk_below HY21.out HRb.out))) (Nat.ne_of_lt (blk_lt (blk_below HT21.out HRb.out)))); have zz3c0 : w12.cell? ⟨w11.heap.size, 0, none⟩ = some (.int .i64 0) := (blk_cell zz3 0).trans rfl; have zz3f0 : w12.frozen? ⟨w11.heap.size, 0, none⟩ = false := blk_frozen zz3 0; have zz3c1 : w12.cell? ⟨w11.heap.size, 1, none⟩ = some (.int .i64 0) := (blk_cell zz3 1).trans rfl; have zz3f1 : w12.frozen? ⟨w11.heap.size, 1, none⟩ = false := blk_frozen zz3 1)); clear hb))
                        · go_wp2_with fail
                          go_meet
                          exact ⟨_, rfl, rfl, ⟨lowA HRc.out (Nat.le_refl _) _⟩, ⟨blk_new _ _⟩⟩
                        · go_wp2_with fail
                          go_meet
                          exact ⟨_, rfl, rfl, ⟨low2 HRc.out HRb.out.size _ _⟩, ⟨put2 zz3 _ _⟩⟩
                        · go_wp2_with fail
                          go_meet
                          exact ⟨_, rfl, rfl, ⟨low2 HRc.out (Nat.le_refl _) _ _⟩, ⟨put2 zz2 _ _⟩⟩
                      case rest =>
                        obtain ⟨WB2, rfl, rfl, HRx2, HW2⟩ := hcut
                        obtain ⟨wq22, hwq⟩ : ∃ x, x = wc := ⟨_, rfl⟩
                        subst hwq
                        have HR22 := Aside0.mk (HR21.out.trans (HRx2.out.mono HR21.out.size))
                        clear m0a m1a m2a m3a m4a m5a HRa HA HM
                        cases hm2 : m2.2 with
                        | false =>
                          go_upto_region 22 with fail
                          go_wp2_with fail
                          go_roundg (gk - 1)
                          case measure => have := HK.out; omega
                          case rel => exact ⟨k + 1, by simp, ⟨by have := HK.out; omega⟩, HR22⟩
                        | true =>
                          obtain ⟨hmt, ha⟩ := HPR.out y HMEM.out HS.out q HO.out (by rw [← Hm2.out]; exact hm2)
                          rw [← Hm2.out] at ha
                          subst hmt
                          have HAH : Aside0 (box_Ahead.f m2.1.1 m2.1.2 fn fd = some false) := ⟨by rw [zAhead]; exact congrArg some ha⟩
                          clear ha hm2
                          have g0 : wq22.cell? ⟨WB2, 0, none⟩ = some (.int .i64 m2.1.1) := (blk_cell HW2.out 0).trans rfl
                          have g1 : wq22.cell? ⟨WB2, 1, none⟩ = some (.int .i64 m2.1.2) := (blk_cell HW2.out 1).trans rfl
                          have q0 : wq22.cell? ⟨FB, 0, none⟩ = some (.int .i64 fn) := (blk_cell (blk_below HFl.out HR22.out) 0).trans rfl
                          have q1 : wq22.cell? ⟨FB, 1, none⟩ = some (.int .i64 fd) := (blk_cell (blk_below HFl.out HR22.out) 1).trans rfl
                          go_upto_region 22 with fail
                          go_wp2_with (go_at_call 23; (with_reducible refine (box_Ahead.calls m2.1.1 m2.1.2 fn fd _ _ HAH.out).mono ?_); rintro e w23 ⟨he, hb⟩; subst he; have HR23 := Aside0.mk (HR22.out.trans (hb.mono HR22.out.size)); clear hb)
                          go_roundg (gk - 1)
                          case measure => have := HK.out; omega
                          case rel => exact ⟨k + 1, by simp, ⟨by have := HK.out; omega⟩, HR23⟩
            · have hi2 : (l.length : Int) ≤ k := by omega
              have HE := Aside0.mk (HBl.out.trans (HR.out.mono HBl.out.size))
              go_wp2_with fail
              go_ret
              exact ⟨rfl, HE.out⟩
end Go.Proofs.Ytcbmkhogmdkpdaa.Ring
