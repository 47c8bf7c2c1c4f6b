import Derived.Test.YtcbmkhogmdkpdaaRListP
import Derived.Test.YtcbmkhogmdkpdaaRStays
set_option linter.unusedVariables false
set_option linter.unusedSimpArgs false
namespace Go.Proofs.Ytcbmkhogmdkpdaa.Ring
open Go.RowKit Go.ChangeMaps Go.Proofs.YtcbmkhogmdkpdaaW.PrintWords Go.Proofs.YtcbmkhogmdkpdaaW.PrintLast Go.Proofs.YtcbmkhogmdkpdaaW.PrintMore Go.Proofs.Ytcbmkhogmdkpdaa.PRewindNone Go.Proofs.Ytcbmkhogmdkpdaa.MapI Go.Proofs.Ytcbmkhogmdkpdaa.Plain Go.Proofs.Ytcbmkhogmdkpdaa.Pure
set_option maxHeartbeats 8000000 in
set_option maxRecDepth 100000 in
theorem formed_any (from_ : Int) (A : Option Addr) (c : Nat) (xs : List S76) (w : World) (hC : Kd.C k76 w A xs.length xs) :
    Calls Try.prog 10 #[.agg #[.int .u16 from_, .slice A xs.length c]] w fun e w' => ∃ v, e = .returned v ∧ (v = .bool false ∨ (v = .bool true ∧ (xs.length ≤ 80 → ∀ x, x ∈ xs → ∀ y, y ∈ x.f1 → 1 ≤ y.f0))) ∧ Below w.heap.size w w' := by
  have HC := Aside0.mk (Kd.C_alloc hC (.cells #[.int .u16 from_, .slice A xs.length c] 25 (0, 0)))
  have hP := blk_new w (.cells #[.int .u16 from_, .slice A xs.length c] 25 (0, 0))
  have HB := Aside0.mk (below_alloc (Below.refl w.heap.size w) (.cells #[.int .u16 from_, .slice A xs.length c] 25 (0, 0)))
  clear hC
  go_enter Try.func10, Try.ntmps10
  go_upto_region 1 with fail
  generalize w.alloc (.cells #[.int .u16 from_, .slice A xs.length c] 25 (0, 0)) = W1 at *
  obtain ⟨P, hPP⟩ : ∃ P, w.heap.size = P := ⟨_, rfl⟩
  have HPP := Aside0.mk hPP
  rw [hPP] at hP
  rw [hPP]
  clear hPP
  have HP := Aside0.mk hP
  clear hP
  go_wp2_with fail
  go_loopg [3] xs.length (fun kq v3 w' => ∃ k : Nat, v3 = .int .i64 (k : Int) ∧ Aside0 (kq + k = xs.length) ∧ Aside0 (∀ i, i < k → ∀ y, y ∈ (rd_T76 xs (i : Int)).f1 → 1 ≤ y.f0) ∧ Aside0 (Below W1.heap.size W1 w'))
  case atStart => exact ⟨0, rfl, ⟨rfl⟩, ⟨fun i hi => by omega⟩, ⟨Below.refl _ _⟩⟩
  case round =>
    obtain ⟨k, rfl, HK, HO, HR⟩ := hrel
    have p1 : wr.cell? ⟨P, 1, none⟩ = some (.slice A xs.length c) := (blk_cell (blk_below HP.out HR.out) 1).trans rfl
    by_cases hi : (k : Int) < (xs.length : Int)
    · by_cases h80 : (k : Int) < 80
      · obtain ⟨ad, A1, c1, e, hx0, hx1, hl1, hC1⟩ := at_T76 (Kd.C_below HC.out HR.out) (k : Int) (by omega) hi
        cases e
        simp only [Int.toNat_natCast] at hx0 hx1
        have hi1 : (0 : Int) ≤ k := by omega
        have hi3 : k < xs.length := by omega
        obtain ⟨l, hl⟩ : ∃ l, l = (rd_T76 xs (k : Int)).f1 := ⟨_, rfl⟩
        rw [← hl] at hx1 hl1 hC1
        obtain ⟨b, hb1, hcall⟩ := list_any (A := A1) (c := c1) (xs := l) (Kd.C_max hC1)
        have HL := Aside0.mk (hcall wr hC1 hl1)
        have HLL := Aside0.mk hl
        clear hl hC1 hcall
        cases b with
        | false =>
          go_wp2_with (go_at_call 26; (with_reducible refine HL.out.mono ?_); rintro e w1 ⟨he, hb⟩; subst he; have HE := Aside0.mk (HB.out.trans ((HR.out.trans (hb.mono HR.out.size)).mono HB.out.size)); clear hb)
          go_ret
          exact ⟨_, rfl, .inl rfl, HE.out⟩
        | true =>
          have HID := Aside0.mk (hb1 rfl)
          go_wp2_with (go_at_call 26; (with_reducible refine HL.out.mono ?_); rintro e w1 ⟨he, hb⟩; subst he; have HE := Aside0.mk (HR.out.trans (hb.mono HR.out.size)); clear hb)
          go_roundg (gk - 1)
          case measure => have := HK.out; omega
          case rel => exact ⟨k + 1, by simp, ⟨by have := HK.out; omega⟩, ⟨fun i hi y hy => by rcases Nat.lt_succ_iff_lt_or_eq.1 hi with h | rfl; (· exact HO.out i h y hy); (· exact HID.out y (by rw [HLL.out]; exact hy))⟩, HE⟩
      · have hn80 : Aside0 (¬ xs.length ≤ 80) := ⟨by omega⟩
        have HE := Aside0.mk (HB.out.trans (HR.out.mono HB.out.size))
        go_wp2_with fail
        go_ret
        first | exact ⟨_, rfl, .inr ⟨rfl, fun h => absurd h hn80.out⟩, HE.out⟩ | exact ⟨_, rfl, .inr rfl, HE.out⟩
    · have hi2 : (xs.length : Int) ≤ k := by omega
      have HE := Aside0.mk (HB.out.trans (HR.out.mono HB.out.size))
      have HALL : Aside0 (∀ x, x ∈ xs → ∀ y, y ∈ x.f1 → 1 ≤ y.f0) := ⟨fun x hx y hy => by
        obtain ⟨i, hi, rfl⟩ := List.getElem_of_mem hx
        refine HO.out i (by omega) y ?_
        simpa [rd_T76, List.getD, List.getElem?_eq_getElem hi] using hy⟩
      go_wp2_with fail
      go_ret
      exact ⟨_, rfl, .inr ⟨rfl, fun _ => HALL.out⟩, HE.out⟩
theorem held_last {ts : List Int} (h : lastOf ts ≠ -1) (hb : -1 ≤ firstOf ts ∧ firstOf ts ≤ lastOf ts) {p : Int} (hp : 0 ≤ p) : heldF ts (lastOf ts + p) = lastOf ts := by
  unfold heldF
  omega
theorem held_first {ts : List Int} (h : lastOf ts ≠ -1) (hb : -1 ≤ firstOf ts ∧ firstOf ts ≤ lastOf ts) {p : Int} (hp : 0 ≤ p) : heldF ts (firstOf ts - p) = firstOf ts := by
  unfold heldF
  omega
theorem look_past {ts : List Int} {ls : List (List S67)} (h : ts.Pairwise (· < ·)) : look (lastOf ts + 1) ts ls = none := look_none fun t ht => by
  have := le_last h t ht
  omega
theorem place_stood (xs : List S67) (p q id : Int) : placeF xs [] false p id = placeF xs [] false q id := by
  unfold placeF
  cases liv id xs with
  | none => rfl
  | some a => simp [liv, findFrom]
theorem place_last {ts : List Int} {ls : List (List S67)} (hr : ts.Pairwise (· < ·)) (h : lastOf ts ≠ -1) (hb : -1 ≤ firstOf ts ∧ firstOf ts ≤ lastOf ts) {p : Int} (hp : 0 ≤ p) (id : Int) : placeR ts ls (lastOf ts + p) 0 id = placeR ts ls (lastOf ts) p id := by
  unfold placeR
  have h0 := held_last h hb (p := 0) (Int.le_refl _)
  rw [Int.add_zero] at h0
  rw [held_last h hb hp, h0, look_past hr]
  exact place_stood _ _ _ _
theorem place_first {ts : List Int} {ls : List (List S67)} (h : lastOf ts ≠ -1) (hb : -1 ≤ firstOf ts ∧ firstOf ts ≤ lastOf ts) {p : Int} (hp : 0 ≤ p) (id : Int) : placeR ts ls (firstOf ts - 1 - p) p id = placeR ts ls (firstOf ts) p id := by
  unfold placeR
  have h0 := held_first h hb (p := 0) (Int.le_refl _)
  rw [Int.sub_zero] at h0
  rw [show firstOf ts - 1 - p = firstOf ts - (1 + p) by omega, held_first h hb (by omega), h0]
attribute [local go_sem high] eqA28
set_option maxHeartbeats 8000000 in
set_option maxRecDepth 100000 in
theorem last_walk (from_ : Int) (A : Option Addr) (n c : Nat) (xs : List S76) (id tick part : Int) (w : World) (hC : Kd.C k76 w A n xs) (hf : 0 ≤ from_ ∧ from_ ≤ 65535) (hxs : ∀ x, x ∈ xs → 0 ≤ x.f0 ∧ x.f0 ≤ 255) (hp : 0 ≤ part ∧ part ≤ 255) :
    Calls Try.prog 7 #[.agg #[.int .u16 from_, .slice A n c], .int .i64 id, .agg #[.int .i64 tick, .int .u8 part]] w fun e w' => e = .returned (.bool true) ∧ Below w.heap.size w w' := by
  obtain rfl : xs.length = n := Kd.C_len hC
  have hB := below_alloc (below_alloc (Below.refl w.heap.size w) (.cells #[.int .u16 from_, .slice A xs.length c] 25 (0, 0))) (.cells #[.int .i64 tick, .int .u8 part] 32 (0, 0))
  have hP := blk_alloc (blk_new w (.cells #[.int .u16 from_, .slice A xs.length c] 25 (0, 0))) (.cells #[.int .i64 tick, .int .u8 part] 32 (0, 0))
  have hV := blk_new (w.alloc (.cells #[.int .u16 from_, .slice A xs.length c] 25 (0, 0))) (.cells #[.int .i64 tick, .int .u8 part] 32 (0, 0))
  rw [show (w.alloc (.cells #[.int .u16 from_, .slice A xs.length c] 25 (0, 0))).heap.size = w.heap.size + 1 by simp] at hV
  have HB := Aside0.mk hB
  have HP := Aside0.mk hP
  have HV := Aside0.mk hV
  have HC := Aside0.mk (Kd.C_below hC hB)
  have HL := Aside0.mk (laid_any from_ A xs.length c xs ((w.alloc (.cells #[.int .u16 from_, .slice A xs.length c] 25 (0, 0))).alloc (.cells #[.int .i64 tick, .int .u8 part] 32 (0, 0))) (Kd.C_below hC hB) hf hxs)
  clear hB hP hV hC hxs
  go_enter Try.func7, Try.ntmps7
  go_upto_region 1 with fail
  generalize (w.alloc (.cells #[.int .u16 from_, .slice A xs.length c] 25 (0, 0))).alloc (.cells #[.int .i64 tick, .int .u8 part] 32 (0, 0)) = W1 at *
  obtain ⟨V, hVV⟩ : ∃ X, w.heap.size + 1 = X := ⟨_, rfl⟩
  rw [hVV] at HV
  rw [hVV]
  clear hVV
  obtain ⟨P, hPP⟩ : ∃ P, w.heap.size = P := ⟨_, rfl⟩
  rw [hPP] at HP
  rw [hPP]
  clear hPP
  have p0 : W1.cell? ⟨P, 0, none⟩ = some (.int .u16 from_) := (blk_cell HP.out 0).trans rfl
  have p1 : W1.cell? ⟨P, 1, none⟩ = some (.slice A xs.length c) := (blk_cell HP.out 1).trans rfl
  go_upto_region 2 with (go_at_call 8; (with_reducible refine HL.out.mono ?_); rintro e w2 ⟨B, C, bv, he, hb, its, ht, hk, h80⟩; subst he; have H80 := Aside0.mk h80; have HB2 := Aside0.mk (HB.out.trans (hb.mono HB.out.size)); have HT2 := Aside0.mk ht; have HK2 := Aside0.mk hk; have HV2 := Aside0.mk (blk_below HV.out hb); have HP2 := Aside0.mk (blk_below HP.out hb); have HC2 := Aside0.mk (Kd.C_below HC.out hb); clear hb ht hk h80)
  clear p0 p1 HL HP HV HC
  rcases H80.out with hbv | ⟨hbv, h80⟩
  · subst hbv
    go_wp2_with (go_at_call 9; (with_reducible refine (awake _).mono ?_); rintro e w3 ⟨rfl, hb⟩; have hb_ := HB2.out.trans (hb.mono HB2.out.size); clear HB2 hb; have HB2 := Aside0.mk hb_; clear hb_)
    go_ret
    exact ⟨rfl, HB2.out⟩
  · subst hbv
    clear H80
    have HH2 := Aside0.mk (HK2.out.holds HT2.out)
    have HRS : Aside0 ((ticksOf its).Pairwise (· < ·)) := ⟨HT2.out.2.2.choose_spec.choose_spec.1.1.2.1⟩
    generalize ticksOf its = ts at *
    generalize listsOf its = ls at *
    clear HT2 HK2
    go_cut [39] (fun v wx => (v = .bool true ∨ (v = .bool false ∧ 0 ≤ lastOf ts)) ∧ Aside0 (Below w2.heap.size w2 wx))
    case first =>
      go_wp2_with (first | (go_at_call 9; (with_reducible refine (awake _).mono ?_); rintro e w3 ⟨rfl, hb⟩; have HB3 := Aside0.mk hb; have q0 : w3.cell? ⟨P, 0, none⟩ = some (.int .u16 from_) := (blk_cell (blk_below HP2.out hb) 0).trans rfl; have q1 : w3.cell? ⟨P, 1, none⟩ = some (.slice A xs.length c) := (blk_cell (blk_below HP2.out hb) 1).trans rfl; have HC3 := Aside0.mk (Kd.C_below HC2.out hb); have HH3 := Aside0.mk (HH2.out.below hb); clear hb) | (go_at_call 10; (with_reducible refine (formed_any from_ A c xs _ HC3.out).mono ?_); rintro e w4 ⟨v, he, hv, hb⟩; subst he; have HB4 := Aside0.mk (HB3.out.trans (hb.mono HB3.out.size)); have HH4 := Aside0.mk (HH3.out.below hb); clear hb; rcases hv with rfl | ⟨rfl, _⟩) | (go_at_call 17; (with_reducible refine HH4.out.last.mono ?_); rintro e w5 ⟨he, hd⟩; subst he; have HB5 := Aside0.mk (HB4.out.trans (hd.below.mono HB4.out.size)); clear hd))
      · go_meet
        exact ⟨.inl rfl, HB4⟩
      · go_meet
        refine ⟨?_, HB5⟩
        by_cases h : lastOf ts < 0
        · exact .inl (by rw [decide_eq_true h])
        · exact .inr ⟨by rw [decide_eq_false h], by omega⟩
    case rest =>
      obtain ⟨hv, HRx⟩ := hcut
      obtain ⟨wq3, hwq⟩ : ∃ x, x = wc := ⟨_, rfl⟩
      subst hwq
      have HBx := Aside0.mk (HB2.out.trans (HRx.out.mono HB2.out.size))
      have HVx := Aside0.mk (blk_below HV2.out HRx.out)
      have HHx := Aside0.mk (HH2.out.below HRx.out)
      clear HB2 HV2 HP2 HC2 HH2 HRx
      rcases hv with rfl | ⟨rfl, hl0⟩
      · go_wp2_with (go_at_call 9; (with_reducible refine (awake _).mono ?_); rintro e w3 ⟨rfl, hb⟩; have hb_ := HBx.out.trans (hb.mono HBx.out.size); clear HBx hb; have HBx := Aside0.mk hb_; clear hb_)
        go_ret
        exact ⟨rfl, HBx.out⟩
      · have hbd := HHx.out.bd
        have hl1 : lastOf ts ≠ -1 := by omega
        obtain ⟨o1, ho1⟩ : ∃ o, placeR ts ls (lastOf ts) part id = o := ⟨_, rfl⟩
        obtain ⟨o3, ho3⟩ : ∃ o, placeR ts ls (firstOf ts) part id = o := ⟨_, rfl⟩
        have HO1 := Aside0.mk ho1
        have iw : ∀ z : Int, -9223372036854775808 ≤ z → z < 9223372036854775808 → IntKind.i64.wrap z = z := fun z h1 h2 => by simp [IntKind.wrap, IntKind.bits, IntKind.signed]; omega
        have HO2 : Aside0 (placeR ts ls (IntKind.i64.wrap (lastOf ts + IntKind.i64.wrap part)) 0 id = o1) := ⟨by rw [iw part (by omega) (by omega), iw _ (by omega) (by omega)]; exact (place_last (ls := ls) HRS.out hl1 ⟨hbd.1, hbd.2.1⟩ hp.1 id).trans ho1⟩
        have HO3 : Aside0 (placeR ts ls (IntKind.i64.wrap (IntKind.i64.wrap (firstOf ts - 1) - IntKind.i64.wrap part)) part id = o3) := ⟨by rw [iw part (by omega) (by omega), iw (firstOf ts - 1) (by omega) (by omega), iw _ (by omega) (by omega)]; exact (place_first (ls := ls) hl1 ⟨hbd.1, hbd.2.1⟩ hp.1 id).trans ho3⟩
        have HO4 := Aside0.mk ho3
        clear ho1 ho3 hl1 iw
        go_upto_region 4 with fail
        have HRa := Aside0.mk (Below.refl wq3.heap.size wq3)
        have HHa := HHx
        have v1a : wq3.cell? ⟨V, 1, none⟩ = some (.int .u8 part) := (blk_cell HVx.out 1).trans rfl
        go_cut [10, 11] (fun vp vo wx => ∃ AB : Nat, vp = .pointer (some ⟨AB, 0, none⟩) ∧ vo = .bool o1.isSome ∧ Aside0 (Below wq3.heap.size wq3 wx) ∧ Aside0 (wx.heap[AB]? = some (.cells #[.int .i64 (o1.getD (0, 0)).1, .int .i64 (o1.getD (0, 0)).2] 28 (0, 0))))
        case first =>
          go_region_held3 (fun w' => w'.cell? ⟨V, 1, none⟩ = some (.int .u8 part)) (first | assumption | (exact far2 v1c nn2 _ _) | (exact far2 v1c nn3 _ _) | go_keep) (first | (go_at_call 17; (with_reducible refine (Holds.last (ts := ts) (ls := ls) ?_).mono ?_); (· with_reducible first | exact HHa.out | exact HHa.out.below (below_drew (Below.refl _ _)) | exact HHa.out.below (below_drew (below_alloc (Below.refl _ _) _)) | exact HHa.out.below (below_alloc (Below.refl _ _) _)); rintro e w11 ⟨he, hd⟩; subst he; have hb := hd.below; have HRb := Aside0.mk (below_thru (w0 := wq3) hb (by (with_reducible repeat (first | exact HRa.out | refine lowA ?_ (Nat.le_refl _) _ | apply below_drew)))); have HHb := Aside0.mk (HHa.out.below HRb.out); have v1b : w11.cell? ⟨V, 1, none⟩ = some (.int .u8 part) := (blk_cell (blk_below HVx.out HRb.out) 1).trans rfl; (try (have zz : w11.heap[wq3.heap.size]? = some (.cells #[.int .i64 0, .int .i64 0] 28 (0, 0)) := blk_below (by with_reducible first | exact blk_drew (blk_new wq3 _) | exact blk_new wq3 _ | exact new_drew wq3 _ | exact blk_drew (new_drew wq3 _)) hb)); clear hb hd) | (go_at_call 20; (with_reducible refine (Holds.place (ts := ts) (ls := ls) ?_ id (lastOf ts) (part) hp).mono ?_); (· with_reducible first | exact HHb.out | exact HHb.out.below (below_drew (Below.refl _ _)) | exact HHb.out.below (below_drew (below_alloc (Below.refl _ _) _)) | exact HHb.out.below (below_alloc (Below.refl _ _) _)); rintro e w12 ⟨he, hb⟩; (rw [HO1.out] at he); subst he; have HRc := Aside0.mk (below_thru (w0 := wq3) hb (by (with_reducible repeat (first | exact HRb.out | refine lowA ?_ (Nat.le_refl _) _ | apply below_drew)))); have v1c : w12.cell? ⟨V, 1, none⟩ = some (.int .u8 part) := (blk_cell (blk_below HVx.out HRc.out) 1).trans rfl; (try (have zz2 : w12.heap[wq3.heap.size]? = some (.cells #[.int .i64 0, .int .i64 0] 28 (0, 0)) := blk_below (by with_reducible first | exact zz | exact blk_drew zz) hb; have nn2 := Nat.ne_of_lt (blk_lt HVx.out); have zz2c0 : w12.cell? ⟨wq3.heap.size, 0, none⟩ = some (.int .i64 0) := (blk_cell zz2 0).trans rfl; have zz2f0 : w12.frozen? ⟨wq3.heap.size, 0, none⟩ = false := blk_frozen zz2 0; have zz2c1 : w12.cell? ⟨wq3.heap.size, 1, none⟩ = some (.int .i64 0) := (blk_cell zz2 1).trans rfl; have zz2f1 : w12.frozen? ⟨wq3.heap.size, 1, none⟩ = false := blk_frozen zz2 1)); (try (have zz3 : w12.heap[w11.heap.size]? = some (.cells #[.int .i64 0, .int .i64 0] 28 (0, 0)) := blk_below (by with_reducible first | exact blk_drew (blk_new w11 _) | exact blk_new w11 _ | exact new_drew w11 _ | exact blk_drew (new_drew w11 _)) hb; have nn3 := Nat.ne_of_lt (blk_lt (blk_below HVx.out HRb.out)); have zz3c0 : w12.cell? ⟨w11.heap.size, 0, none⟩ = some (.int .i64 0) := (blk_cell zz3 0).trans rfl; have zz3f0 : w12.frozen? ⟨w11.heap.size, 0, none⟩ = false := blk_frozen zz3 0; have zz3c1 : w12.cell? ⟨w11.heap.size, 1, none⟩ = some (.int .i64 0) := (blk_cell zz3 1).trans rfl; have zz3f1 : w12.frozen? ⟨w11.heap.size, 1, none⟩ = false := blk_frozen zz3 1)); clear hb))
          · go_wp2_with fail
            go_meet
            exact ⟨_, rfl, rfl, ⟨lowA HRc.out (Nat.le_refl _) _⟩, ⟨blk_new _ _⟩⟩
          · go_wp2_with fail
            go_meet
            exact ⟨_, rfl, rfl, ⟨low2 HRc.out HRb.out.size _ _⟩, ⟨put2 zz3 _ _⟩⟩
          · go_wp2_with fail
            go_meet
            exact ⟨_, rfl, rfl, ⟨low2 HRc.out (Nat.le_refl _) _ _⟩, ⟨put2 zz2 _ _⟩⟩
        case rest =>
          obtain ⟨AB1, rfl, rfl, HRx, HA1⟩ := hcut
          clear HRa HHa v1a
          obtain ⟨wq4, hwq⟩ : ∃ x, x = wc := ⟨_, rfl⟩
          subst hwq
          have HBy := Aside0.mk (HBx.out.trans (HRx.out.mono HBx.out.size))
          have HVy := Aside0.mk (blk_below HVx.out HRx.out)
          have HHy := Aside0.mk (HHx.out.below HRx.out)
          clear HBx HVx HHx HRx
          have HBx := HBy
          have HVx := HVy
          have HHx := HHy
          clear HBy HVy HHy
          go_upto_region 5 with fail
          have HRa := Aside0.mk (Below.refl wq4.heap.size wq4)
          have HHa := HHx
          have v1a : wq4.cell? ⟨V, 1, none⟩ = some (.int .u8 part) := (blk_cell HVx.out 1).trans rfl
          go_cut [12, 13] (fun vp vo wx => ∃ AB : Nat, vp = .pointer (some ⟨AB, 0, none⟩) ∧ vo = .bool o1.isSome ∧ Aside0 (Below wq4.heap.size wq4 wx) ∧ Aside0 (wx.heap[AB]? = some (.cells #[.int .i64 (o1.getD (0, 0)).1, .int .i64 (o1.getD (0, 0)).2] 28 (0, 0))))
          case first =>
            go_region_held3 (fun w' => w'.cell? ⟨V, 1, none⟩ = some (.int .u8 part)) (first | assumption | (exact far2 v1c nn2 _ _) | (exact far2 v1c nn3 _ _) | go_keep) (first | (go_at_call 17; (with_reducible refine (Holds.last (ts := ts) (ls := ls) ?_).mono ?_); (· with_reducible first | exact HHa.out | exact HHa.out.below (below_drew (Below.refl _ _)) | exact HHa.out.below (below_drew (below_alloc (Below.refl _ _) _)) | exact HHa.out.below (below_alloc (Below.refl _ _) _)); rintro e w11 ⟨he, hd⟩; subst he; have hb := hd.below; have HRb := Aside0.mk (below_thru (w0 := wq4) hb (by (with_reducible repeat (first | exact HRa.out | refine lowA ?_ (Nat.le_refl _) _ | apply below_drew)))); have HHb := Aside0.mk (HHa.out.below HRb.out); have v1b : w11.cell? ⟨V, 1, none⟩ = some (.int .u8 part) := (blk_cell (blk_below HVx.out HRb.out) 1).trans rfl; (try (have zz : w11.heap[wq4.heap.size]? = some (.cells #[.int .i64 0, .int .i64 0] 28 (0, 0)) := blk_below (by with_reducible first | exact blk_drew (blk_new wq4 _) | exact blk_new wq4 _ | exact new_drew wq4 _ | exact blk_drew (new_drew wq4 _)) hb)); clear hb hd) | (go_at_call 20; (with_reducible refine (Holds.place (ts := ts) (ls := ls) ?_ id (IntKind.i64.wrap (lastOf ts + IntKind.i64.wrap part)) (0) ⟨by omega, by omega⟩).mono ?_); (· with_reducible first | exact HHb.out | exact HHb.out.below (below_drew (Below.refl _ _)) | exact HHb.out.below (below_drew (below_alloc (Below.refl _ _) _)) | exact HHb.out.below (below_alloc (Below.refl _ _) _)); rintro e w12 ⟨he, hb⟩; (rw [HO2.out] at he); subst he; have HRc := Aside0.mk (below_thru (w0 := wq4) hb (by (with_reducible repeat (first | exact HRb.out | refine lowA ?_ (Nat.le_refl _) _ | apply below_drew)))); have v1c : w12.cell? ⟨V, 1, none⟩ = some (.int .u8 part) := (blk_cell (blk_below HVx.out HRc.out) 1).trans rfl; (try (have zz2 : w12.heap[wq4.heap.size]? = some (.cells #[.int .i64 0, .int .i64 0] 28 (0, 0)) := blk_below (by with_reducible first | exact zz | exact blk_drew zz) hb; have nn2 := Nat.ne_of_lt (blk_lt HVx.out); have zz2c0 : w12.cell? ⟨wq4.heap.size, 0, none⟩ = some (.int .i64 0) := (blk_cell zz2 0).trans rfl; have zz2f0 : w12.frozen? ⟨wq4.heap.size, 0, none⟩ = false := blk_frozen zz2 0; have zz2c1 : w12.cell? ⟨wq4.heap.size, 1, none⟩ = some (.int .i64 0) := (blk_cell zz2 1).trans rfl; have zz2f1 : w12.frozen? ⟨wq4.heap.size, 1, none⟩ = false := blk_frozen zz2 1)); (try (have zz3 : w12.heap[w11.heap.size]? = some (.cells #[.int .i64 0, .int .i64 0] 28 (0, 0)) := blk_below (by with_reducible first | exact blk_drew (blk_new w11 _) | exact blk_new w11 _ | exact new_drew w11 _ | exact blk_drew (new_drew w11 _)) hb; have nn3 := Nat.ne_of_lt (blk_lt (blk_below HVx.out HRb.out)); have zz3c0 : w12.cell? ⟨w11.heap.size, 0, none⟩ = some (.int .i64 0) := (blk_cell zz3 0).trans rfl; have zz3f0 : w12.frozen? ⟨w11.heap.size, 0, none⟩ = false := blk_frozen zz3 0; have zz3c1 : w12.cell? ⟨w11.heap.size, 1, none⟩ = some (.int .i64 0) := (blk_cell zz3 1).trans rfl; have zz3f1 : w12.frozen? ⟨w11.heap.size, 1, none⟩ = false := blk_frozen zz3 1)); clear hb))
            · go_wp2_with fail
              go_meet
              exact ⟨_, rfl, rfl, ⟨lowA HRc.out (Nat.le_refl _) _⟩, ⟨blk_new _ _⟩⟩
            · go_wp2_with fail
              go_meet
              exact ⟨_, rfl, rfl, ⟨low2 HRc.out HRb.out.size _ _⟩, ⟨put2 zz3 _ _⟩⟩
            · go_wp2_with fail
              go_meet
              exact ⟨_, rfl, rfl, ⟨low2 HRc.out (Nat.le_refl _) _ _⟩, ⟨put2 zz2 _ _⟩⟩
          case rest =>
            obtain ⟨AB2, rfl, rfl, HRx, HA2⟩ := hcut
            clear HRa HHa v1a
            obtain ⟨wq5, hwq⟩ : ∃ x, x = wc := ⟨_, rfl⟩
            subst hwq
            have HBy := Aside0.mk (HBx.out.trans (HRx.out.mono HBx.out.size))
            have HVy := Aside0.mk (blk_below HVx.out HRx.out)
            have HHy := Aside0.mk (HHx.out.below HRx.out)
            have hA1 := blk_below HA1.out HRx.out
            replace HA1 := Aside0.mk hA1
            clear hA1
            clear HBx HVx HHx HRx
            have HBx := HBy
            have HVx := HVy
            have HHx := HHy
            clear HBy HVy HHy
            go_upto_region 6 with fail
            have HRa := Aside0.mk (Below.refl wq5.heap.size wq5)
            have HHa := HHx
            have v1a : wq5.cell? ⟨V, 1, none⟩ = some (.int .u8 part) := (blk_cell HVx.out 1).trans rfl
            go_cut [14, 15] (fun vp vo wx => ∃ AB : Nat, vp = .pointer (some ⟨AB, 0, none⟩) ∧ vo = .bool o3.isSome ∧ Aside0 (Below wq5.heap.size wq5 wx) ∧ Aside0 (wx.heap[AB]? = some (.cells #[.int .i64 (o3.getD (0, 0)).1, .int .i64 (o3.getD (0, 0)).2] 28 (0, 0))))
            case first =>
              go_region_held3 (fun w' => w'.cell? ⟨V, 1, none⟩ = some (.int .u8 part)) (first | assumption | (exact far2 v1c nn2 _ _) | (exact far2 v1c nn3 _ _) | go_keep) (first | (go_at_call 16; (with_reducible refine (Holds.first (ts := ts) (ls := ls) ?_).mono ?_); (· with_reducible first | exact HHa.out | exact HHa.out.below (below_drew (Below.refl _ _)) | exact HHa.out.below (below_drew (below_alloc (Below.refl _ _) _)) | exact HHa.out.below (below_alloc (Below.refl _ _) _)); rintro e w11 ⟨he, hd⟩; subst he; have hb := hd.below; have HRb := Aside0.mk (below_thru (w0 := wq5) hb (by (with_reducible repeat (first | exact HRa.out | refine lowA ?_ (Nat.le_refl _) _ | apply below_drew)))); have HHb := Aside0.mk (HHa.out.below HRb.out); have v1b : w11.cell? ⟨V, 1, none⟩ = some (.int .u8 part) := (blk_cell (blk_below HVx.out HRb.out) 1).trans rfl; (try (have zz : w11.heap[wq5.heap.size]? = some (.cells #[.int .i64 0, .int .i64 0] 28 (0, 0)) := blk_below (by with_reducible first | exact blk_drew (blk_new wq5 _) | exact blk_new wq5 _ | exact new_drew wq5 _ | exact blk_drew (new_drew wq5 _)) hb)); clear hb hd) | (go_at_call 20; (with_reducible refine (Holds.place (ts := ts) (ls := ls) ?_ id (IntKind.i64.wrap (IntKind.i64.wrap (firstOf ts - 1) - IntKind.i64.wrap part)) (part) hp).mono ?_); (· with_reducible first | exact HHb.out | exact HHb.out.below (below_drew (Below.refl _ _)) | exact HHb.out.below (below_drew (below_alloc (Below.refl _ _) _)) | exact HHb.out.below (below_alloc (Below.refl _ _) _)); rintro e w12 ⟨he, hb⟩; (rw [HO3.out] at he); subst he; have HRc := Aside0.mk (below_thru (w0 := wq5) hb (by (with_reducible repeat (first | exact HRb.out | refine lowA ?_ (Nat.le_refl _) _ | apply below_drew)))); have v1c : w12.cell? ⟨V, 1, none⟩ = some (.int .u8 part) := (blk_cell (blk_below HVx.out HRc.out) 1).trans rfl; (try (have zz2 : w12.heap[wq5.heap.size]? = some (.cells #[.int .i64 0, .int .i64 0] 28 (0, 0)) := blk_below (by with_reducible first | exact zz | exact blk_drew zz) hb; have nn2 := Nat.ne_of_lt (blk_lt HVx.out); have zz2c0 : w12.cell? ⟨wq5.heap.size, 0, none⟩ = some (.int .i64 0) := (blk_cell zz2 0).trans rfl; have zz2f0 : w12.frozen? ⟨wq5.heap.size, 0, none⟩ = false := blk_frozen zz2 0; have zz2c1 : w12.cell? ⟨wq5.heap.size, 1, none⟩ = some (.int .i64 0) := (blk_cell zz2 1).trans rfl; have zz2f1 : w12.frozen? ⟨wq5.heap.size, 1, none⟩ = false := blk_frozen zz2 1)); (try (have zz3 : w12.heap[w11.heap.size]? = some (.cells #[.int .i64 0, .int .i64 0] 28 (0, 0)) := blk_below (by with_reducible first | exact blk_drew (blk_new w11 _) | exact blk_new w11 _ | exact new_drew w11 _ | exact blk_drew (new_drew w11 _)) hb; have nn3 := Nat.ne_of_lt (blk_lt (blk_below HVx.out HRb.out)); have zz3c0 : w12.cell? ⟨w11.heap.size, 0, none⟩ = some (.int .i64 0) := (blk_cell zz3 0).trans rfl; have zz3f0 : w12.frozen? ⟨w11.heap.size, 0, none⟩ = false := blk_frozen zz3 0; have zz3c1 : w12.cell? ⟨w11.heap.size, 1, none⟩ = some (.int .i64 0) := (blk_cell zz3 1).trans rfl; have zz3f1 : w12.frozen? ⟨w11.heap.size, 1, none⟩ = false := blk_frozen zz3 1)); clear hb))
              · go_wp2_with fail
                go_meet
                exact ⟨_, rfl, rfl, ⟨lowA HRc.out (Nat.le_refl _) _⟩, ⟨blk_new _ _⟩⟩
              · go_wp2_with fail
                go_meet
                exact ⟨_, rfl, rfl, ⟨low2 HRc.out HRb.out.size _ _⟩, ⟨put2 zz3 _ _⟩⟩
              · go_wp2_with fail
                go_meet
                exact ⟨_, rfl, rfl, ⟨low2 HRc.out (Nat.le_refl _) _ _⟩, ⟨put2 zz2 _ _⟩⟩
            case rest =>
              obtain ⟨AB3, rfl, rfl, HRx, HA3⟩ := hcut
              clear HRa HHa v1a
              obtain ⟨wq6, hwq⟩ : ∃ x, x = wc := ⟨_, rfl⟩
              subst hwq
              have HBy := Aside0.mk (HBx.out.trans (HRx.out.mono HBx.out.size))
              have HVy := Aside0.mk (blk_below HVx.out HRx.out)
              have HHy := Aside0.mk (HHx.out.below HRx.out)
              have hA1 := blk_below HA1.out HRx.out
              replace HA1 := Aside0.mk hA1
              clear hA1
              have hA2 := blk_below HA2.out HRx.out
              replace HA2 := Aside0.mk hA2
              clear hA2
              clear HBx HVx HHx HRx
              have HBx := HBy
              have HVx := HVy
              have HHx := HHy
              clear HBy HVy HHy
              go_upto_region 7 with fail
              have HRa := Aside0.mk (Below.refl wq6.heap.size wq6)
              have HHa := HHx
              have v1a : wq6.cell? ⟨V, 1, none⟩ = some (.int .u8 part) := (blk_cell HVx.out 1).trans rfl
              go_cut [16, 17] (fun vp vo wx => ∃ AB : Nat, vp = .pointer (some ⟨AB, 0, none⟩) ∧ vo = .bool o3.isSome ∧ Aside0 (Below wq6.heap.size wq6 wx) ∧ Aside0 (wx.heap[AB]? = some (.cells #[.int .i64 (o3.getD (0, 0)).1, .int .i64 (o3.getD (0, 0)).2] 28 (0, 0))))
              case first =>
                go_region_held3 (fun w' => w'.cell? ⟨V, 1, none⟩ = some (.int .u8 part)) (first | assumption | (exact far2 v1c nn2 _ _) | (exact far2 v1c nn3 _ _) | go_keep) (first | (go_at_call 16; (with_reducible refine (Holds.first (ts := ts) (ls := ls) ?_).mono ?_); (· with_reducible first | exact HHa.out | exact HHa.out.below (below_drew (Below.refl _ _)) | exact HHa.out.below (below_drew (below_alloc (Below.refl _ _) _)) | exact HHa.out.below (below_alloc (Below.refl _ _) _)); rintro e w11 ⟨he, hd⟩; subst he; have hb := hd.below; have HRb := Aside0.mk (below_thru (w0 := wq6) hb (by (with_reducible repeat (first | exact HRa.out | refine lowA ?_ (Nat.le_refl _) _ | apply below_drew)))); have HHb := Aside0.mk (HHa.out.below HRb.out); have v1b : w11.cell? ⟨V, 1, none⟩ = some (.int .u8 part) := (blk_cell (blk_below HVx.out HRb.out) 1).trans rfl; (try (have zz : w11.heap[wq6.heap.size]? = some (.cells #[.int .i64 0, .int .i64 0] 28 (0, 0)) := blk_below (by with_reducible first | exact blk_drew (blk_new wq6 _) | exact blk_new wq6 _ | exact new_drew wq6 _ | exact blk_drew (new_drew wq6 _)) hb)); clear hb hd) | (go_at_call 20; (with_reducible refine (Holds.place (ts := ts) (ls := ls) ?_ id (firstOf ts) (part) hp).mono ?_); (· with_reducible first | exact HHb.out | exact HHb.out.below (below_drew (Below.refl _ _)) | exact HHb.out.below (below_drew (below_alloc (Below.refl _ _) _)) | exact HHb.out.below (below_alloc (Below.refl _ _) _)); rintro e w12 ⟨he, hb⟩; (rw [HO4.out] at he); subst he; have HRc := Aside0.mk (below_thru (w0 := wq6) hb (by (with_reducible repeat (first | exact HRb.out | refine lowA ?_ (Nat.le_refl _) _ | apply below_drew)))); have v1c : w12.cell? ⟨V, 1, none⟩ = some (.int .u8 part) := (blk_cell (blk_below HVx.out HRc.out) 1).trans rfl; (try (have zz2 : w12.heap[wq6.heap.size]? = some (.cells #[.int .i64 0, .int .i64 0] 28 (0, 0)) := blk_below (by with_reducible first | exact zz | exact blk_drew zz) hb; have nn2 := Nat.ne_of_lt (blk_lt HVx.out); have zz2c0 : w12.cell? ⟨wq6.heap.size, 0, none⟩ = some (.int .i64 0) := (blk_cell zz2 0).trans rfl; have zz2f0 : w12.frozen? ⟨wq6.heap.size, 0, none⟩ = false := blk_frozen zz2 0; have zz2c1 : w12.cell? ⟨wq6.heap.size, 1, none⟩ = some (.int .i64 0) := (blk_cell zz2 1).trans rfl; have zz2f1 : w12.frozen? ⟨wq6.heap.size, 1, none⟩ = false := blk_frozen zz2 1)); (try (have zz3 : w12.heap[w11.heap.size]? = some (.cells #[.int .i64 0, .int .i64 0] 28 (0, 0)) := blk_below (by with_reducible first | exact blk_drew (blk_new w11 _) | exact blk_new w11 _ | exact new_drew w11 _ | exact blk_drew (new_drew w11 _)) hb; have nn3 := Nat.ne_of_lt (blk_lt (blk_below HVx.out HRb.out)); have zz3c0 : w12.cell? ⟨w11.heap.size, 0, none⟩ = some (.int .i64 0) := (blk_cell zz3 0).trans rfl; have zz3f0 : w12.frozen? ⟨w11.heap.size, 0, none⟩ = false := blk_frozen zz3 0; have zz3c1 : w12.cell? ⟨w11.heap.size, 1, none⟩ = some (.int .i64 0) := (blk_cell zz3 1).trans rfl; have zz3f1 : w12.frozen? ⟨w11.heap.size, 1, none⟩ = false := blk_frozen zz3 1)); clear hb))
                · go_wp2_with fail
                  go_meet
                  exact ⟨_, rfl, rfl, ⟨lowA HRc.out (Nat.le_refl _) _⟩, ⟨blk_new _ _⟩⟩
                · go_wp2_with fail
                  go_meet
                  exact ⟨_, rfl, rfl, ⟨low2 HRc.out HRb.out.size _ _⟩, ⟨put2 zz3 _ _⟩⟩
                · go_wp2_with fail
                  go_meet
                  exact ⟨_, rfl, rfl, ⟨low2 HRc.out (Nat.le_refl _) _ _⟩, ⟨put2 zz2 _ _⟩⟩
              case rest =>
                obtain ⟨AB4, rfl, rfl, HRx, HA4⟩ := hcut
                clear HRa HHa v1a
                obtain ⟨wq7, hwq⟩ : ∃ x, x = wc := ⟨_, rfl⟩
                subst hwq
                have HBy := Aside0.mk (HBx.out.trans (HRx.out.mono HBx.out.size))
                have HVy := Aside0.mk (blk_below HVx.out HRx.out)
                have HHy := Aside0.mk (HHx.out.below HRx.out)
                have hA1 := blk_below HA1.out HRx.out
                replace HA1 := Aside0.mk hA1
                clear hA1
                have hA2 := blk_below HA2.out HRx.out
                replace HA2 := Aside0.mk hA2
                clear hA2
                have hA3 := blk_below HA3.out HRx.out
                replace HA3 := Aside0.mk hA3
                clear hA3
                clear HBx HVx HHx HRx
                have HBx := HBy
                have HVx := HVy
                have HHx := HHy
                clear HBy HVy HHy
                have b10 : wq7.cell? ⟨AB1, 0, none⟩ = some (.int .i64 (o1.getD (0, 0)).1) := (blk_cell HA1.out 0).trans rfl
                have b11 : wq7.cell? ⟨AB1, 1, none⟩ = some (.int .i64 (o1.getD (0, 0)).2) := (blk_cell HA1.out 1).trans rfl
                have b20 : wq7.cell? ⟨AB2, 0, none⟩ = some (.int .i64 (o1.getD (0, 0)).1) := (blk_cell HA2.out 0).trans rfl
                have b21 : wq7.cell? ⟨AB2, 1, none⟩ = some (.int .i64 (o1.getD (0, 0)).2) := (blk_cell HA2.out 1).trans rfl
                have b30 : wq7.cell? ⟨AB3, 0, none⟩ = some (.int .i64 (o3.getD (0, 0)).1) := (blk_cell HA3.out 0).trans rfl
                have b31 : wq7.cell? ⟨AB3, 1, none⟩ = some (.int .i64 (o3.getD (0, 0)).2) := (blk_cell HA3.out 1).trans rfl
                have b40 : wq7.cell? ⟨AB4, 0, none⟩ = some (.int .i64 (o3.getD (0, 0)).1) := (blk_cell HA4.out 0).trans rfl
                have b41 : wq7.cell? ⟨AB4, 1, none⟩ = some (.int .i64 (o3.getD (0, 0)).2) := (blk_cell HA4.out 1).trans rfl
                go_wp2_with fail
                go_ret
                exact ⟨by simp, HBx.out⟩
end Go.Proofs.Ytcbmkhogmdkpdaa.Ring
