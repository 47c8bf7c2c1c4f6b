import Derived.Test.YtcbmkhogmdkpdaaRListP
import Derived.Test.YtcbmkhogmdkpdaaRAwake
set_option linter.unusedVariables false
set_option linter.unusedSimpArgs false
namespace Go.Proofs.Ytcbmkhogmdkpdaa.Ring
open Go.RowKit Go.ChangeMaps Go.Proofs.YtcbmkhogmdkpdaaW.PrintWords Go.Proofs.YtcbmkhogmdkpdaaW.PrintLast Go.Proofs.YtcbmkhogmdkpdaaW.PrintMore Go.Proofs.Ytcbmkhogmdkpdaa.PRewindNone Go.Proofs.Ytcbmkhogmdkpdaa.MapI Go.Proofs.Ytcbmkhogmdkpdaa.Plain Go.Proofs.Ytcbmkhogmdkpdaa.Pure
theorem Kept76.holds {w : World} {base B C : Nat} {Z : Nat → Prop} {xs : List S76} {its : List S51} (h : Kept76 xs its) (ht : Two w base B C Z (ticksOf its) (listsOf its) its) : Holds w (some ⟨B, 0, none⟩) (ticksOf its) (listsOf its) := by
  obtain ⟨_, _, F, G, hr, _⟩ := ht
  refine Holds.of_ring hr (fun x hx => ?_) h.2.1
  obtain ⟨y, hy, rfl⟩ := List.mem_map.1 hx
  have := h.1 y hy
  omega
set_option maxHeartbeats 8000000 in
set_option maxRecDepth 100000 in
theorem formed_any (from_ : Int) (A : Option Addr) (c : Nat) (xs : List S76) (w : World) (hC : Kd.C k76 w A xs.length xs) :
    Calls Try.prog 10 #[.agg #[.int .u16 from_, .slice A xs.length c]] w fun e w' => ∃ v, e = .returned v ∧ (v = .bool false ∨ (v = .bool true ∧ (xs.length ≤ 80 → ∀ x, x ∈ xs → ∀ y, y ∈ x.f1 → 1 ≤ y.f0))) ∧ Below w.heap.size w w' := by
  have HC := Aside0.mk (Kd.C_alloc hC (.cells #[.int .u16 from_, .slice A xs.length c] 25 (0, 0)))
  have hP := blk_new w (.cells #[.int .u16 from_, .slice A xs.length c] 25 (0, 0))
  have HB := Aside0.mk (below_alloc (Below.refl w.heap.size w) (.cells #[.int .u16 from_, .slice A xs.length c] 25 (0, 0)))
  clear hC
  go_enter Try.func10, Try.ntmps10
  go_upto_region 1 with fail
  generalize w.alloc (.cells #[.int .u16 from_, .slice A xs.length c] 25 (0, 0)) = W1 at *
  obtain ⟨P, hPP⟩ : ∃ P, w.heap.size = P := ⟨_, rfl⟩
  have HPP := Aside0.mk hPP
  rw [hPP] at hP
  rw [hPP]
  clear hPP
  have HP := Aside0.mk hP
  clear hP
  go_wp2_with fail
  go_loopg [3] xs.length (fun kq v3 w' => ∃ k : Nat, v3 = .int .i64 (k : Int) ∧ Aside0 (kq + k = xs.length) ∧ Aside0 (∀ i, i < k → ∀ y, y ∈ (rd_T76 xs (i : Int)).f1 → 1 ≤ y.f0) ∧ Aside0 (Below W1.heap.size W1 w'))
  case atStart => exact ⟨0, rfl, ⟨rfl⟩, ⟨fun i hi => by omega⟩, ⟨Below.refl _ _⟩⟩
  case round =>
    obtain ⟨k, rfl, HK, HO, HR⟩ := hrel
    have p1 : wr.cell? ⟨P, 1, none⟩ = some (.slice A xs.length c) := (blk_cell (blk_below HP.out HR.out) 1).trans rfl
    by_cases hi : (k : Int) < (xs.length : Int)
    · by_cases h80 : (k : Int) < 80
      · obtain ⟨ad, A1, c1, e, hx0, hx1, hl1, hC1⟩ := at_T76 (Kd.C_below HC.out HR.out) (k : Int) (by omega) hi
        cases e
        simp only [Int.toNat_natCast] at hx0 hx1
        have hi1 : (0 : Int) ≤ k := by omega
        have hi3 : k < xs.length := by omega
        obtain ⟨l, hl⟩ : ∃ l, l = (rd_T76 xs (k : Int)).f1 := ⟨_, rfl⟩
        rw [← hl] at hx1 hl1 hC1
        obtain ⟨b, hb1, hcall⟩ := list_any (A := A1) (c := c1) (xs := l) (Kd.C_max hC1)
        have HL := Aside0.mk (hcall wr hC1 hl1)
        have HLL := Aside0.mk hl
        clear hl hC1 hcall
        cases b with
        | false =>
          go_wp2_with (go_at_call 26; (with_reducible refine HL.out.mono ?_); rintro e w1 ⟨he, hb⟩; subst he; have HE := Aside0.mk (HB.out.trans ((HR.out.trans (hb.mono HR.out.size)).mono HB.out.size)); clear hb)
          go_ret
          exact ⟨_, rfl, .inl rfl, HE.out⟩
        | true =>
          have HID := Aside0.mk (hb1 rfl)
          go_wp2_with (go_at_call 26; (with_reducible refine HL.out.mono ?_); rintro e w1 ⟨he, hb⟩; subst he; have HE := Aside0.mk (HR.out.trans (hb.mono HR.out.size)); clear hb)
          go_roundg (gk - 1)
          case measure => have := HK.out; omega
          case rel => exact ⟨k + 1, by simp, ⟨by have := HK.out; omega⟩, ⟨fun i hi y hy => by rcases Nat.lt_succ_iff_lt_or_eq.1 hi with h | rfl; (· exact HO.out i h y hy); (· exact HID.out y (by rw [HLL.out]; exact hy))⟩, HE⟩
      · have hn80 : Aside0 (¬ xs.length ≤ 80) := ⟨by omega⟩
        have HE := Aside0.mk (HB.out.trans (HR.out.mono HB.out.size))
        go_wp2_with fail
        go_ret
        first | exact ⟨_, rfl, .inr ⟨rfl, fun h => absurd h hn80.out⟩, HE.out⟩ | exact ⟨_, rfl, .inr rfl, HE.out⟩
    · have hi2 : (xs.length : Int) ≤ k := by omega
      have HE := Aside0.mk (HB.out.trans (HR.out.mono HB.out.size))
      have HALL : Aside0 (∀ x, x ∈ xs → ∀ y, y ∈ x.f1 → 1 ≤ y.f0) := ⟨fun x hx y hy => by
        obtain ⟨i, hi, rfl⟩ := List.getElem_of_mem hx
        refine HO.out i (by omega) y ?_
        simpa [rd_T76, List.getD, List.getElem?_eq_getElem hi] using hy⟩
      go_wp2_with fail
      go_ret
      exact ⟨_, rfl, .inr ⟨rfl, fun _ => HALL.out⟩, HE.out⟩
theorem mtt_right {fx fy tx ty lx ly ux uy : Int} (h : (mtt fx fy tx ty lx ly ux uy).2 = true) : rght (mtt fx fy tx ty lx ly ux uy).1 = true := by
  unfold mtt at h ⊢
  split at h
  · rename_i hc
    obtain ⟨a1, a2, a3, a4⟩ := fmd_of hc.1
    obtain ⟨b1, b2, b3, b4⟩ := fmd_of hc.2.1
    obtain ⟨_, _, hx, hy⟩ := bfm_of hc.2.2
    rw [if_pos hc]
    have M := met_yes hx hy (by omega) (by omega) (by omega) (by omega) h
    have := M.d; have := M.db; have := M.n; have := M.nb
    exact rght_iff.2 ⟨by omega, by omega, by omega, by omega⟩
  · simp at h
theorem meetF_right {fx fy tx ty : Int} {p : Int × Int} (h : (meetF fx fy tx ty p).2 = true) : rght (meetF fx fy tx ty p).1 = true := mtt_right h
/-- Not ahead of one that isn't behind a third: not ahead of the third. -/
theorem ahd_not_trans {p q r : Int × Int} (hp : rght p = true) (hq : rght q = true) (hr : rght r = true) (h1 : ahd p q = false) (h2 : ahd q r = false) : ahd p r = false := by
  rw [← Bool.not_eq_true]
  intro h
  rw [ahd_ok hp hq, decide_eq_false_iff_not] at h1
  rw [ahd_ok hq hr, decide_eq_false_iff_not] at h2
  have h3 := (ahd_iff.1 h).2.2
  have a := rght_iff.1 hp
  have b := rght_iff.1 hq
  have c := rght_iff.1 hr
  have h4 := frac_trans (a := r.1) (b := r.2) (c := q.1) (d := q.2) (e := p.1) (f := p.2) c.1 b.1 a.1 (by omega) (by omega)
  omega
/-- What the fold keeps: nothing met yet; or what was hit, and none met ahead of it. -/
def Hit (fx fy tx ty shooter : Int) (pl : Int → Option (Int × Int)) (done : List Int) (st : Int × Int × Int) : Prop :=
  (st.1 = -1 ∧ ∀ id, id ∈ done → id ≠ shooter → ∀ p, pl id = some p → (meetF fx fy tx ty p).2 = false) ∨
  (1 ≤ st.1 ∧ st.1 ≠ shooter ∧ ∃ p, pl st.1 = some p ∧ (meetF fx fy tx ty p).2 = true ∧ st.2 = (meetF fx fy tx ty p).1 ∧ ∀ id, id ∈ done → id ≠ shooter → ∀ q, pl id = some q → (meetF fx fy tx ty q).2 = true → ahd (meetF fx fy tx ty q).1 st.2 = false)
theorem hit_next {fx fy tx ty shooter : Int} {pl : Int → Option (Int × Int)} {done : List Int} {st : Int × Int × Int} (h : Hit fx fy tx ty shooter pl done st) {id : Int} (hid : 1 ≤ id) : Hit fx fy tx ty shooter pl (done ++ [id]) (shotStep fx fy tx ty pl shooter st id) := by
  unfold shotStep
  by_cases hs : id = shooter
  · rw [if_pos hs]
    rcases h with ⟨h1, h2⟩ | ⟨h0, h1, p, h2, h3, h4, h5⟩
    · refine .inl ⟨h1, fun x hx hne => ?_⟩
      rcases List.mem_append.1 hx with hx | hx
      · exact h2 x hx hne
      · simp at hx; exact absurd (hx.trans hs) hne
    · refine .inr ⟨h0, h1, p, h2, h3, h4, fun x hx hne => ?_⟩
      rcases List.mem_append.1 hx with hx | hx
      · exact h5 x hx hne
      · simp at hx; exact absurd (hx.trans hs) hne
  · rw [if_neg hs]
    cases hp : pl id with
    | none =>
      simp only
      rcases h with ⟨h1, h2⟩ | ⟨h0, h1, p, h2, h3, h4, h5⟩
      · refine .inl ⟨h1, fun x hx hne q hq => ?_⟩
        rcases List.mem_append.1 hx with hx | hx
        · exact h2 x hx hne q hq
        · simp at hx; subst hx; rw [hp] at hq; cases hq
      · refine .inr ⟨h0, h1, p, h2, h3, h4, fun x hx hne q hq => ?_⟩
        rcases List.mem_append.1 hx with hx | hx
        · exact h5 x hx hne q hq
        · simp at hx; subst hx; rw [hp] at hq; cases hq
    | some p =>
      simp only
      unfold hitStep
      split
      · rename_i hc
        refine .inr ⟨hid, hs, p, hp, hc.1, rfl, fun x hx hne q hq hm => ?_⟩
        rcases List.mem_append.1 hx with hx | hx
        · rcases h with ⟨h1, h2⟩ | ⟨h0, h1, p', h2, h3, h4, h5⟩
          · have := h2 x hx hne q hq
            rw [hm] at this
            cases this
          · have hb := h5 x hx hne q hq hm
            have r1 := meetF_right hm
            have r2 := meetF_right h3
            have r3 := meetF_right hc.1
            rw [h4] at hb hc
            refine ahd_not_trans r1 r2 r3 hb ?_
            rcases hc.2 with hc | hc | hc
            · omega
            · exact ahd_not hc
            · exact hc.1
        · simp at hx; subst hx
          rw [hp] at hq
          injection hq with hq
          subst hq
          exact ahd_self _
      · rename_i hc
        rcases h with ⟨h1, h2⟩ | ⟨h0, h1, p', h2, h3, h4, h5⟩
        · refine .inl ⟨h1, fun x hx hne q hq => ?_⟩
          rcases List.mem_append.1 hx with hx | hx
          · exact h2 x hx hne q hq
          · simp at hx; subst hx
            rw [hp] at hq
            injection hq with hq
            subst hq
            rw [← Bool.not_eq_true]
            exact fun hm => hc ⟨hm, .inl h1⟩
        · refine .inr ⟨h0, h1, p', h2, h3, h4, fun x hx hne q hq hm => ?_⟩
          rcases List.mem_append.1 hx with hx | hx
          · exact h5 x hx hne q hq hm
          · simp at hx; subst hx
            rw [hp] at hq
            injection hq with hq
            subst hq
            rw [← Bool.not_eq_true]
            exact fun ha => hc ⟨hm, .inr (.inl ha)⟩
theorem rhold_any (x : Int) (w : World) : Calls Try.prog 54 #[.int .i64 x] w fun e w' => e = .returned (.int .i64 (hold x)) ∧ Below w.heap.size w w' := by
  by_cases h1 : 2147483647 < x
  · have HD : Aside0 (hold x = 2147483647) := ⟨by unfold hold; omega⟩
    go_enter Try.func54, Try.ntmps54
    go_wp2
    go_ret
    refine ⟨?_, Below.refl _ _⟩
    rw [HD.out]
    rfl
  · by_cases h2 : x < -2147483648
    · have HD : Aside0 (hold x = -2147483648) := ⟨by unfold hold; omega⟩
      go_enter Try.func54, Try.ntmps54
      go_wp2
      go_ret
      refine ⟨?_, Below.refl _ _⟩
      rw [HD.out]
      rfl
    · have HD : Aside0 (hold x = x) := ⟨by unfold hold; omega⟩
      go_enter Try.func54, Try.ntmps54
      go_wp2
      go_ret
      refine ⟨?_, Below.refl _ _⟩
      rw [HD.out]
      rfl
theorem rwhole_any (x : Int) (w : World) : Calls Try.prog 55 #[.int .i64 x] w fun e w' => e = .returned (.int .i64 (hold x)) ∧ Below w.heap.size w w' := by
  go_enter Try.func55, Try.ntmps55
  go_wp2_with (go_at_call 54; (with_reducible refine (rhold_any x _).mono ?_); rintro e w1 ⟨he, hb⟩; subst he; have HB := Aside0.mk hb; clear hb)
  go_ret
  exact ⟨rfl, HB.out⟩
theorem radd_any (x y : Int) (w : World) : Calls Try.prog 37 #[.int .i64 x, .int .i64 y] w fun e w' => e = .returned (.int .i64 (hold (hold x + hold y))) ∧ Below w.heap.size w w' := by
  have h1 := hold_bd x
  have h2 := hold_bd y
  have HR := Aside0.mk (Below.refl w.heap.size w)
  obtain ⟨p, hp⟩ : ∃ p, p = hold x := ⟨_, rfl⟩
  obtain ⟨q, hq⟩ : ∃ q, q = hold y := ⟨_, rfl⟩
  rw [← hp] at h1
  rw [← hq] at h2
  rw [← hp, ← hq]
  have HP := Aside0.mk hp
  have HQ := Aside0.mk hq
  clear hp hq
  go_enter Try.func37, Try.ntmps37
  go_wp2_with (first | (go_at_call 55; (with_reducible refine (rwhole_any x _).mono ?_); rintro e w1 ⟨he, hb⟩; (rw [← HP.out] at he); subst he; have HR1 := Aside0.mk (HR.out.trans (hb.mono HR.out.size)); clear hb) | (go_at_call 55; (with_reducible refine (rwhole_any y _).mono ?_); rintro e w2 ⟨he, hb⟩; (rw [← HQ.out] at he); subst he; have HR2 := Aside0.mk (HR1.out.trans (hb.mono HR1.out.size)); clear hb) | (go_at_call 54; (with_reducible refine (rhold_any (p + q) _).mono ?_); rintro e w3 ⟨he, hb⟩; subst he; have HR3 := Aside0.mk (HR2.out.trans (hb.mono HR2.out.size)); clear hb))
  go_ret
  exact ⟨rfl, HR3.out⟩
set_option maxHeartbeats 4000000 in
set_option maxRecDepth 100000 in
theorem rvadd_any (a b c d : Int) (w : World) : Calls Try.prog 19 #[.agg #[.int .i64 a, .int .i64 b], .agg #[.int .i64 c, .int .i64 d]] w fun e w' => e = .returned (.agg #[.int .i64 (hold (hold a + hold c)), .int .i64 (hold (hold b + hold d))]) ∧ Below w.heap.size w w' := by
  have hA := blk_alloc (blk_alloc (blk_new w (.cells #[.int .i64 a, .int .i64 b] 28 (0, 0))) (.cells #[.int .i64 c, .int .i64 d] 28 (0, 0))) (.cells #[.int .i64 0, .int .i64 0] 28 (0, 0))
  have hB := blk_alloc (blk_new (w.alloc (.cells #[.int .i64 a, .int .i64 b] 28 (0, 0))) (.cells #[.int .i64 c, .int .i64 d] 28 (0, 0))) (.cells #[.int .i64 0, .int .i64 0] 28 (0, 0))
  have hZ := blk_new ((w.alloc (.cells #[.int .i64 a, .int .i64 b] 28 (0, 0))).alloc (.cells #[.int .i64 c, .int .i64 d] 28 (0, 0))) (.cells #[.int .i64 0, .int .i64 0] 28 (0, 0))
  rw [show (w.alloc (.cells #[.int .i64 a, .int .i64 b] 28 (0, 0))).heap.size = w.heap.size + 1 by simp] at hB
  rw [show ((w.alloc (.cells #[.int .i64 a, .int .i64 b] 28 (0, 0))).alloc (.cells #[.int .i64 c, .int .i64 d] 28 (0, 0))).heap.size = w.heap.size + 2 by simp] at hZ
  have HRa := Aside0.mk (below_alloc (below_alloc (below_alloc (Below.refl w.heap.size w) (.cells #[.int .i64 a, .int .i64 b] 28 (0, 0))) (.cells #[.int .i64 c, .int .i64 d] 28 (0, 0))) (.cells #[.int .i64 0, .int .i64 0] 28 (0, 0)))
  have HAa := Aside0.mk hA
  have HBa := Aside0.mk hB
  have HZa := Aside0.mk hZ
  clear hA hB hZ
  go_enter Try.func19, Try.ntmps19
  go_upto_region 1 with fail
  generalize ((w.alloc (.cells #[.int .i64 a, .int .i64 b] 28 (0, 0))).alloc (.cells #[.int .i64 c, .int .i64 d] 28 (0, 0))).alloc (.cells #[.int .i64 0, .int .i64 0] 28 (0, 0)) = W1 at *
  rw [show w.heap.size + 1 + 1 = w.heap.size + 2 from rfl]
  obtain ⟨S, hS⟩ : ∃ S, w.heap.size = S := ⟨_, rfl⟩
  have HSS := Aside0.mk hS
  rw [hS] at HAa HBa HZa
  rw [hS]
  clear hS
  have x0W1 : W1.cell? ⟨S, 0, none⟩ = some (.int .i64 a) := (blk_cell HAa.out 0).trans rfl
  have x1W1 : W1.cell? ⟨S, 1, none⟩ = some (.int .i64 b) := (blk_cell HAa.out 1).trans rfl
  have y0W1 : W1.cell? ⟨S + 1, 0, none⟩ = some (.int .i64 c) := (blk_cell HBa.out 0).trans rfl
  have y1W1 : W1.cell? ⟨S + 1, 1, none⟩ = some (.int .i64 d) := (blk_cell HBa.out 1).trans rfl
  have z0W1 : W1.cell? ⟨S + 2, 0, none⟩ = some (.int .i64 0) := (blk_cell HZa.out 0).trans rfl
  have z1W1 : W1.cell? ⟨S + 2, 1, none⟩ = some (.int .i64 0) := (blk_cell HZa.out 1).trans rfl
  have f0W1 : W1.frozen? ⟨S + 2, 0, none⟩ = false := blk_frozen HZa.out 0
  have f1W1 : W1.frozen? ⟨S + 2, 1, none⟩ = false := blk_frozen HZa.out 1
  go_region_held3 (fun w' => w'.cell? ⟨S, 0, none⟩ = some (.int .i64 a) ∧ w'.cell? ⟨S, 1, none⟩ = some (.int .i64 b) ∧ w'.cell? ⟨S + 1, 0, none⟩ = some (.int .i64 c) ∧ w'.cell? ⟨S + 1, 1, none⟩ = some (.int .i64 d)) (first | (refine ⟨?_, ?_, ?_, ?_⟩ <;> assumption) | (refine ⟨far2 x0w5 (by omega) _ _, far2 x1w5 (by omega) _ _, far2 y0w5 (by omega) _ _, far2 y1w5 (by omega) _ _⟩) | go_keep) (first | (go_at_call 37; (with_reducible refine (radd_any a c _).mono ?_); rintro e w4 ⟨he, hb⟩; subst he; have HRb := Aside0.mk (below_thru (w0 := w) hb (by (with_reducible repeat (first | exact HRa.out | apply below_drew)))); have HAb := Aside0.mk (blk_below (g := S) (o := .cells #[.int .i64 a, .int .i64 b] 28 (0, 0)) (by with_reducible first | exact HAa.out | exact blk_drew HAa.out) hb); have HBb := Aside0.mk (blk_below (g := S + 1) (o := .cells #[.int .i64 c, .int .i64 d] 28 (0, 0)) (by with_reducible first | exact HBa.out | exact blk_drew HBa.out) hb); have HZb := Aside0.mk (blk_below (g := S + 2) (o := .cells #[.int .i64 0, .int .i64 0] 28 (0, 0)) (by with_reducible first | exact HZa.out | exact blk_drew HZa.out) hb); have x0w4 : w4.cell? ⟨S, 0, none⟩ = some (.int .i64 a) := (blk_cell HAb.out 0).trans rfl; have x1w4 : w4.cell? ⟨S, 1, none⟩ = some (.int .i64 b) := (blk_cell HAb.out 1).trans rfl; have y0w4 : w4.cell? ⟨S + 1, 0, none⟩ = some (.int .i64 c) := (blk_cell HBb.out 0).trans rfl; have y1w4 : w4.cell? ⟨S + 1, 1, none⟩ = some (.int .i64 d) := (blk_cell HBb.out 1).trans rfl; have z0w4 : w4.cell? ⟨S + 2, 0, none⟩ = some (.int .i64 0) := (blk_cell HZb.out 0).trans rfl; have z1w4 : w4.cell? ⟨S + 2, 1, none⟩ = some (.int .i64 0) := (blk_cell HZb.out 1).trans rfl; have f0w4 : w4.frozen? ⟨S + 2, 0, none⟩ = false := blk_frozen HZb.out 0; have f1w4 : w4.frozen? ⟨S + 2, 1, none⟩ = false := blk_frozen HZb.out 1; clear hb) | (go_at_call 37; (with_reducible refine (radd_any b d _).mono ?_); rintro e w5 ⟨he, hb⟩; subst he; have HRc := Aside0.mk (below_thru (w0 := w) hb (by (with_reducible repeat (first | exact HRb.out | apply below_drew)))); have HAc := Aside0.mk (blk_below (g := S) (o := .cells #[.int .i64 a, .int .i64 b] 28 (0, 0)) (by with_reducible first | exact HAb.out | exact blk_drew HAb.out) hb); have HBc := Aside0.mk (blk_below (g := S + 1) (o := .cells #[.int .i64 c, .int .i64 d] 28 (0, 0)) (by with_reducible first | exact HBb.out | exact blk_drew HBb.out) hb); have HZc := Aside0.mk (blk_below (g := S + 2) (o := .cells #[.int .i64 0, .int .i64 0] 28 (0, 0)) (by with_reducible first | exact HZb.out | exact blk_drew HZb.out) hb); have x0w5 : w5.cell? ⟨S, 0, none⟩ = some (.int .i64 a) := (blk_cell HAc.out 0).trans rfl; have x1w5 : w5.cell? ⟨S, 1, none⟩ = some (.int .i64 b) := (blk_cell HAc.out 1).trans rfl; have y0w5 : w5.cell? ⟨S + 1, 0, none⟩ = some (.int .i64 c) := (blk_cell HBc.out 0).trans rfl; have y1w5 : w5.cell? ⟨S + 1, 1, none⟩ = some (.int .i64 d) := (blk_cell HBc.out 1).trans rfl; have z0w5 : w5.cell? ⟨S + 2, 0, none⟩ = some (.int .i64 0) := (blk_cell HZc.out 0).trans rfl; have z1w5 : w5.cell? ⟨S + 2, 1, none⟩ = some (.int .i64 0) := (blk_cell HZc.out 1).trans rfl; have f0w5 : w5.frozen? ⟨S + 2, 0, none⟩ = false := blk_frozen HZc.out 0; have f1w5 : w5.frozen? ⟨S + 2, 1, none⟩ = false := blk_frozen HZc.out 1; clear hb))
  all_goals
    go_wp2_with fail
    refine bodyPost_ret (results_cell_row rfl _ _ (S + 2) 28 #[.int .i64 (hold (hold a + hold c)), .int .i64 (hold (hold b + hold d))] (0, 0) _ rfl (put2 HZc.out _ _) Try.underlying28 rfl (by kernel_rfl)) rfl ?_
    exact ⟨rfl, low2 HRc.out (by have := HSS.out; omega) _ _⟩
end Go.Proofs.Ytcbmkhogmdkpdaa.Ring
