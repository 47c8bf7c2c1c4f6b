import Derived.Test.YtcbmkhogmdkpdaaRPlace
import Derived.Test.YtcbmkhogmdkpdaaRTwo
set_option linter.unusedVariables false
set_option linter.unusedSimpArgs false
namespace Go.Proofs.Ytcbmkhogmdkpdaa.Ring
open Go.RowKit Go.ChangeMaps Go.Proofs.YtcbmkhogmdkpdaaW.PrintWords Go.Proofs.YtcbmkhogmdkpdaaW.PrintLast Go.Proofs.YtcbmkhogmdkpdaaW.PrintMore Go.Proofs.Ytcbmkhogmdkpdaa.PRewindNone Go.Proofs.Ytcbmkhogmdkpdaa.MapI Go.Proofs.Ytcbmkhogmdkpdaa.Plain Go.Proofs.Ytcbmkhogmdkpdaa.Pure
/-- A ring, or none, that keeps these lists under these ticks. -/
def Holds (w : World) (r : Option Addr) (ts : List Int) (ls : List (List S67)) : Prop :=
  (∀ x, x ∈ ls → x.length ≤ 1000) ∧ (∀ t, t ∈ ts → t < 1099511627776) ∧ ((r = none ∧ ts = [] ∧ ls = []) ∨ ∃ base B F, r = some ⟨B, 0, none⟩ ∧ IsRing w base B F ts ls)
theorem Holds.below {w W : World} {r : Option Addr} {ts : List Int} {ls : List (List S67)} (h : Holds w r ts ls) (hb : Below w.heap.size w W) : Holds W r ts ls := by
  obtain ⟨h1, h2, h3 | ⟨base, B, F, e, h⟩⟩ := h
  · exact ⟨h1, h2, .inl h3⟩
  · exact ⟨h1, h2, .inr ⟨base, B, F, e, h.below hb⟩⟩
theorem Holds.nil (w : World) : Holds w none [] [] := ⟨by simp, by simp, .inl ⟨rfl, rfl, rfl⟩⟩
section
variable {w : World} {r : Option Addr} {ts : List Int} {ls : List (List S67)}
theorem Holds.bd (h : Holds w r ts ls) : -1 ≤ firstOf ts ∧ firstOf ts ≤ lastOf ts ∧ lastOf ts < 1099511627776 := by
  obtain ⟨h1, h2, h3 | ⟨base, B, F, e, h⟩⟩ := h
  · rw [h3.2.1]; decide
  · by_cases e : ts = []
    · subst e; decide
    · have g1 := first_le h.1.2.1 _ (last_mem e)
      have g2 := h2 _ (last_mem e)
      refine ⟨?_, g1, g2⟩
      cases ts with
      | nil => exact absurd rfl e
      | cons t ts => have := h.1.2.2 t (by simp); show -1 ≤ t; omega
theorem Holds.first (h : Holds w r ts ls) : Calls Try.prog 16 #[.pointer r] w fun e w' => e = .returned (.int .i64 (firstOf ts)) ∧ Drawn0 w w' := by
  obtain ⟨_, _, ⟨rfl, rfl, rfl⟩ | ⟨base, B, F, rfl, h⟩⟩ := h
  · exact first_nil w
  · exact first_any h.ticks
theorem Holds.last (h : Holds w r ts ls) : Calls Try.prog 17 #[.pointer r] w fun e w' => e = .returned (.int .i64 (lastOf ts)) ∧ Drawn0 w w' := by
  obtain ⟨_, _, ⟨rfl, rfl, rfl⟩ | ⟨base, B, F, rfl, h⟩⟩ := h
  · exact last_nil w
  · exact last_any h.ticks
theorem look_len {k : Int} {l : List S67} : ∀ {ts : List Int} {ls : List (List S67)}, look k ts ls = some l → l ∈ ls
  | [], _, h => by simp [look] at h
  | _ :: _, [], h => by simp [look] at h
  | t :: ts, x :: ls, h => by
    unfold look at h
    split at h
    · simp at h; simp [h]
    · simp [look_len h]
theorem Holds.len (h : Holds w r ts ls) (k : Int) : ((look k ts ls).getD []).length ≤ 1000 := by
  cases e : look k ts ls with
  | none => simp
  | some l => exact h.1 l (look_len e)
theorem Holds.get (h : Holds w r ts ls) (tick : Int) : Calls Try.prog 14 #[.pointer r, .int .i64 tick] w fun e w' => ∃ A c, e = .returned (.tuple #[.slice A ((look tick ts ls).getD []).length c, .bool (look tick ts ls).isSome]) ∧ Below w.heap.size w w' ∧ (∀ W', Kept w' W' (fun k => k < w.heap.size) → Kd.C k67 W' A ((look tick ts ls).getD []).length ((look tick ts ls).getD [])) ∧ ((look tick ts ls).getD []).length ≤ c := by
  obtain ⟨h1, _, ⟨rfl, rfl, rfl⟩ | ⟨base, B, F, rfl, h⟩⟩ := h
  · refine (get_none w tick).mono fun e w' ⟨he, hd⟩ => ⟨none, 0, he, hd.below, fun _ _ => Kd.C_nil _ _, Nat.le_refl _⟩
  · refine (get_any (tick := tick) h fun xs hx => h1 xs (look_len hx)).mono fun e w' ⟨v, he, hb, hr⟩ => ?_
    obtain ⟨A, c, rfl, hlc, hC⟩ := Kd.R_reads hr
    exact ⟨A, c, he, hb, Kd.C_kept_own hr (fun k hk => Nat.not_lt.2 hk), hlc⟩
/-- A view, held. -/
def heldF (ts : List Int) (view : Int) : Int := if lastOf ts = -1 then -1 else if lastOf ts < (if view < firstOf ts then firstOf ts else view) then lastOf ts else if view < firstOf ts then firstOf ts else view
theorem Holds.held (h : Holds w r ts ls) (view : Int) : Calls Try.prog 18 #[.pointer r, .int .i64 view] w fun e w' => e = .returned (.int .i64 (heldF ts view)) ∧ Below w.heap.size w w' := by
  have HH := Aside0.mk h
  have HB := Aside0.mk (Below.refl w.heap.size w)
  clear h
  by_cases hl : lastOf ts = -1
  · have HF : Aside0 (heldF ts view = -1) := ⟨by unfold heldF; rw [if_pos hl]⟩
    go_enter Try.func18, Try.ntmps18
    go_wp2_with (go_at_call 17; (with_reducible refine HH.out.last.mono ?_); rintro e w1 ⟨he, hd⟩; subst he; have HB1 := Aside0.mk hd.below; clear hd)
    go_ret
    refine ⟨?_, HB1.out⟩
    rw [HF.out]
    rfl
  · have HF : Aside0 (heldF ts view = if lastOf ts < (if view < firstOf ts then firstOf ts else view) then lastOf ts else if view < firstOf ts then firstOf ts else view) := ⟨by unfold heldF; rw [if_neg hl]⟩
    go_enter Try.func18, Try.ntmps18
    go_wp2_with (first | (go_at_call 17; (with_reducible refine (HH.out.below HB.out).last.mono ?_); rintro e w1 ⟨he, hd⟩; subst he; replace HB := Aside0.mk (HB.out.trans (hd.below.mono HB.out.size)); clear hd) | (go_at_call 16; (with_reducible refine (HH.out.below HB.out).first.mono ?_); rintro e w1 ⟨he, hd⟩; subst he; replace HB := Aside0.mk (HB.out.trans (hd.below.mono HB.out.size)); clear hd))
    all_goals
      go_ret
      refine ⟨?_, HB.out⟩
      rw [HF.out]
      first | (show Ending.returned (Value.int .i64 (lastOf ts)) = _; congr 2; omega) | (show Ending.returned (Value.int .i64 (firstOf ts)) = _; congr 2; omega) | (show Ending.returned (Value.int .i64 view) = _; congr 2; omega)
theorem Holds.held_bd (h : Holds w r ts ls) (view : Int) : -1 ≤ heldF ts view ∧ heldF ts view < 1099511627776 := by
  have := h.bd
  unfold heldF
  omega
set_option maxHeartbeats 1000000 in
set_option maxRecDepth 100000 in
theorem Holds.at_ (h : Holds w r ts ls) (view part : Int) : Calls Try.prog 29 #[.pointer r, .int .i64 view, .int .u8 part] w fun e w' => ∃ A1 c1 A2 c2, e = .returned (.agg #[.slice A1 ((look (heldF ts view) ts ls).getD []).length c1, .slice A2 ((look (heldF ts view + 1) ts ls).getD []).length c2, .bool (look (heldF ts view + 1) ts ls).isSome, .int .u8 part]) ∧ Below w.heap.size w w' ∧
    Kd.C k67 w' A1 ((look (heldF ts view) ts ls).getD []).length ((look (heldF ts view) ts ls).getD []) ∧ Kd.C k67 w' A2 ((look (heldF ts view + 1) ts ls).getD []).length ((look (heldF ts view + 1) ts ls).getD []) := by
  have HH := Aside0.mk h
  have hbd := h.held_bd view
  have HB := Aside0.mk (below_alloc (Below.refl w.heap.size w) (.cells #[.slice none 0 0, .slice none 0 0, .bool false, .int .u8 0] 82 (0, 0)))
  have HN := Aside0.mk (blk_new w (.cells #[.slice none 0 0, .slice none 0 0, .bool false, .int .u8 0] 82 (0, 0)))
  obtain ⟨S, hS⟩ : ∃ S, w.heap.size = S := ⟨_, rfl⟩
  have HS := Aside0.mk hS
  clear h
  go_enter Try.func29, Try.ntmps29
  go_upto_region 1 with fail
  rw [hS] at HN
  clear hS
  generalize w.alloc (.cells #[.slice none 0 0, .slice none 0 0, .bool false, .int .u8 0] 82 (0, 0)) = W1 at *
  go_upto_region 2 with (go_at_call 18; (with_reducible refine ((HH.out.below HB.out).held view).mono ?_); rintro e w2 ⟨he, hb⟩; subst he; have HN2 := Aside0.mk (blk_below HN.out hb); have HB2 := Aside0.mk (HB.out.trans (hb.mono HB.out.size)); clear hb)
  generalize hv : heldF ts view = v at *
  go_upto_region 3 with (go_at_call 14; (with_reducible refine ((HH.out.below HB2.out).get v).mono ?_); rintro e w3 ⟨A1, c1, he, hb, hC, hlc⟩; subst he; have HN3 := Aside0.mk (blk_below HN2.out hb); have HB3 := Aside0.mk (HB2.out.trans (hb.mono HB2.out.size)); have HC3 := Aside0.mk hC; have HZ3 := Aside0.mk hb.size; clear hb hC)
  go_upto_region 4 with (go_at_call 14; (with_reducible refine ((HH.out.below HB3.out).get (v + 1)).mono ?_); rintro e w4 ⟨A2, c2, he, hb, hC, hlc⟩; subst he; have HN4 := Aside0.mk (blk_below HN3.out hb); have HB4 := Aside0.mk (HB3.out.trans (hb.mono HB3.out.size)); have HK4 := Aside0.mk (Kept.of_below hb (fun k => k < w2.heap.size)); have HC4 := Aside0.mk hC; clear hb hC)
  have q0 : w4.cell? ⟨S, 0, none⟩ = some (.slice none 0 0) := (blk_cell HN4.out 0).trans rfl
  have q1 : w4.cell? ⟨S, 1, none⟩ = some (.slice none 0 0) := (blk_cell HN4.out 1).trans rfl
  have q2 : w4.cell? ⟨S, 2, none⟩ = some (.bool false) := (blk_cell HN4.out 2).trans rfl
  have q3 : w4.cell? ⟨S, 3, none⟩ = some (.int .u8 0) := (blk_cell HN4.out 3).trans rfl
  have g0 : w4.frozen? ⟨S, 0, none⟩ = false := blk_frozen HN4.out 0
  have g1 : w4.frozen? ⟨S, 1, none⟩ = false := blk_frozen HN4.out 1
  have g2 : w4.frozen? ⟨S, 2, none⟩ = false := blk_frozen HN4.out 2
  have g3 : w4.frozen? ⟨S, 3, none⟩ = false := blk_frozen HN4.out 3
  have HV := Aside0.mk hv
  clear hv
  go_wp2_with fail
  refine bodyPost_ret (results_cell_row rfl _ _ S 82 #[.slice A1 ((look v ts ls).getD []).length c1, .slice A2 ((look (v + 1) ts ls).getD []).length c2, .bool (look (v + 1) ts ls).isSome, .int .u8 part] (0, 0) _ rfl (put4 HN4.out _ _ _ _) Try.underlying82 rfl (by kernel_rfl)) rfl ?_
  rw [HV.out]
  have hS2 : S < w2.heap.size := blk_lt HN2.out
  have hk1 := kep4 (Kept.refl w4 (fun j => j < w2.heap.size)) (.inl hS2) (.slice A1 ((look v ts ls).getD []).length c1) (.slice A2 ((look (v + 1) ts ls).getD []).length c2) (.bool (look (v + 1) ts ls).isSome) (.int .u8 part)
  exact ⟨A1, c1, A2, c2, rfl, low4 HB4.out (by have := HS.out; omega) _ _ _ _, HC3.out _ (HK4.out.then_ hk1 (fun k hk => .inl hk)), HC4.out _ (hk1.mono (fun k hk => Nat.lt_of_lt_of_le hk HZ3.out))⟩
end
end Go.Proofs.Ytcbmkhogmdkpdaa.Ring
