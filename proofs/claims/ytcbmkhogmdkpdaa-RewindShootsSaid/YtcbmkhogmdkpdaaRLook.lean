import Derived.Test.YtcbmkhogmdkpdaaRView
set_option linter.unusedVariables false
set_option linter.unusedSimpArgs false
namespace Go.Proofs.Ytcbmkhogmdkpdaa.Ring
open Go.RowKit Go.ChangeMaps Go.Proofs.YtcbmkhogmdkpdaaW.PrintWords Go.Proofs.YtcbmkhogmdkpdaaW.PrintLast Go.Proofs.YtcbmkhogmdkpdaaW.PrintMore Go.Proofs.Ytcbmkhogmdkpdaa.PRewindNone Go.Proofs.Ytcbmkhogmdkpdaa.MapI Go.Proofs.Ytcbmkhogmdkpdaa.Plain Go.Proofs.Ytcbmkhogmdkpdaa.Pure
set_option maxHeartbeats 4000000 in
theorem rfind_any (A : Option Addr) (n c : Nat) (xs : List S67) (id : Int) (w : World) (hC : Kd.C k67 w A n xs) (hl : xs.length ≤ 1000) :
    Calls Try.prog 62 #[.slice A n c, .int .i64 id] w fun e w' => e = .returned (.int .i64 (findFrom id xs 0)) ∧ Below w.heap.size w w' := by
  have HC := Aside0.mk hC
  obtain rfl : xs.length = n := Kd.C_len hC
  clear hC
  go_enter Try.func62, Try.ntmps62
  go_wp2_with fail
  go_loopg [5] xs.length (fun kq v5 w' => ∃ k : Nat, v5 = .int .i64 (k : Int) ∧ Aside0 (kq + k = xs.length) ∧ Aside0 (findFrom id (xs.drop k) k = findFrom id xs 0) ∧ Aside0 (Below w.heap.size w w'))
  case atStart => exact ⟨0, rfl, ⟨rfl⟩, ⟨rfl⟩, ⟨Below.refl _ _⟩⟩
  case round =>
    obtain ⟨k, rfl, HK, HD, HB⟩ := hrel
    by_cases hi : (k : Int) < (xs.length : Int)
    · obtain ⟨ad, e, x0, x1, x2, x3, x4, x5, x6, x7⟩ := at_T67 (Kd.C_below HC.out HB.out) (k : Int) (by omega) hi
      cases e
      simp only [Int.toNat_natCast] at x0 x1 x2 x3 x4 x5 x6 x7
      have HD2 := Aside0.mk (rd_drop67 xs (show k < xs.length by omega))
      have hi1 : (0 : Int) ≤ k := by omega
      have hi3 : k < xs.length := by omega
      obtain ⟨y, hy⟩ : ∃ y, y = rd_T67 xs (k : Int) := ⟨_, rfl⟩
      rw [← hy] at x0 HD2
      clear x1 x2 x3 x4 x5 x6 x7 hy
      obtain ⟨f, hf⟩ : ∃ f, f = y.f0 := ⟨_, rfl⟩
      rw [← hf] at x0
      have HF := Aside0.mk hf
      clear hf
      by_cases hy : f = id
      · have HY : Aside0 (y.f0 = id) := ⟨HF.out ▸ hy⟩
        have HX := Aside0.mk x0
        clear x0
        subst hy
        have x0 := HX.out
        go_wp2_with fail
        go_ret
        refine ⟨?_, HB.out⟩
        rw [show findFrom f xs 0 = (k : Int) by rw [← HD.out, HD2.out, findFrom, if_pos HY.out]]
        rfl
      · have HY : Aside0 (¬ y.f0 = id) := ⟨HF.out ▸ hy⟩
        go_wp2_with fail
        go_roundg (gk - 1)
        case measure => have := HK.out; omega
        case rel => exact ⟨k + 1, by simp, ⟨by have := HK.out; omega⟩, ⟨by rw [← HD.out, HD2.out, findFrom, if_neg HY.out]⟩, HB⟩
    · have hi2 : (xs.length : Int) ≤ k := by omega
      go_wp2_with fail
      go_ret
      refine ⟨?_, HB.out⟩
      rw [show findFrom id xs 0 = -1 by rw [← HD.out, List.drop_eq_nil_of_le (by omega)]; rfl]
      rfl
/-- Where the reference finds one that lives. -/
def livK (id : Int) (l : List S67) : Int := if findFrom id l 0 = -1 then -1 else if (rd_T67 l (findFrom id l 0)).f4 ≤ 0 then -1 else findFrom id l 0
theorem livK_ways (id : Int) (l : List S67) : (liv id l = none ∧ livK id l = -1) ∨ ∃ j : Nat, j < l.length ∧ livK id l = (j : Int) ∧ liv id l = some (rd_T67 l (j : Int)) := by
  unfold liv livK
  rcases find_ways id l 0 with hf | ⟨j, hj, hf, _⟩
  · rw [if_pos hf, if_pos hf]
    exact .inl ⟨rfl, rfl⟩
  · rw [Nat.zero_add] at hf
    rw [hf, if_neg (show ¬ ((j : Int) = -1) by omega), if_neg (show ¬ ((j : Int) = -1) by omega)]
    by_cases h4 : (rd_T67 l (j : Int)).f4 ≤ 0
    · rw [if_pos h4, if_pos h4]
      exact .inl ⟨rfl, rfl⟩
    · rw [if_neg h4, if_neg h4]
      exact .inr ⟨j, hj, rfl, rfl⟩
set_option maxHeartbeats 1000000 in
theorem lives_any (A : Option Addr) (n c : Nat) (xs : List S67) (id : Int) (w : World) (hC : Kd.C k67 w A n xs) (hl : xs.length ≤ 1000) :
    Calls Try.prog 46 #[.slice A n c, .int .i64 id] w fun e w' => e = .returned (.int .i64 (livK id xs)) ∧ Below w.heap.size w w' := by
  have HC := Aside0.mk hC
  obtain rfl : xs.length = n := Kd.C_len hC
  clear hC
  go_enter Try.func46, Try.ntmps46
  go_upto_region 2 with (go_at_call 62; (with_reducible refine (rfind_any A xs.length c xs id _ HC.out hl).mono ?_); rintro e w1 ⟨he, hb1⟩; subst he; have HB1 := Aside0.mk hb1; clear hb1)
  rcases find_ways id xs 0 with hf | ⟨j, hj, hf, _⟩
  · have HV : Aside0 (livK id xs = -1) := ⟨by unfold livK; rw [if_pos hf]⟩
    rw [hf]
    clear hf
    go_wp2_with fail
    go_ret
    refine ⟨?_, HB1.out⟩
    rw [HV.out]
    rfl
  · rw [Nat.zero_add] at hf
    have hV : livK id xs = if (rd_T67 xs (j : Int)).f4 ≤ 0 then -1 else (j : Int) := by unfold livK; rw [hf, if_neg (by omega)]
    rw [hf]
    clear hf
    obtain ⟨ad, e, x0, x1, x2, x3, x4, x5, x6, x7⟩ := at_T67 (Kd.C_below HC.out HB1.out) (j : Int) (by omega) (by omega)
    cases e
    simp only [Int.toNat_natCast] at x0 x1 x2 x3 x4 x5 x6 x7
    have hj0 : (0 : Int) ≤ j := by omega
    have hj2 : (j : Int) < (xs.length : Int) := by omega
    obtain ⟨f, hf⟩ : ∃ f, f = (rd_T67 xs (j : Int)).f4 := ⟨_, rfl⟩
    rw [← hf] at x6 hV
    have HV := Aside0.mk hV
    clear x0 x1 x2 x3 x4 x5 x7 hf hV
    by_cases h4 : f ≤ 0
    · go_wp2_with fail
      go_ret
      refine ⟨?_, HB1.out⟩
      rw [HV.out, if_pos h4]
      rfl
    · go_wp2_with fail
      go_ret
      refine ⟨?_, HB1.out⟩
      rw [HV.out, if_neg (by omega)]
      rfl
/-- The reference's ring, as it is read. -/
def RefAt (w : World) (C : Nat) (its : List S51) : Prop := (∃ base B Z, Two w base B C Z (ticksOf its) (listsOf its) its) ∧ (-1 ≤ firstOf (ticksOf its) ∧ firstOf (ticksOf its) ≤ lastOf (ticksOf its) ∧ lastOf (ticksOf its) < 1099511627776) ∧ ∀ x, x ∈ its → x.f1.length ≤ 30
section
variable {w W : World} {C : Nat} {its : List S51}
theorem RefAt.below (h : RefAt w C its) (hb : Below w.heap.size w W) : RefAt W C its := by
  obtain ⟨⟨base, B, Z, h⟩, h2, h3⟩ := h
  exact ⟨⟨base, B, Z, h.below hb⟩, h2, h3⟩
theorem RefAt.len (h : RefAt w C its) (k : Int) : ((look k (ticksOf its) (listsOf its)).getD []).length ≤ 1000 := by
  rw [find_look]
  cases e : find k its with
  | none => simp
  | some l =>
    obtain ⟨x, hm, rfl⟩ := find_mem e
    have := h.2.2 x hm
    simp
    omega
theorem RefAt.get (h : RefAt w C its) (tick : Int) : Calls Try.prog 31 #[.pointer (some ⟨C, 0, none⟩), .int .i64 tick] w fun e w' => ∃ A c, e = .returned (.tuple #[.slice A ((look tick (ticksOf its) (listsOf its)).getD []).length c, .bool (look tick (ticksOf its) (listsOf its)).isSome]) ∧ w' = w ∧ Kd.C k67 w A ((look tick (ticksOf its) (listsOf its)).getD []).length ((look tick (ticksOf its) (listsOf its)).getD []) := by
  obtain ⟨⟨base, B, Z, h⟩, _, _⟩ := h
  refine (two_vget (tick := tick) h).mono fun e w' ⟨A, c, he, hw, hC, _⟩ => ?_
  rw [find_look]
  exact ⟨A, c, he, hw, hC⟩
theorem RefAt.ends (h : RefAt w C its) : Calls Try.prog 13 #[.pointer (some ⟨C, 0, none⟩)] w fun e w' => e = .returned (.tuple #[.int .i64 (firstOf (ticksOf its)), .int .i64 (lastOf (ticksOf its))]) ∧ Below w.heap.size w w' := by
  obtain ⟨⟨base, B, Z, h⟩, _, _⟩ := h
  exact (ref_ends h.2.2.choose_spec.choose_spec.2.1).mono fun e w' ⟨he, hd⟩ => ⟨he, hd.below⟩
theorem RefAt.held (h : RefAt w C its) (view : Int) : Calls Try.prog 32 #[.pointer (some ⟨C, 0, none⟩), .int .i64 view] w fun e w' => e = .returned (.int .i64 (heldF (ticksOf its) view)) ∧ Below w.heap.size w w' := by
  have HH := Aside0.mk h
  have hbd := h.2.1
  clear h
  have hF : heldF (ticksOf its) view = if view < firstOf (ticksOf its) then firstOf (ticksOf its) else if lastOf (ticksOf its) < view then lastOf (ticksOf its) else view := by unfold heldF; omega
  rw [hF]
  clear hF
  obtain ⟨a, ha⟩ : ∃ a, a = firstOf (ticksOf its) := ⟨_, rfl⟩
  obtain ⟨b, hb⟩ : ∃ b, b = lastOf (ticksOf its) := ⟨_, rfl⟩
  rw [← ha, ← hb] at hbd ⊢
  have HA := Aside0.mk ha
  have HBb := Aside0.mk hb
  clear ha hb
  go_enter Try.func32, Try.ntmps32
  go_upto_region 2 with (go_at_call 13; (with_reducible refine HH.out.ends.mono ?_); rintro e w1 ⟨he, hb⟩; (rw [← HA.out, ← HBb.out] at he); subst he; have HB := Aside0.mk hb; clear hb)
  by_cases h1 : view < a
  · go_wp2_with fail
    go_ret
    refine ⟨?_, HB.out⟩
    rfl
  · by_cases h2 : b < view
    · go_wp2_with fail
      go_ret
      refine ⟨?_, HB.out⟩
      rfl
    · go_wp2_with fail
      go_ret
      refine ⟨?_, HB.out⟩
      rfl
theorem RefAt.held_bd (h : RefAt w C its) (view : Int) : -1 ≤ heldF (ticksOf its) view ∧ heldF (ticksOf its) view < 1099511627776 := by
  have := h.2.1
  unfold heldF
  omega
end
end Go.Proofs.Ytcbmkhogmdkpdaa.Ring
