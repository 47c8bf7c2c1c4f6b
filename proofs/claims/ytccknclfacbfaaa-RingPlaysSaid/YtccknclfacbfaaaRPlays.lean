import Derived.Test.YtccknclfacbfaaaRTwo
set_option linter.unusedVariables false
set_option linter.unusedSimpArgs false
namespace Go.Proofs.Ytccknclfacbfaaa.Ring
open Go.RowKit Go.ChangeMaps Go.Proofs.YtccknclfacbfaaaW.PrintWords Go.Proofs.YtccknclfacbfaaaW.PrintLast Go.Proofs.YtccknclfacbfaaaW.PrintMore Go.Proofs.Ytccknclfacbfaaa.PRingPlays Go.Proofs.Ytccknclfacbfaaa.MapI
/-- What a Put answers, and what is kept behind it. -/
def code (ts : List Int) (tick : Int) : Int := if lastOf ts < tick then 0 else 8
def nextT (ts : List Int) (tick : Int) : List Int := if lastOf ts < tick then push ts tick else ts
def nextL (ts : List Int) (tick : Int) (ls : List (List S27)) (xs : List S27) : List (List S27) := if lastOf ts < tick then push ls xs else ls
def nextI (its : List S56) (x : S56) : List S56 := if lastOf (ticksOf its) < x.f0 then push its x else its
theorem ticks_next (its : List S56) (x : S56) : ticksOf (nextI its x) = nextT (ticksOf its) x.f0 := by
  unfold nextI nextT
  split
  · exact ticks_push its x
  · rfl
theorem lists_next (its : List S56) (x : S56) : listsOf (nextI its x) = nextL (ticksOf its) x.f0 (listsOf its) x.f1 := by
  unfold nextI nextL
  split
  · exact lists_push its x
  · rfl
section
variable {w W : World} {base B C : Nat} {Z : Nat → Prop} {ts : List Int} {ls : List (List S27)} {its : List S56}
theorem two_next {tick : Int} {v : Value} {xs : List S27} (h : Two w base B C Z ts ls its) (hv : ∀ W, Kept w W (fun k => base ≤ k) → Came W v xs) :
    Calls Try.prog 8 #[.pointer (some ⟨B, 0, none⟩), .int .i64 tick, v] w fun e w' => e = .returned (.int .i64 (code ts tick)) ∧ Below base w w' ∧ (∀ k, Z k → w'.heap[k]? = w.heap[k]?) ∧ Two w' base B C Z (nextT ts tick) (nextL ts tick ls xs) its := by
  unfold code nextT nextL
  by_cases hlt : lastOf ts < tick
  · rw [if_pos hlt, if_pos hlt, if_pos hlt]
    exact two_put h hlt hv
  · rw [if_neg hlt, if_neg hlt, if_neg hlt]
    have hr := h.2.2.choose_spec.choose_spec.1
    exact (put_old hr (by omega) v).mono fun e w' ⟨he, hd⟩ => ⟨he, hd.below.mono h.1, fun k hk => hd.below.block k (h.2.1 k hk), h.below hd.below⟩
theorem two_vnext {tick : Int} {A : Option Addr} {c : Nat} {l : List S27} (h : Two w base B C Z ts ls its) (hrise : Rising (ticksOf its)) (hC : Kd.C k27 w A l.length l) (hl : l.length ≤ 1000) :
    Calls Try.prog 10 #[.pointer (some ⟨C, 0, none⟩), .int .i64 tick, .slice A l.length c] w fun e w' => e = .returned (.int .i64 (code (ticksOf its) tick)) ∧ Below base w w' ∧ (∀ k, Z k → w'.heap[k]? = w.heap[k]?) ∧ Two w' base B C Z ts ls (nextI its ⟨tick, l⟩) := by
  unfold code nextI
  by_cases hlt : lastOf (ticksOf its) < tick
  · rw [if_pos hlt, if_pos hlt]
    exact two_vput h hrise hlt hC hl
  · rw [if_neg hlt, if_neg hlt]
    have hr := h.2.2.choose_spec.choose_spec.2.1
    exact (ref_old hr hrise (by omega) _).mono fun e w' ⟨he, hd⟩ => ⟨he, hd.below.mono h.1, fun k hk => hd.below.block k (h.2.1 k hk), h.below hd.below⟩
end
theorem next_30 {its : List S56} (h : ∀ x, x ∈ its → x.f1.length ≤ 30) {o1 : Int} {o2 : List S27} (h2 : (o2.length : Int) ≤ 30) : ∀ x, x ∈ nextI its ⟨o1, o2⟩ → x.f1.length ≤ 30 := by
  intro x hx
  unfold nextI at hx
  split at hx
  · rcases push_mem hx with h1 | rfl
    · exact h x h1
    · show o2.length ≤ 30
      omega
  · exact h x hx
theorem find_mem {k : Int} {l : List S27} : ∀ {its : List S56}, find k its = some l → ∃ x, x ∈ its ∧ x.f1 = l
  | [], h => by simp [find] at h
  | x :: its, h => by
    unfold find at h
    split at h
    · exact ⟨x, by simp, by simpa using h⟩
    · obtain ⟨y, hy, e⟩ := find_mem h
      exact ⟨y, by simp [hy], e⟩
theorem find_len (k : Int) {its : List S56} (h : ∀ x, x ∈ its → x.f1.length ≤ 30) : ((find k its).getD []).length ≤ 30 := by
  cases e : find k its with
  | none => simp
  | some l =>
    obtain ⟨x, hx, rfl⟩ := find_mem e
    exact h x hx
theorem two_get {w : World} {base B C : Nat} {Z : Nat → Prop} {its : List S56} {tick : Int} (h : Two w base B C Z (ticksOf its) (listsOf its) its) (h30 : ∀ x, x ∈ its → x.f1.length ≤ 30) :
    Calls Try.prog 9 #[.pointer (some ⟨B, 0, none⟩), .int .i64 tick] w fun e w' => ∃ A c, e = .returned (.tuple #[.slice A ((find tick its).getD []).length c, .bool (find tick its).isSome]) ∧ Below w.heap.size w w' ∧ Kd.C k27 w' A ((find tick its).getD []).length ((find tick its).getD []) ∧ ((find tick its).getD []).length ≤ c ∧ Two w' base B C Z (ticksOf its) (listsOf its) its := by
  have hr := h.2.2.choose_spec.choose_spec.1
  refine (get_any (tick := tick) hr fun xs hx => ?_).mono fun e w' ⟨v, he, hb, hv⟩ => ?_
  · rw [find_look] at hx
    obtain ⟨x, hmem, rfl⟩ := find_mem hx
    have := h30 x hmem
    omega
  · rw [find_look] at he hv
    obtain ⟨A, c, rfl, hl, hC⟩ := Kd.R_reads hv
    exact ⟨A, c, he, hb, hC, hl, h.below hb⟩
theorem two_vget {w : World} {base B C : Nat} {Z : Nat → Prop} {ts : List Int} {ls : List (List S27)} {its : List S56} {tick : Int} (h : Two w base B C Z ts ls its) :
    Calls Try.prog 11 #[.pointer (some ⟨C, 0, none⟩), .int .i64 tick] w fun e w' => ∃ A c, e = .returned (.tuple #[.slice A ((find tick its).getD []).length c, .bool (find tick its).isSome]) ∧ w' = w ∧ Kd.C k27 w A ((find tick its).getD []).length ((find tick its).getD []) ∧ ((find tick its).getD []).length ≤ c := by
  have hr := h.2.2.choose_spec.choose_spec.2.1
  refine (ref_get (tick := tick) hr).mono fun e w' ⟨A, n, c, he, hw, hC, hn⟩ => ?_
  obtain rfl := Kd.C_len hC
  exact ⟨A, c, he, hw, hC, hn⟩
theorem HasTicks.below {w W : World} {base B : Nat} {F : Nat → Prop} {ts : List Int} (h : HasTicks w base B F ts) (hb : Below w.heap.size w W) : HasTicks W base B F ts := by
  obtain ⟨hl, tv, mv, hB, hq⟩ := h
  exact ⟨hl, tv, mv, blk_below hB hb, Kd.Q_below hq hb⟩
/-- What holds at each round's head. -/
def Plays (w : World) (B C : Nat) (w' : World) : Prop := Below w.heap.size w w' ∧ ∃ its, Two w' w.heap.size B C (fun _ => False) (ticksOf its) (listsOf its) its ∧ ∀ x, x ∈ its → x.f1.length ≤ 30
theorem two_start {w : World} {base : Nat} (hb : base ≤ w.heap.size) : Two ((w.alloc (.cells #[.slice none 0 0, .map none] 33 (0, 0))).alloc (.cells #[.slice none 0 0] 44 (0, 0))) base w.heap.size (w.heap.size + 1) (fun _ => False) [] [] [] := by
  have e1 : (w.alloc (.cells #[.slice none 0 0, .map none] 33 (0, 0))).heap.size = w.heap.size + 1 := by simp
  have e2 : ((w.alloc (.cells #[.slice none 0 0, .map none] 33 (0, 0))).alloc (.cells #[.slice none 0 0] 44 (0, 0))).heap.size = w.heap.size + 2 := by simp
  have h1 : IsRing (w.alloc (.cells #[.slice none 0 0, .map none] 33 (0, 0))) base w.heap.size (fun k => k = w.heap.size) [] [] := new_ring w hb rfl
  have h2 : IsRef ((w.alloc (.cells #[.slice none 0 0, .map none] 33 (0, 0))).alloc (.cells #[.slice none 0 0] 44 (0, 0))) base (w.heap.size + 1) (fun k => k = w.heap.size + 1) [] := by
    have := new_ref (w.alloc (.cells #[.slice none 0 0, .map none] 33 (0, 0))) (base := base) (G := fun k => k = w.heap.size + 1) (by omega) e1
    rw [e1] at this
    exact this
  exact ⟨by omega, fun k hk => hk.elim, _, _, h1.below (below_alloc (Below.refl _ _) _), h2, fun k hk => ⟨by omega, by omega, by omega, fun h => h⟩, fun k hk => ⟨by omega, by omega, fun h => h⟩⟩
set_option maxHeartbeats 8000000 in
set_option maxRecDepth 100000 in
theorem plays_walk (A : Option Addr) (n c : Nat) (xs : List S46) (w : World) (hC : Kd.C k46 w A n xs) (hc : n ≤ c) :
    Calls Try.prog 4 #[.slice A n c] w fun e w' => e = .returned (.bool true) ∧ Below w.heap.size w w' := by
  have HC := Aside0.mk hC
  clear hC
  by_cases hn : (300 : Int) < (n : Int)
  · go_enter Try.func4, Try.ntmps4
    go_wp2_with (go_at_call 7; (with_reducible refine (awake _).mono ?_); rintro e w1 ⟨rfl, hb⟩; first | (replace HB := Aside0.mk (HB.out.trans (hb.mono HB.out.size)); clear hb) | (have HB := Aside0.mk hb; clear hb))
    go_ret
    exact ⟨rfl, HB.out⟩
  · go_enter Try.func4, Try.ntmps4
    go_upto_region 3 with (go_at_call 7; (with_reducible refine (awake _).mono ?_); rintro e w1 ⟨rfl, hb⟩; have HB := Aside0.mk hb; clear hb)
    have HE : Aside0 (Plays w w1.heap.size (w1.heap.size + 1) ((w1.alloc (.cells #[.slice none 0 0, .map none] 33 (0, 0))).alloc (.cells #[.slice none 0 0] 44 (0, 0)))) := ⟨below_alloc (below_alloc HB.out _) _, [], two_start HB.out.size, by simp⟩
    go_wp2_with fail
    generalize (w1.alloc (.cells #[.slice none 0 0, .map none] 33 (0, 0))).alloc (.cells #[.slice none 0 0] 44 (0, 0)) = w2 at *
    generalize hBd : w1.heap.size = B at *
    clear hBd HB w1
    obtain rfl : xs.length = n := Kd.C_len HC.out
    go_loopg [4, 5] xs.length (fun kq v4 v5 w' => ∃ (C k : Nat), v4 = .pointer (some ⟨C, 0, none⟩) ∧ v5 = .int .i64 (k : Int) ∧ Aside0 (kq + k = xs.length) ∧ Aside0 (Plays w B C w'))
    case atStart => exact ⟨B + 1, 0, rfl, rfl, ⟨rfl⟩, HE⟩
    case round =>
      obtain ⟨C, k, rfl, rfl, HK, HP⟩ := hrel
      clear HE
      by_cases hi : (k : Int) < (xs.length : Int)
      · obtain ⟨ad, A1, c1, e, hx0, hx1, hx2, hl1, hC1⟩ := at_T46 HC.out (k : Int) (by omega) hi
        cases e
        have hbel := HP.out.1
        replace hx0 := cell_kept hx0 (Kept.of_below hbel (fun _ => False)) (fun h => h)
        replace hx1 := cell_kept hx1 (Kept.of_below hbel (fun _ => False)) (fun h => h)
        replace hx2 := cell_kept hx2 (Kept.of_below hbel (fun _ => False)) (fun h => h)
        simp only [Int.toNat_natCast] at hx0 hx1 hx2
        generalize (rd_T46 xs (k : Int)).f0 = o0 at *
        generalize (rd_T46 xs (k : Int)).f1 = o1 at *
        generalize (rd_T46 xs (k : Int)).f2 = o2 at *
        have HA := Aside0.mk hC1
        clear hC1 hbel
        have hi0 : ¬ (xs.length : Int) ≤ k := by omega
        have hi1 : (0 : Int) ≤ k := by omega
        have hi3 : k < xs.length := by omega
        go_upto_region 8 with fail
        obtain ⟨hbel, its, htwo, h30⟩ := HP.out
        have HT := Aside0.mk (htwo.made (.cells #[.int .i64 o0, .int .i64 o1, .slice A1 o2.length c1] 46 (0, 0)))
        have HBL : Aside0 (Below w.heap.size w (wr.alloc (.cells #[.int .i64 o0, .int .i64 o1, .slice A1 o2.length c1] 46 (0, 0)))) := ⟨below_alloc hbel _⟩
        have HO := Aside0.mk (blk_new wr (.cells #[.int .i64 o0, .int .i64 o1, .slice A1 o2.length c1] 46 (0, 0)))
        have H30 := Aside0.mk h30
        clear hbel htwo h30 HP hx0 hx1 hx2
        generalize wr.alloc (.cells #[.int .i64 o0, .int .i64 o1, .slice A1 o2.length c1] 46 (0, 0)) = W0 at *
        generalize wr.heap.size = O at *
        have g0 : W0.cell? ⟨O, 0, none⟩ = some (.int .i64 o0) := (blk_cell HO.out 0).trans rfl
        have g1 : W0.cell? ⟨O, 1, none⟩ = some (.int .i64 o1) := (blk_cell HO.out 1).trans rfl
        have g2 : W0.cell? ⟨O, 2, none⟩ = some (.slice A1 o2.length c1) := (blk_cell HO.out 2).trans rfl
        by_cases h3 : (30 : Int) < (o2.length : Int)
        · go_wp2_with fail
          go_ret
          exact ⟨rfl, HBL.out⟩
        · have h3' : (o2.length : Int) ≤ 30 := by omega
          go_upto_region 10 with fail
          go_cut [40] (fun v wx => v = .int .i64 o0 ∧ W0 = wx)
          case first =>
            go_wp2_with fail
            go_meet
            exact ⟨rfl, rfl⟩
          obtain ⟨rfl, rfl⟩ := hcut
          apply_assumption
          go_cut [4] (fun v wx => ∃ C' : Nat, v = .pointer (some ⟨C', 0, none⟩) ∧ Aside0 (Plays w B C' wx))
          case first =>
            by_cases e1 : o0 = 1
            · subst e1
              have hrise : Rising (ticksOf its) := HT.out.2.2.choose_spec.choose_spec.1.1
              have HT1 : Aside0 (Two W0.drew w.heap.size B C (fun k => k = O) (ticksOf its) (listsOf its) its) := ⟨HT.out.below (below_drew (Below.refl _ _))⟩
              have HP1 := Aside0.mk (two_next (tick := o1) (v := .slice A1 o2.length c1) (xs := o2) HT1.out (fun W hW => came_C (Kd.C_kept_came heap27 HA.out (below_drew HBL.out) (fun _ h => h) W hW) (by omega)))
              have HRI := Aside0.mk hrise
              clear hrise
              go_upto_region 12 with fail
              go_region_held3 (fun w' => w'.cell? ⟨O, 1, none⟩ = some (.int .i64 o1) ∧ w'.cell? ⟨O, 2, none⟩ = some (.slice A1 o2.length c1)) (first | go_keep | (refine ⟨?_, ?_⟩ <;> assumption)) (first | (go_at_call 8; (with_reducible refine HP1.out.mono ?_); rintro e w9 ⟨he, hb9, hz9, ht9⟩; subst he; have HB9 : Aside0 (Below w.heap.size w w9) := ⟨(below_drew HBL.out).trans hb9⟩; have HT9 := Aside0.mk ht9; have HO9 : Aside0 (w9.heap[O]? = some (.cells #[.int .i64 1, .int .i64 o1, .slice A1 o2.length c1] 46 (0, 0))) := ⟨(hz9 O rfl).trans HO.out⟩; have k1 : w9.cell? ⟨O, 1, none⟩ = some (.int .i64 o1) := (blk_cell HO9.out 1).trans rfl; have k2 : w9.cell? ⟨O, 2, none⟩ = some (.slice A1 o2.length c1) := (blk_cell HO9.out 2).trans rfl; clear hb9 hz9 ht9) | (go_at_call 10; (with_reducible refine (two_vnext HT9.out HRI.out (Kd.C_below HA.out HB9.out) ?_).mono ?_); (· omega); rintro e w8 ⟨he, hb8, hz8, ht8⟩; subst he; have HB8 : Aside0 (Below w.heap.size w w8) := ⟨HB9.out.trans hb8⟩; have HT8 := Aside0.mk ht8; have k3 : w8.cell? ⟨O, 1, none⟩ = some (.int .i64 o1) := (blk_cell ((hz8 O rfl).trans HO9.out) 1).trans rfl; have k4 : w8.cell? ⟨O, 2, none⟩ = some (.slice A1 o2.length c1) := (blk_cell ((hz8 O rfl).trans HO9.out) 2).trans rfl; clear hb8 hz8 ht8))
              go_wp2_with fail
              go_meet
              exact ⟨C, rfl, ⟨HB8.out, nextI its ⟨o1, o2⟩, by rw [ticks_next, lists_next]; exact HT8.out.bare, next_30 H30.out h3'⟩⟩
            · by_cases e2 : o0 = 2
              · subst e2
                have HG := Aside0.mk (two_get (tick := o1) HT.out H30.out)
                obtain ⟨l, hl⟩ : ∃ l, l = (find o1 its).getD [] := ⟨_, rfl⟩
                obtain ⟨b, hb⟩ : ∃ b, b = (find o1 its).isSome := ⟨_, rfl⟩
                rw [← hl, ← hb] at HG
                have HL := Aside0.mk (find_len o1 H30.out)
                rw [← hl] at HL
                obtain ⟨ks, hks⟩ := same_eq l (Nat.le_trans HL.out (by decide))
                have HKS := Aside0.mk hks
                have HHL := Aside0.mk hl
                have HHB := Aside0.mk hb
                clear hl hb hks
                go_upto_region 17 with (first | (go_at_call 9; (with_reducible refine HG.out.mono ?_); rintro e w3 ⟨A3, c3, rfl, hb3, hc3, hl3, ht3⟩; have HB3 : Aside0 (Below w.heap.size w w3) := ⟨HBL.out.trans (hb3.mono HBL.out.size)⟩; have HC3 := Aside0.mk hc3; have HT3 := Aside0.mk ht3; have HL3 := Aside0.mk hl3; have m1 : w3.cell? ⟨O, 1, none⟩ = some (.int .i64 o1) := (blk_cell (blk_below HO.out hb3) 1).trans rfl; clear hb3 hc3 ht3 hl3) | (go_at_call 11; (with_reducible refine (two_vget (tick := o1) HT3.out).mono ?_); rintro e w4 ⟨A4, c4, he, hw4, hc4, hl4⟩; subst hw4; rw [← HHL.out] at he hc4 hl4; rw [← HHB.out] at he; subst he; have HC4 := Aside0.mk hc4; have HL4 := Aside0.mk hl4; clear hc4 hl4))
                go_wp2_with (go_at_call 12; (with_reducible refine (ricochetref10_Same.calls ks A3 c3 l A4 c4 l true _ HC3.out HL3.out HC4.out HL4.out HKS.out).mono ?_); rintro e w5 ⟨he, hd⟩; subst he; have HD5 := Aside0.mk hd; clear hd)
                go_meet
                exact ⟨C, rfl, ⟨HB3.out.trans (HD5.out.below.mono HB3.out.size), its, (HT3.out.below HD5.out.below).bare, H30.out⟩⟩
              · by_cases e3 : o0 = 3
                · subst e3
                  go_wp2_with (go_at_call 13; (with_reducible refine (two_clear HT.out).mono ?_); rintro e w3 ⟨he, hb3, ht3⟩; subst he; have HB3 := Aside0.mk (HBL.out.trans hb3); have HT3 := Aside0.mk ht3; clear hb3 ht3)
                  go_meet
                  exact ⟨w3.heap.size, rfl, ⟨below_alloc HB3.out _, [], HT3.out.new, by simp⟩⟩
                · go_wp2_with fail
                  go_meet
                  exact ⟨C, rfl, ⟨HBL.out, its, HT.out.bare, H30.out⟩⟩
          case rest =>
            obtain ⟨C', rfl, HP⟩ := hcut
            obtain ⟨hbel, its', htwo, h30⟩ := HP.out
            have HT' := Aside0.mk htwo
            obtain ⟨_, _, F, G, hr1, hr2, _, _⟩ := htwo
            have HRT := Aside0.mk hr1.ticks
            have HRF := Aside0.mk hr2
            have HB' := Aside0.mk hbel
            have H30' := Aside0.mk h30
            clear hbel h30 hr1 hr2 HP HT HBL HO H30
            go_upto_region 24 with (first | (go_at_call 14; (with_reducible refine (ref_ends HRF.out).mono ?_); rintro e w6 ⟨he, hd⟩; subst he; have HD6 := Aside0.mk hd; clear hd) | (go_at_call 15; (with_reducible refine (first_any (HRT.out.below HD6.out.below)).mono ?_); rintro e w7 ⟨he, hd⟩; subst he; have HD7 := Aside0.mk (HD6.out.below.trans (hd.below.mono HD6.out.below.size)); clear hd) | (go_at_call 16; (with_reducible refine (last_any (HRT.out.below HD7.out)).mono ?_); rintro e w8 ⟨he, hd⟩; subst he; have HD8 := Aside0.mk (HD7.out.trans (hd.below.mono HD7.out.size)); clear hd))
            go_roundg (gk - 1)
            case measure => have := HK.out; omega
            case rel => exact ⟨C', k + 1, rfl, by simp, ⟨by have := HK.out; omega⟩, ⟨HB'.out.trans (HD8.out.mono HB'.out.size), its', HT'.out.below HD8.out, H30'.out⟩⟩
      · have hi2 : (xs.length : Int) ≤ k := by omega
        have HBL := Aside0.mk HP.out.1
        go_wp2_with fail
        go_ret
        exact ⟨rfl, HBL.out⟩
end Go.Proofs.Ytccknclfacbfaaa.Ring
