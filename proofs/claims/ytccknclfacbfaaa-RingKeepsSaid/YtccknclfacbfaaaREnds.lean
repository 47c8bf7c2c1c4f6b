import Derived.Test.YtccknclfacbfaaaRScript
import Derived.Deep.LoopGhost
import Derived.Deep.DeepCutAuto
set_option linter.unusedVariables false
set_option linter.unusedSimpArgs false
namespace Go.Proofs.Ytccknclfacbfaaa.Ring
open Go.RowKit Go.ChangeMaps Go.Proofs.YtccknclfacbfaaaW.PrintWords Go.Proofs.YtccknclfacbfaaaW.PrintLast Go.Proofs.YtccknclfacbfaaaW.PrintMore Go.Proofs.Ytccknclfacbfaaa.PRingPlays Go.Proofs.Ytccknclfacbfaaa.MapI
theorem look_none {k : Int} : ∀ {ts : List Int} {ls : List (List S27)}, (∀ t, t ∈ ts → t ≠ k) → look k ts ls = none
  | [], _, _ => by unfold look; rfl
  | _ :: _, [], _ => by unfold look; rfl
  | t :: ts, x :: ls, h => by
    unfold look
    rw [if_neg (fun e => h t (by simp) e.symm)]
    exact look_none fun s hs => h s (by simp [hs])
theorem push_mem {α : Type} {l : List α} {x y : α} (h : y ∈ push l x) : y ∈ l ∨ y = x := by
  unfold push at h
  split at h
  · simpa using h
  · simpa using List.mem_of_mem_drop h
/-- What holds at each round's head. -/
def Ends (w : World) (B : Nat) (w' : World) : Prop := Below w.heap.size w w' ∧ ∃ ts ls, IsRing w' w.heap.size B (fun k => w.heap.size ≤ k) ts ls ∧ (∀ x, x ∈ ls → x.length ≤ 30) ∧ ∀ t, t ∈ ts → t < 1099511627776
theorem heap27 : Kd.Heap k27 := Kd.heap_iso _ (Kd.heap_pair (Kd.heap_int _) (Kd.heap_pair (Kd.heap_int _) (Kd.heap_pair (Kd.heap_iso _ (Kd.heap_pair (Kd.heap_int _) (Kd.heap_int _))) (Kd.heap_pair (Kd.heap_iso _ (Kd.heap_pair (Kd.heap_int _) (Kd.heap_int _))) (Kd.heap_pair (Kd.heap_int _) (Kd.heap_int _))))))
theorem came_C {w : World} {A : Option Addr} {n c : Nat} {l : List S27} (h : Kd.C k27 w A n l) (hl : n ≤ 1000) : Came w (.slice A n c) l := by
  refine ⟨A, n, c, rfl, h, by omega, fun e => ?_⟩
  subst e
  rcases Nat.eq_zero_or_pos n with h0 | h0
  · have := Kd.C_len h
    exact List.length_eq_zero_iff.1 (by omega)
  · obtain ⟨ad, e, _⟩ := h.2.2 h0
    simp at e
theorem get_len {w : World} {base : Nat} {F : Nat → Prop} {v : Value} (h : k27.R 27 w base F v []) : ∃ A c, v = .slice A 0 c := by
  obtain ⟨A, c, e⟩ := Kd.R_slice h
  exact ⟨A, c, e⟩
theorem get_out {w : World} {base B : Nat} {F : Nat → Prop} {ts : List Int} {ls : List (List S27)} {tick : Int} (h : IsRing w base B F ts ls) (hn : ∀ t, t ∈ ts → t ≠ tick) :
    Calls Try.prog 9 #[.pointer (some ⟨B, 0, none⟩), .int .i64 tick] w fun e w' => ∃ A c, e = .returned (.tuple #[.slice A 0 c, .bool false]) ∧ Below w.heap.size w w' := by
  have hk := look_none (ls := ls) hn
  refine (get_any (tick := tick) h (by rw [hk]; intro xs hx; cases hx)).mono fun e w' ⟨v, he, hb, hr⟩ => ?_
  rw [hk] at he hr
  obtain ⟨A, c, rfl⟩ := get_len hr
  exact ⟨A, c, he, hb⟩
theorem wrap64_id' {x : Int} (h0 : -9223372036854775808 ≤ x) (h1 : x < 9223372036854775808) : wrap64 x = x := by
  unfold wrap64
  omega
theorem ends_put {w wr : World} {B : Nat} (h : Ends w B wr) {A : Option Addr} {c : Nat} {l : List S27} (hC : Kd.C k27 w A l.length l) (hl : (l.length : Int) ≤ 30) {tick : Int} (ht : tick < 1099511627776) :
    ∃ r, Calls Try.prog 8 #[.pointer (some ⟨B, 0, none⟩), .int .i64 tick, .slice A l.length c] wr fun e w' => e = .returned (.int .i64 r) ∧ Ends w B w' := by
  obtain ⟨hb, ts, ls, hr, h30, h40⟩ := h
  by_cases hlt : lastOf ts < tick
  · refine ⟨0, (put_any hr (fun k hk => Nat.le_trans hb.size hk) hb.size hlt (fun W hW => came_C (Kd.C_kept_came heap27 hC hb (fun _ h => h) W hW) (by omega))).mono fun e w' ⟨h1, h2, _, h4⟩ => ⟨h1, hb.trans h2, _, _, h4, fun x hx => ?_, fun t ht' => ?_⟩⟩
    · rcases push_mem hx with h | rfl
      · exact h30 x h
      · omega
    · rcases push_mem ht' with h | rfl
      · exact h40 t h
      · exact ht
  · exact ⟨8, (put_old hr (by omega) _).mono fun e w' ⟨h1, h2⟩ => ⟨h1, hb.trans (h2.below.mono hb.size), ts, ls, hr.below h2.below, h30, h40⟩⟩
theorem Ends.drew {w wr : World} {B : Nat} (h : Ends w B wr) : Ends w B wr.drew := by
  obtain ⟨hb, ts, ls, hr, r⟩ := h
  exact ⟨below_drew hb, ts, ls, hr.below (below_drew (Below.refl _ _)), r⟩
set_option maxHeartbeats 8000000 in
set_option maxRecDepth 100000 in
theorem ends_walk (A : Option Addr) (n c : Nat) (xs : List S46) (far : Int) (hf : 0 ≤ far ∧ far ≤ 255) (w : World) (hC : Kd.C k46 w A n xs) (hc : n ≤ c) :
    Calls Try.prog 6 #[.slice A n c, .int .u8 far] w fun e w' => e = .returned (.bool true) ∧ Below w.heap.size w w' := by
  have HC := Aside0.mk hC
  clear hC
  by_cases hn : (200 : Int) < (n : Int)
  · go_enter Try.func6, Try.ntmps6
    go_wp2_with (go_at_call 7; (with_reducible refine (awake _).mono ?_); rintro e w1 ⟨rfl, hb⟩; first | (replace HB := Aside0.mk (HB.out.trans (hb.mono HB.out.size)); clear hb) | (have HB := Aside0.mk hb; clear hb))
    go_ret
    exact ⟨rfl, HB.out⟩
  · go_enter Try.func6, Try.ntmps6
    go_upto_region 3 with (go_at_call 7; (with_reducible refine (awake _).mono ?_); rintro e w1 ⟨rfl, hb⟩; have HB := Aside0.mk hb; clear hb)
    have HE : Aside0 (Ends w w1.heap.size (w1.alloc (.cells #[.slice none 0 0, .map none] 33 (0, 0)))) := ⟨below_alloc HB.out _, [], [], new_ring w1 HB.out.size HB.out.size, by simp, by simp⟩
    go_wp2_with fail
    generalize hw2 : w1.alloc (.cells #[.slice none 0 0, .map none] 33 (0, 0)) = w2 at *
    generalize hBd : w1.heap.size = B at *
    clear hw2 hBd HB w1
    obtain rfl : xs.length = n := Kd.C_len HC.out
    go_loopg [6] xs.length (fun kq v6 w' => ∃ k : Nat, v6 = .int .i64 (k : Int) ∧ Aside0 (kq + k = xs.length) ∧ Aside0 (Ends w B w'))
    case atStart => exact ⟨0, rfl, ⟨rfl⟩, HE⟩
    case round =>
      obtain ⟨k, rfl, HK, HEr⟩ := hrel
      clear HE
      obtain ⟨hbel, ts, ls, hr, hl, ht⟩ := HEr.out
      by_cases hi : (k : Int) < (xs.length : Int)
      · obtain ⟨ad, A1, c1, e, hx0, hx1, hx2, hl1, hC1⟩ := at_T46 HC.out (k : Int) (by omega) hi
        cases e
        have HX := Aside0.mk (And.intro hx1 hx2)
        replace hx0 := cell_kept hx0 (Kept.of_below hbel (fun _ => False)) (fun h => h)
        replace hx1 := cell_kept hx1 (Kept.of_below hbel (fun _ => False)) (fun h => h)
        replace hx2 := cell_kept hx2 (Kept.of_below hbel (fun _ => False)) (fun h => h)
        simp only [Int.toNat_natCast] at hx0 hx1 hx2
        generalize (rd_T46 xs (k : Int)).f0 = o0 at *
        generalize (rd_T46 xs (k : Int)).f1 = o1 at *
        generalize (rd_T46 xs (k : Int)).f2 = o2 at *
        have hi0 : ¬ (xs.length : Int) ≤ k := by omega
        have hi1 : (0 : Int) ≤ k := by omega
        have hi3 : k < xs.length := by omega
        by_cases h30 : (30 : Int) < (o2.length : Int)
        · have HBL := Aside0.mk hbel
          clear HEr hr hl ht hbel hC1
          go_wp2_with fail
          go_ret
          exact ⟨rfl, HBL.out⟩
        · have HA := Aside0.mk hC1
          have h30' : (o2.length : Int) ≤ 30 := by omega
          clear hr hl ht hbel hC1
          go_upto_region 9 with fail
          go_cut [50] (fun v wx => v = .bool (decide (o0 = 1 ∧ o1 < 1099511627776)) ∧ wx = wr)
          case first =>
            by_cases h1 : o0 = 1
            · subst h1
              go_wp2_with fail
              go_meet
              exact ⟨by simp, rfl⟩
            · go_wp2_with fail
              go_meet
              exact ⟨by simp [h1], rfl⟩
          case rest =>
            obtain ⟨rfl, rfl⟩ := hcut
            go_upto_if 50 with fail
            go_cut [] (fun wx => Aside0 (Ends w B wx))
            case first =>
              by_cases hp : o0 = 1 ∧ o1 < 1099511627776
              · have hd : decide (o0 = 1 ∧ o1 < 1099511627776) = true := decide_eq_true hp
                rw [hd]
                obtain ⟨r, HPut⟩ := ends_put (c := c1) HEr.out.drew HA.out h30' hp.2
                replace HPut := Aside0.mk HPut
                go_upto_region 10 with fail
                go_region_held3 (fun w' => w'.cell? ⟨(ad.add (k * 3)).block, (ad.add (k * 3)).off + 1, none⟩ = some (.int .i64 o1) ∧ w'.cell? ⟨(ad.add (k * 3)).block, (ad.add (k * 3)).off + 2, none⟩ = some (.slice A1 o2.length c1)) (first | go_keep | (refine ⟨?_, ?_⟩ <;> assumption)) (first | (go_at_call 8; (with_reducible refine HPut.out.mono ?_); rintro e w9 ⟨he, hE⟩; subst he; have HE9 := Aside0.mk hE; have g1 := cell_kept HX.out.1 (Kept.of_below hE.1 (fun _ => False)) (fun h => h); have g2 := cell_kept HX.out.2 (Kept.of_below hE.1 (fun _ => False)) (fun h => h); clear hE))
                go_wp2_with fail
                go_meet
                exact HE9
              · have hd : decide (o0 = 1 ∧ o1 < 1099511627776) = false := decide_eq_false hp
                rw [hd]
                go_wp2_with fail
                go_meet
                exact HEr
            case rest =>
              obtain ⟨hbel, ts, ls, hr, hl, ht⟩ := hcut.out
              have HR := Aside0.mk hr
              have HBL := Aside0.mk hbel
              have HH := Aside0.mk (And.intro hl ht)
              clear hr hbel hl ht hcut
              have hfl : -1 ≤ firstOf ts ∧ firstOf ts ≤ lastOf ts ∧ lastOf ts < 1099511627776 := by
                by_cases e : ts = []
                · subst e; decide
                · have h1 := first_le HR.out.1.2.1 _ (last_mem e)
                  have h2 := HH.out.2 _ (last_mem e)
                  refine ⟨?_, h1, h2⟩
                  cases ts with
                  | nil => exact absurd rfl e
                  | cons t ts => have := HR.out.1.2.2 t (by simp); show -1 ≤ t; omega
              have HN1 : Aside0 (∀ t, t ∈ ts → t ≠ firstOf ts - 1 - far) := ⟨fun t ht => by
                have h1 := first_le HR.out.1.2.1 t ht
                omega⟩
              have HN2 : Aside0 (∀ t, t ∈ ts → t ≠ lastOf ts + 1 + far) := ⟨fun t ht => by
                have h1 := le_last HR.out.1.2.1 t ht
                omega⟩
              have hle : ¬ lastOf ts < firstOf ts := by omega
              go_upto_region 14 with (first | (go_at_call 15; (with_reducible refine (first_any HR.out.ticks).mono ?_); rintro e w3 ⟨he, hd⟩; subst he; replace HR := Aside0.mk (HR.out.below hd.below); replace HBL := Aside0.mk (HBL.out.trans (hd.below.mono HBL.out.size)); clear hd) | (go_at_call 16; (with_reducible refine (last_any HR.out.ticks).mono ?_); rintro e w3 ⟨he, hd⟩; subst he; replace HR := Aside0.mk (HR.out.below hd.below); replace HBL := Aside0.mk (HBL.out.trans (hd.below.mono HBL.out.size)); clear hd) | (go_at_call 9; (first | (with_reducible refine (get_out HR.out HN1.out).mono ?_) | (with_reducible refine (get_out HR.out HN2.out).mono ?_)); rintro e w5 ⟨A5, c5, rfl, hd⟩; replace HR := Aside0.mk (HR.out.below hd); replace HBL := Aside0.mk (HBL.out.trans (hd.mono HBL.out.size)); clear hd))
              go_roundg (gk - 1)
              case measure => have := HK.out; omega
              case rel => exact ⟨k + 1, by simp, ⟨by have := HK.out; omega⟩, ⟨HBL.out, ts, ls, HR.out, HH.out.1, HH.out.2⟩⟩
      · have HR := Aside0.mk hr
        have HBL := Aside0.mk hbel
        clear HEr hr hbel hl ht
        have hi2 : (xs.length : Int) ≤ k := by omega
        go_upto_region 16 with (go_at_call 16; (with_reducible refine (last_any HR.out.ticks).mono ?_); rintro e w3 ⟨he, hd⟩; subst he; replace HR := Aside0.mk (HR.out.below hd.below); replace HBL := Aside0.mk (HBL.out.trans (hd.below.mono HBL.out.size)); clear hd)
        go_upto_region 17 with (go_at_call 13; (with_reducible refine (clear_any HR.out).mono ?_); rintro e w4 ⟨he, hd, _, hr4⟩; subst he; replace HR := Aside0.mk hr4; replace HBL := Aside0.mk (HBL.out.trans hd); clear hd hr4)
        go_upto_region 18 with (go_at_call 9; (with_reducible refine (get_out HR.out ?_).mono ?_); (· intro t ht; simp at ht); rintro e w5 ⟨A5, c5, rfl, hd⟩; replace HR := Aside0.mk (HR.out.below hd); replace HBL := Aside0.mk (HBL.out.trans (hd.mono HBL.out.size)); clear hd)
        have hl0 : lastOf [] = -1 := rfl
        have hf0 : firstOf (push [] 0) = 0 := rfl
        go_wp2_with (first | (go_at_call 16; (with_reducible refine (last_any HR.out.ticks).mono ?_); rintro e w6 ⟨he, hd⟩; rw [hl0] at he; subst he; replace HR := Aside0.mk (HR.out.below hd.below); replace HBL := Aside0.mk (HBL.out.trans (hd.below.mono HBL.out.size)); clear hd) | (go_at_call 8; (with_reducible refine (put_any (tick := 0) HR.out ?_ ?_ ?_ (fun W _ => came_nil W)).mono ?_); (· exact fun k hk => Nat.le_trans HBL.out.size hk); (· exact HBL.out.size); (· decide); rintro e w7 ⟨he, hd, _, hr7⟩; subst he; replace HR := Aside0.mk hr7; replace HBL := Aside0.mk (HBL.out.trans hd); clear hd hr7) | (go_at_call 15; (with_reducible refine (first_any HR.out.ticks).mono ?_); rintro e w8 ⟨he, hd⟩; rw [hf0] at he; subst he; replace HBL := Aside0.mk (HBL.out.trans (hd.below.mono HBL.out.size)); clear hd))
        go_ret
        exact ⟨rfl, HBL.out⟩
end Go.Proofs.Ytccknclfacbfaaa.Ring
