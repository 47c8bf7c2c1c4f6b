import Derived.Test.YtccknclfacbfaaaRTwo
import Derived.Test.YtccknclfacbfaaaREnds
set_option linter.unusedVariables false
set_option linter.unusedSimpArgs false
namespace Go.Proofs.Ytccknclfacbfaaa.Ring
open Go.RowKit Go.ChangeMaps Go.Proofs.YtccknclfacbfaaaW.PrintWords Go.Proofs.YtccknclfacbfaaaW.PrintLast Go.Proofs.YtccknclfacbfaaaW.PrintMore Go.Proofs.Ytccknclfacbfaaa.PRingPlays Go.Proofs.Ytccknclfacbfaaa.MapI
/-- The entity with this health. -/
def heal (x : S27) (h : Int) : S27 := { x with f4 := h }
def cellsE (x : S27) : Array Value := #[.int .i64 x.f0, .int .i64 x.f1, .int .i64 x.f2.f0, .int .i64 x.f2.f1, .int .i64 x.f3.f0, .int .i64 x.f3.f1, .int .i64 x.f4, .int .i64 x.f5]
def rowsE (x : S27) (k : Nat) : List (List S27) := (List.range k).map fun (i : Nat) => [heal x (i : Int), heal x (i : Int)]
/-- What holds at each round's head of the first loop. -/
def Keep1 (w : World) (E B : Nat) (x : S27) (k : Nat) (tick : Int) (v : Value) (w' : World) : Prop :=
  Below w.heap.size w w' ∧ w.heap.size ≤ E ∧ E < w'.heap.size ∧ (∃ h, w'.heap[E]? = some (.cells (cellsE (heal x h)) 27 (0, 0))) ∧ ∃ tks : List Int, tks.length = k ∧ tks.Pairwise (· < ·) ∧ (∀ t, t ∈ tks → 0 ≤ t ∧ t ≤ tick) ∧
  ∃ F G : Nat → Prop, IsRing w' w.heap.size B F (tks.drop (k - 64)) ((rowsE x k).drop (k - 64)) ∧ (Kd.int .i64).Q 3 w' w.heap.size G v tks ∧ (∀ j, F j → j < w'.heap.size ∧ ¬ G j ∧ j ≠ E) ∧ ∀ j, G j → j < w'.heap.size ∧ j ≠ E
theorem push_drop {α : Type} (l : List α) (y : α) : push (l.drop (l.length - 64)) y = (l ++ [y]).drop (l.length + 1 - 64) := by
  unfold push
  by_cases h : l.length < 64
  · rw [show l.length - 64 = 0 by omega, show l.length + 1 - 64 = 0 by omega, List.drop_zero, if_pos h, List.drop_zero]
  · rw [if_neg (by rw [List.length_drop]; omega), ← List.drop_append_of_le_length (by omega), List.drop_drop, show l.length - 64 + 1 = l.length + 1 - 64 by omega]
theorem rows_next (x : S27) (k : Nat) : rowsE x (k + 1) = rowsE x k ++ [[heal x k, heal x k]] := by
  unfold rowsE
  rw [List.range_succ, List.map_append]
  rfl
theorem rows_len (x : S27) (k : Nat) : (rowsE x k).length = k := by simp [rowsE]
theorem add_zero' (L m : Nat) : Addr.add ⟨L, 0, none⟩ m = ⟨L, m, none⟩ := by
  unfold Addr.add
  split <;> simp_all
theorem rows_at (x : S27) {i n : Nat} (h : i < n) : (rowsE x n)[i]? = some [heal x (i : Int), heal x (i : Int)] := by
  unfold rowsE
  rw [List.getElem?_map, List.getElem?_range h]
  rfl
theorem look_at {k : Int} {v : List S27} : ∀ {ts : List Int} {ls : List (List S27)} {j : Nat}, ts.Pairwise (· < ·) → ts[j]? = some k → ls[j]? = some v → look k ts ls = some v
  | [], _, _, _, h, _ => by simp at h
  | _ :: _, [], _, _, _, h => by simp at h
  | t :: ts, x :: ls, 0, _, h, h2 => by
    unfold look
    simp at h h2
    rw [if_pos h.symm, h2]
  | t :: ts, x :: ls, j + 1, hp, h, h2 => by
    unfold look
    have := (List.pairwise_cons.1 hp).1 k (List.mem_of_getElem? (by simpa using h))
    rw [if_neg (by omega)]
    exact look_at (List.pairwise_cons.1 hp).2 (by simpa using h) (by simpa using h2)
theorem look_drop {tks : List Int} {ls : List (List S27)} {i m : Nat} {v : List S27} (hp : tks.Pairwise (· < ·)) (hl : ls.length = tks.length) (hi : i < tks.length) (hm : m ≤ i) (hv : ls[i]? = some v) : look (tks.getD i 0) (tks.drop m) (ls.drop m) = some v := by
  refine look_at (j := i - m) (hp.sublist (List.drop_sublist _ _)) ?_ ?_
  · rw [List.getElem?_drop, show m + (i - m) = i by omega, List.getD_eq_getElem?_getD, List.getElem?_eq_getElem hi]
    rfl
  · rw [List.getElem?_drop, show m + (i - m) = i by omega, hv]
theorem drop_far {tks : List Int} {i m : Nat} (hp : tks.Pairwise (· < ·)) (hi : i < m) (hm : m ≤ tks.length) : ∀ t, t ∈ tks.drop m → t ≠ tks.getD i 0 := by
  intro t ht
  have hi' : i < (tks.take m).length := by rw [List.length_take]; omega
  have h1 : tks.getD i 0 ∈ tks.take m := by
    rw [List.getD_eq_getElem?_getD, List.getElem?_eq_getElem (by omega), Option.getD_some, ← List.getElem_take (h := hi')]
    exact List.getElem_mem hi'
  rw [← List.take_append_drop m tks] at hp
  have := (List.pairwise_append.1 hp).2.2 _ h1 t ht
  omega
theorem got_two {w : World} {base : Nat} {F : Nat → Prop} {v : Value} {y : S27} (h : k27.R 27 w base F v [y, y]) : ∃ g c, v = .slice (some ⟨g, 0, none⟩) 2 c ∧ base ≤ g ∧ w.cell? ⟨g, 6, none⟩ = some (.int .i64 y.f4) ∧ w.cell? ⟨g, 14, none⟩ = some (.int .i64 y.f4) ∧ w.frozen? ⟨g, 14, none⟩ = false := by
  obtain ⟨inner, ho⟩ := Kd.R_own h
  obtain ⟨_, ⟨_, hz⟩ | ⟨g, cap, cur, rfl, hb, hh, _⟩⟩ := ho
  · simp at hz
  · have hC := (Kd.R_reads' h).2.2
    obtain ⟨ad, e, _, _, _, _, _, _, h6, _⟩ := at_T27 hC 0 (by omega) (by simp)
    cases e
    obtain ⟨ad, e, _, _, _, _, _, _, h14, _⟩ := at_T27 hC 1 (by omega) (by simp)
    cases e
    refine ⟨g, cap, rfl, hb, ?_, ?_, blk_frozen hh _⟩
    · rw [add_zero'] at h6
      exact h6
    · rw [add_zero'] at h14
      exact h14
theorem get_two {w : World} {base B : Nat} {F : Nat → Prop} {ts : List Int} {ls : List (List S27)} {tick : Int} {x : S27} {i : Int} (h : IsRing w base B F ts ls) (hs : look tick ts ls = some [heal x i, heal x i]) :
    Calls Try.prog 9 #[.pointer (some ⟨B, 0, none⟩), .int .i64 tick] w fun e w' => ∃ g c, e = .returned (.tuple #[.slice (some ⟨g, 0, none⟩) 2 c, .bool true]) ∧ Below w.heap.size w w' ∧ w.heap.size ≤ g ∧ w'.cell? ⟨g, 6, none⟩ = some (.int .i64 i) ∧ w'.cell? ⟨g, 14, none⟩ = some (.int .i64 i) ∧ w'.frozen? ⟨g, 14, none⟩ = false := by
  refine (get_any (tick := tick) h (by rw [hs]; intro xs hx; cases hx; simp)).mono fun e w' ⟨v, he, hb, hr⟩ => ?_
  rw [hs] at he hr
  obtain ⟨g, c, rfl, hg, h1, h2, h3⟩ := got_two hr
  exact ⟨g, c, he, hb, hg, h1, h2, h3⟩
theorem came_two {W : World} {L : Nat} {y : S27} (h : W.heap[L]? = some (.cells (cellsE y ++ cellsE y) 27 (0, 0))) : Came W (.slice (some ⟨L, 0, none⟩) 2 2) [y, y] := by
  refine ⟨some ⟨L, 0, none⟩, 2, 2, rfl, ⟨rfl, by simp [maxLen], fun _ => ⟨⟨L, 0, none⟩, rfl, fun j p hj => ?_⟩⟩, by decide, fun e => by cases e⟩
  have hy : ∀ o i u, (o = 0 ∨ o = 8) → (cellsE y).toList[i]? = some u → W.cell? ⟨L, o + i, none⟩ = some u := by
    intro o i u ho hu
    rw [blk_cell h (o + i)]
    have hi : i < 8 := (List.getElem?_eq_some_iff.1 hu).1
    rw [Array.getElem?_append]
    rcases ho with rfl | rfl
    · rw [if_pos (by simp [cellsE]; omega), Nat.zero_add, ← hu, Array.getElem?_toList]
    · rw [if_neg (by simp [cellsE]), show 8 + i - (cellsE y).size = i by simp [cellsE], ← hu, Array.getElem?_toList]
  match j, hj with
  | 0, hj =>
    obtain rfl : y = p := by simpa using hj
    exact ⟨(cellsE y).toList, rfl, k27_mk W y, fun i u hu => by rw [add_zero', Nat.zero_mul]; exact hy 0 i u (.inl rfl) hu⟩
  | 1, hj =>
    obtain rfl : y = p := by simpa using hj
    exact ⟨(cellsE y).toList, rfl, k27_mk W y, fun i u hu => by rw [add_zero', Nat.one_mul]; exact hy 8 i u (.inr rfl) hu⟩
  | j + 2, hj => simp at hj
set_option maxHeartbeats 8000000 in
set_option maxRecDepth 100000 in
theorem keeps_walk (A : Option Addr) (n c : Nat) (xs : List Int) (x : S27) (w : World) (hC : Kd.C (Kd.int .u8) w A n xs) (hc : n ≤ c) (hxs : ∀ s, s ∈ xs → 0 ≤ s ∧ s ≤ 255) :
    Calls Try.prog 3 #[.slice A n c, .agg (cellsE x)] w fun e w' => e = .returned (.bool true) ∧ Below w.heap.size w w' := by
  have HC := Aside0.mk hC
  have HXS := Aside0.mk hxs
  clear hC hxs
  by_cases hn : (200 : Int) < (n : Int)
  · go_enter Try.func3, Try.ntmps3
    go_wp2_with (go_at_call 7; (with_reducible refine (awake _).mono ?_); rintro e w1 ⟨rfl, hb⟩; first | (replace HB := Aside0.mk (HB.out.trans (hb.mono HB.out.size)); clear hb) | (have HB := Aside0.mk ((below_alloc (Below.refl _ _) _).trans (hb.mono (below_alloc (Below.refl _ _) _).size)); clear hb))
    go_ret
    exact ⟨rfl, HB.out⟩
  · go_enter Try.func3, Try.ntmps3
    go_upto_region 3 with (go_at_call 7; (with_reducible refine (awake _).mono ?_); rintro e w1 ⟨rfl, hb⟩; have HB := Aside0.mk hb; clear hb)
    have HB1 : Aside0 (Below w.heap.size w w1) := ⟨(below_alloc (Below.refl _ _) _).trans (HB.out.mono (below_alloc (Below.refl _ _) _).size)⟩
    have HE1 := Aside0.mk (blk_below (blk_new w (.cells (cellsE x) 27 (0, 0))) HB.out)
    have hsz : w.heap.size < w1.heap.size := blk_lt HE1.out
    have HE : Aside0 (Keep1 w w.heap.size w1.heap.size x 0 0 (.slice none 0 0) (w1.alloc (.cells #[.slice none 0 0, .map none] 33 (0, 0)))) :=
      ⟨below_alloc HB1.out _, Nat.le_refl _, blk_lt (blk_alloc HE1.out _), ⟨x.f4, blk_alloc HE1.out _⟩, [], rfl, by simp, by simp, fun k => k = w1.heap.size, fun _ => False, new_ring w1 HB1.out.size rfl, Kd.Q_nil _ _ _ _ _, fun j hj => ⟨by subst hj; exact blk_lt (blk_new w1 _), fun h => h, by omega⟩, fun j hj => hj.elim⟩
    go_wp2_with fail
    generalize w1.alloc (.cells #[.slice none 0 0, .map none] 33 (0, 0)) = w2 at *
    generalize hBd : w1.heap.size = B at *
    generalize hEd : w.heap.size = E at *
    have HED := Aside0.mk hEd
    clear hBd hEd HB HB1 HE1 w1
    obtain rfl : xs.length = n := Kd.C_len HC.out
    go_loopg [6, 7, 8] xs.length (fun kq v6 v7 v8 w' => ∃ (k : Nat) (tick : Int), v7 = .int .i64 tick ∧ v8 = .int .i64 (k : Int) ∧ Aside0 (kq + k = xs.length ∧ 0 ≤ tick ∧ tick ≤ 5 * k) ∧ Aside0 (Keep1 w E B x k tick v6 w'))
    case atStart => exact ⟨0, 0, rfl, rfl, ⟨rfl, by omega, by omega⟩, HE⟩
    case round =>
      obtain ⟨k, tick, rfl, rfl, HK, HP⟩ := hrel
      clear HE
      by_cases hi : (k : Int) < (xs.length : Int)
      · obtain ⟨ad, cc, e, _, hK, hx0⟩ := Kd.C_get HC.out 0 (k : Int) (by omega) hi
        cases e
        obtain ⟨hbel, hE0, hE1, ⟨h0, hE2⟩, tks, ht0, ht1, ht2, F, G, hr, hq, hF, hG⟩ := HP.out
        obtain rfl : cc = [.int .u8 (xs.getD k 0)] := hK
        have hs0 := HXS.out (xs.getD k 0) (by rw [List.getD_eq_getElem?_getD, List.getElem?_eq_getElem (by omega)]; simp)
        have hx : wr.cell? (ad.add k) = some (.int .u8 (xs.getD k 0)) := cell_kept (by have := hx0 0 _ rfl; simpa [Kd.int, Kd.scalar] using this) (Kept.of_below hbel (fun _ => False)) (fun h => h)
        have HX := Aside0.mk (And.intro hr hq)
        clear hx0 HP hr hq
        generalize xs.getD k 0 = s at *
        have hi0 : ¬ (xs.length : Int) ≤ k := by omega
        have hi1 : (0 : Int) ≤ k := by omega
        have hi3 : k < xs.length := by omega
        have e6 : wr.cell? ⟨E, 6, none⟩ = some (.int .i64 h0) := (blk_cell hE2 6).trans rfl
        have ef : wr.frozen? ⟨E, 6, none⟩ = false := blk_frozen hE2 6
        go_upto_region 11 with fail
        obtain ⟨T, hT⟩ : ∃ T, wrap64 (tick + (1 + s % 5)) = T := ⟨_, rfl⟩
        have hT1 : tick < T ∧ T ≤ tick + 5 := by
          have := HK.out
          rw [← hT, wrap64_id' (by omega) (by omega)]
          omega
        rw [hT]
        have hE3 : (wr.setCell ⟨E, 6, none⟩ (.int .i64 (k : Int))).heap[E]? = some (.cells (cellsE (heal x k)) 27 (0, 0)) := (blk_set hE2 6 _).trans rfl
        have hk1 : Kept wr (wr.setCell ⟨E, 6, none⟩ (.int .i64 (k : Int))) (fun j => j = E) := (Kept.refl wr (fun j => j = E)).setCell (p := ⟨E, 6, none⟩) (.inl rfl) _
        have hX1 := And.intro (HX.out.1.kept hk1 (fun j hj => (hF j hj).2.2)) (Kd.Q_step HX.out.2 (fun j hj hlt => hk1.2 j hlt (hG j hj).2))
        have hs1 : (wr.setCell ⟨E, 6, none⟩ (.int .i64 (k : Int))).heap.size = wr.heap.size := by simp
        have hb1 := hbel.setCell (p := ⟨E, 6, none⟩) hE0 (.int .i64 (k : Int))
        clear hE2 hk1 hx e6 ef HX hbel h0 hT
        generalize wr.setCell ⟨E, 6, none⟩ (.int .i64 (k : Int)) = W1 at *
        rw [← hs1] at hF hG hE1
        clear hs1 wr
        have m0 : W1.cell? ⟨E, 0, none⟩ = some (.int .i64 x.f0) := (blk_cell hE3 0).trans rfl
        have m1 : W1.cell? ⟨E, 1, none⟩ = some (.int .i64 x.f1) := (blk_cell hE3 1).trans rfl
        have m2 : W1.cell? ⟨E, 2, none⟩ = some (.int .i64 x.f2.f0) := (blk_cell hE3 2).trans rfl
        have m3 : W1.cell? ⟨E, 3, none⟩ = some (.int .i64 x.f2.f1) := (blk_cell hE3 3).trans rfl
        have m4 : W1.cell? ⟨E, 4, none⟩ = some (.int .i64 x.f3.f0) := (blk_cell hE3 4).trans rfl
        have m5 : W1.cell? ⟨E, 5, none⟩ = some (.int .i64 x.f3.f1) := (blk_cell hE3 5).trans rfl
        have m6 : W1.cell? ⟨E, 6, none⟩ = some (.int .i64 (k : Int)) := (blk_cell hE3 6).trans rfl
        have m7 : W1.cell? ⟨E, 7, none⟩ = some (.int .i64 x.f5) := (blk_cell hE3 7).trans rfl
        go_upto_region 12 with fail
        have hL := blk_new W1 (.cells (cellsE (heal x k) ++ cellsE (heal x k)) 27 (0, 0))
        have hE4 := blk_alloc hE3 (.cells (cellsE (heal x k) ++ cellsE (heal x k)) 27 (0, 0))
        have hr2 := hX1.1.below (below_alloc (Below.refl _ _) (.cells (cellsE (heal x k) ++ cellsE (heal x k)) 27 (0, 0)))
        have hq2 := Kd.Q_alloc hX1.2 (.cells (cellsE (heal x k) ++ cellsE (heal x k)) 27 (0, 0))
        have hb2 := below_alloc hb1 (.cells (cellsE (heal x k) ++ cellsE (heal x k)) 27 (0, 0))
        have hs2 : (W1.alloc (.cells (cellsE (heal x k) ++ cellsE (heal x k)) 27 (0, 0))).heap.size = W1.heap.size + 1 := by simp
        change Code.wp _ _ _ _ (W1.alloc (.cells (cellsE (heal x k) ++ cellsE (heal x k)) 27 (0, 0)))
        generalize W1.alloc (.cells (cellsE (heal x k) ++ cellsE (heal x k)) 27 (0, 0)) = W2 at *
        generalize W1.heap.size = L at *
        clear hX1 hb1 hE3 m0 m1 m2 m3 m4 m5 m6 m7
        clear W1
        have hlt : lastOf (tks.drop (k - 64)) < T := by
          by_cases e : tks.drop (k - 64) = []
          · rw [e]
            have := HK.out
            show (-1 : Int) < T
            omega
          · have := ht2 _ (List.mem_of_mem_drop (last_mem e))
            omega
        have HPut := Aside0.mk (put_any (tick := T) (v := .slice (some ⟨L, 0, none⟩) 2 2) (xs := [heal x k, heal x k]) (hr2.foot (F' := fun j => F j ∨ L < j) (fun j hj => .inl hj)) (fun j hj => .inr (by omega)) hb2.size hlt (fun W hW => came_two ((hW.2 L (by omega) (by rintro (h | h); (· have := (hF L h).1; omega); (· omega))).trans hL)))
        have HA := Aside0.mk (And.intro hq2 (And.intro hb2 (And.intro hL hE4)))
        have HFG := Aside0.mk (And.intro hF hG)
        have HTK := Aside0.mk (And.intro ht0 (And.intro ht1 ht2))
        clear hq2 hb2 hL hE4 hF hG hr2 ht0 ht1 ht2 hs0
        go_upto_region 14 with (go_at_call 8; (with_reducible refine HPut.out.mono ?_); rintro e w3 ⟨rfl, hb3, hk3, hr3⟩; have HB3 := Aside0.mk hb3; have HK3 := Aside0.mk hk3; have HR3 := Aside0.mk hr3; clear hb3 hk3 hr3)
        obtain ⟨hq2, hb2, hL, hE4⟩ := HA.out
        obtain ⟨hF, hG⟩ := HFG.out
        have hL3 := (HK3.out.2 L (by omega) (by rintro (h | h); (· have := (hF L h).1; omega); (· omega))).trans hL
        have hE5 := (HK3.out.2 E (by omega) (by rintro (h | h); (· exact (hF E h).2.2 rfl); (· omega))).trans hE4
        have hq3 := Kd.Q_step hq2 (fun j hj hlt => HK3.out.2 j hlt (by rintro (h | h); (· exact (hF j h).2.1 hj); (· have := (hG j hj).1; omega)))
        have hb3 := hb2.trans HB3.out
        have hs3 := HK3.out.1
        have hr3 := HR3.out.tight
        clear HK3 HB3 HPut HA hL hE4 hq2 hb2 HR3
        have g6 : w3.cell? ⟨L, 6, none⟩ = some (.int .i64 (k : Int)) := (blk_cell hL3 6).trans rfl
        have gf : w3.frozen? ⟨L, 6, none⟩ = false := blk_frozen hL3 6
        have hk4 : Kept w3 (w3.setCell ⟨L, 6, none⟩ (.int .i64 (-5))) (fun j => j = L) := (Kept.refl w3 (fun j => j = L)).setCell (p := ⟨L, 6, none⟩) (.inl rfl) _
        have hs4 : (w3.setCell ⟨L, 6, none⟩ (.int .i64 (-5))).heap.size = w3.heap.size := by simp
        have hE6 := (hk4.2 E (by omega) (by omega)).trans hE5
        have HR4 := Aside0.mk (hr3.kept hk4 (by rintro j ⟨h | h, _⟩; (· have := (hF j h).1; omega); (· omega)))
        have hq4 := Kd.Q_step hq3 (fun j hj hlt => hk4.2 j hlt (by have := (hG j hj).1; omega))
        have HB4 := Aside0.mk (hb3.setCell (p := ⟨L, 6, none⟩) (by show w.heap.size ≤ L; omega) (.int .i64 (-5)))
        clear hL3 hE5 hq3 hb3 hr3 hk4 hF hG
        go_upto_region 15 with fail
        clear g6 gf
        generalize w3.setCell ⟨L, 6, none⟩ (.int .i64 (-5)) = w4 at *
        have HQ4 : Aside0 ((Kd.int .i64).Q 3 w4 w.heap.size (fun j => G j ∨ w4.heap.size ≤ j) u6 tks) := ⟨Kd.Q_mono hq4 fun j hj => .inl hj⟩
        have HE6 := Aside0.mk hE6
        have HGQ := Aside0.mk (Kd.Q_ok hq4)
        obtain ⟨A6, c6, rfl, hlc6⟩ := Kd.Q_slice hq4
        have hn6 : tks.length < 1000 := by rw [HTK.out.1]; omega
        have HS4 := Aside0.mk hs4
        clear hq4 hE6 hs4
        go_upto_region 8 with (at_builtin; refine Kd.Q_append (Kd.int .i64) (w0 := w) w.heap.size rfl _ _ 30 3 (.int .i64 0) 8 rfl Try.underlying30 info3 rfl (by decide) (by decide) (.slice A6 tks.length c6) tks T [.int .i64 T] (fun j => G j ∨ w4.heap.size ≤ j) (fun _ => False) rfl rfl rfl (fun _ h => h.elim) (fun j hj => .inr hj) HQ4.out HB4.out HB4.out.size (by omega) ?_; intro v5 w5 h1 h2 h3 h4; have HQ5 := Aside0.mk h1; have HB5 := Aside0.mk h2; have HG5 := Aside0.mk h3; clear h1 h2 h3 h4)
        go_wp2_with fail
        go_roundg (gk - 1)
        case measure => have := HK.out.1; omega
        case rel =>
          obtain ⟨ht0, ht1, ht2⟩ := HTK.out
          obtain ⟨hF, hG⟩ := HFG.out
          have hs4 := HS4.out
          have hk5 : Kept w4 w5 (fun j => G j) := Kept.of_grown HG5.out (Kept.refl _ _) (fun j hj => .inl (HGQ.out j hj))
          have hs5 := hk5.1
          have hpush := push_drop tks T
          have hpush2 := push_drop (rowsE x k) [heal x k, heal x k]
          rw [rows_len, ← rows_next] at hpush2
          rw [ht0] at hpush
          have hr5 := HR4.out.kept hk5 (by rintro j ⟨h | h, _⟩ hg; (· exact (hF j h).2.1 hg); (· have := (hG j hg).1; omega))
          rw [hpush, hpush2] at hr5
          refine ⟨k + 1, T, rfl, by simp, ⟨by have := HK.out.1; omega, by have := HK.out.2; omega, by have := HK.out.2; simp; omega⟩, ⟨HB5.out, hE0, by omega, ⟨k, (hk5.2 E (by omega) (fun hg => (hG E hg).2 rfl)).trans HE6.out⟩, tks ++ [T], by simp [ht0], ?_, ?_, _, fun j => (G j ∨ w4.heap.size ≤ j) ∧ j < w5.heap.size, hr5, Kd.Q_mono (Kd.Q_bound HQ5.out) (fun j hj => ⟨hj.1, hj.2.2.1⟩), ?_, ?_⟩⟩
          · refine List.pairwise_append.2 ⟨ht1, by simp, fun a ha b hb => ?_⟩
            have := ht2 a ha
            simp at hb
            omega
          · intro t ht
            rcases List.mem_append.1 ht with h | h
            · have := ht2 t h
              omega
            · simp at h
              have := HK.out.2
              omega
          · rintro j ⟨h | h, h3⟩
            · have := hF j h
              exact ⟨by omega, fun hg => hg.1.elim this.2.1 (by omega), this.2.2⟩
            · exact ⟨by omega, fun hg => hg.1.elim (fun hg => by have := (hG j hg).1; omega) (by omega), by omega⟩
          · rintro j ⟨h | h, h3⟩
            · exact ⟨h3, (hG j h).2⟩
            · exact ⟨h3, by omega⟩
      · have hi2 : (xs.length : Int) ≤ k := by omega
        obtain ⟨hbel, _, _, _, tks, ht0, ht1, ht2, F, G, hr, hq, _, _⟩ := HP.out
        have HKn : k = xs.length := by have := HK.out.1; omega
        subst HKn
        have HR := Aside0.mk hr
        have HQ := Aside0.mk hq
        have HBL := Aside0.mk hbel
        have HTK := Aside0.mk (And.intro ht1 ht2)
        have hn200 : tks.length ≤ 200 := by omega
        rw [← ht0] at HR
        clear HP hr hq hbel ht1 ht2
        obtain ⟨A6, c6, rfl, _⟩ := Kd.Q_slice HQ.out
        go_upto_region 16 with fail
        generalize wr = w3 at *
        go_wp2_with fail
        go_loopg [10] tks.length (fun kq v10 w' => ∃ i : Nat, v10 = .int .i64 (i : Int) ∧ Aside0 (kq + i = tks.length) ∧ Aside0 (Below w3.heap.size w3 w'))
        case atStart => exact ⟨0, rfl, ⟨rfl⟩, ⟨Below.refl _ _⟩⟩
        case round =>
          obtain ⟨i, rfl, HI, HB⟩ := hrel
          by_cases hj : (i : Int) < (tks.length : Int)
          · have hq2 := Kd.Q_below HQ.out HB.out
            obtain ⟨ad6, cc, e, _, hK, hx0⟩ := Kd.C_get (Kd.Q_reads' hq2).2.2 0 (i : Int) (by omega) hj
            cases e
            obtain rfl : cc = [.int .i64 (tks.getD i 0)] := hK
            have hx : wr.cell? (ad6.add i) = some (.int .i64 (tks.getD i 0)) := by have := hx0 0 _ rfl; simpa [Kd.int, Kd.scalar] using this
            have HR2 := Aside0.mk (HR.out.below HB.out)
            have hj0 : ¬ (tks.length : Int) ≤ i := by omega
            have hj1 : (0 : Int) ≤ i := by omega
            have hj3 : i < tks.length := by omega
            have hn3 : (tks.length : Int) ≤ 200 := by omega
            clear hx0
            by_cases hk : tks.length ≤ i + 64
            · have hlook : look (tks.getD i 0) (tks.drop (tks.length - 64)) ((rowsE x tks.length).drop (tks.length - 64)) = some [heal x i, heal x i] := look_drop HTK.out.1 (rows_len x _) hj3 (by omega) (rows_at x hj3)
              have HLK := Aside0.mk hlook
              have hk1 : (tks.length : Int) - 64 ≤ i := by omega
              have HG := Aside0.mk (get_two HR2.out hlook)
              have HC6 := Aside0.mk (Kd.Q_reads' hq2).2.2
              generalize htv : tks.getD i 0 = t at *
              clear hlook hq2
              go_upto_region 24 with (go_at_call 9; (with_reducible refine HG.out.mono ?_); rintro e w4 ⟨g, c4, rfl, hb4, hg0, p6, p14, pf⟩; have HB4 := Aside0.mk hb4; have HG0 := Aside0.mk hg0; clear hb4 hg0)
              have HW5 := Aside0.mk (HB4.out.setCell (p := ⟨g, 14, none⟩) HG0.out (.int .i64 (-9)))
              generalize w4.setCell ⟨g, 14, none⟩ (.int .i64 (-9)) = w5 at *
              have HG5 := Aside0.mk (get_two (HR2.out.below HW5.out) HLK.out)
              have hx5 : w5.cell? (ad6.add i) = some (.int .i64 t) := cell_kept hx (Kept.of_below HW5.out (fun _ => False)) (fun h => h)
              clear p6 p14 pf hx HG
              go_upto_region 18 with (go_at_call 9; (with_reducible refine HG5.out.mono ?_); rintro e w6 ⟨g6, c6', rfl, hb6, hg6, q6, q14, qf⟩; have HB6 := Aside0.mk (HW5.out.trans (hb6.mono HW5.out.size)); clear hb6 hg6)
              go_wp2_with fail
              go_roundg (gk - 1)
              case measure => have := HI.out; omega
              case rel => exact ⟨i + 1, by simp, ⟨by have := HI.out; omega⟩, ⟨HB.out.trans (HB6.out.mono HB.out.size)⟩⟩
            · have hk1 : ¬ ((tks.length : Int) - 64 ≤ i) := by omega
              have HG := Aside0.mk (get_out HR2.out (drop_far (i := i) (m := tks.length - 64) HTK.out.1 (by omega) (by omega)))
              generalize htv : tks.getD i 0 = t at *
              clear hq2
              go_upto_region 18 with (go_at_call 9; (with_reducible refine HG.out.mono ?_); rintro e w4 ⟨A4, c4, rfl, hb4⟩; have HB4 := Aside0.mk hb4; clear hb4)
              go_wp2_with fail
              go_roundg (gk - 1)
              case measure => have := HI.out; omega
              case rel => exact ⟨i + 1, by simp, ⟨by have := HI.out; omega⟩, ⟨HB.out.trans (HB4.out.mono HB.out.size)⟩⟩
          · have hj2 : (tks.length : Int) ≤ i := by omega
            have HBE := Aside0.mk (HBL.out.trans (HB.out.mono HBL.out.size))
            go_wp2_with fail
            go_ret
            exact ⟨rfl, HBE.out⟩
end Go.Proofs.Ytccknclfacbfaaa.Ring
