import Derived.Test.YtcbmkhogmdkpdaaRShot
set_option linter.unusedVariables false
set_option linter.unusedSimpArgs false
namespace Go.Proofs.Ytcbmkhogmdkpdaa.Ring
open Go.RowKit Go.ChangeMaps Go.Proofs.YtcbmkhogmdkpdaaW.PrintWords Go.Proofs.YtcbmkhogmdkpdaaW.PrintLast Go.Proofs.YtcbmkhogmdkpdaaW.PrintMore Go.Proofs.Ytcbmkhogmdkpdaa.PRewindNone Go.Proofs.Ytcbmkhogmdkpdaa.MapI Go.Proofs.Ytcbmkhogmdkpdaa.Plain Go.Proofs.Ytcbmkhogmdkpdaa.Pure
def e1 : S67 := ⟨2, 1, z28, z28, 1, 0⟩
theorem came_one {W : World} {L : Nat} (h : W.heap[L]? = some (.cells #[.int .i64 2, .int .i64 1, .int .i64 0, .int .i64 0, .int .i64 0, .int .i64 0, .int .i64 1, .int .i64 0] 67 (0, 0))) : Came W (.slice (some ⟨L, 0, none⟩) 1 1) [e1] := by
  refine ⟨some ⟨L, 0, none⟩, 1, 1, rfl, ⟨rfl, by simp [maxLen], fun _ => ⟨⟨L, 0, none⟩, rfl, fun j p hj => ?_⟩⟩, by decide, fun e => by cases e⟩
  match j, hj with
  | 0, hj =>
    obtain rfl : e1 = p := by simpa using hj
    refine ⟨_, rfl, k67_mk W e1, fun i u hu => ?_⟩
    have e : Addr.add ⟨L, 0, none⟩ (0 * k67.sz + i) = ⟨L, i, none⟩ := by
      rw [Nat.zero_mul, Nat.zero_add]
      unfold Addr.add
      split <;> simp_all
    rw [e, blk_cell h i, ← hu]
    simp [e1, z28]
  | j + 1, hj => simp at hj
theorem Holds.of_ring {w : World} {base B : Nat} {F : Nat → Prop} {ts : List Int} {ls : List (List S67)} (h : IsRing w base B F ts ls) (h1 : ∀ x, x ∈ ls → x.length ≤ 1000) (h2 : ∀ t, t ∈ ts → t < 1099511627776) : Holds w (some ⟨B, 0, none⟩) ts ls := ⟨h1, h2, .inr ⟨base, B, F, rfl, h⟩⟩
theorem shot_awake : shotF [5] [[e1]] 1 0 0 0 0 5 0 = 2 := by decide
theorem held_awake : heldF [5] 9 = 5 := by decide
set_option maxHeartbeats 1000000 in
set_option maxRecDepth 100000 in
theorem awake (w : World) : Calls Try.prog 9 #[] w fun e w' => e = .returned (.bool true) ∧ Below w.heap.size w w' := by
  have HB0 := Aside0.mk (below_alloc (below_alloc (Below.refl w.heap.size w) (.cells #[.slice none 0 0, .map none] 72 (0, 0))) (.cells #[.int .i64 2, .int .i64 1, .int .i64 0, .int .i64 0, .int .i64 0, .int .i64 0, .int .i64 1, .int .i64 0] 67 (0, 0)))
  have hring := (new_ring w (base := w.heap.size) (F := fun k => k = w.heap.size) (Nat.le_refl _) rfl).below (below_alloc (Below.refl _ _) (.cells #[.int .i64 2, .int .i64 1, .int .i64 0, .int .i64 0, .int .i64 0, .int .i64 0, .int .i64 1, .int .i64 0] 67 (0, 0)))
  have hL := blk_new (w.alloc (.cells #[.slice none 0 0, .map none] 72 (0, 0))) (.cells #[.int .i64 2, .int .i64 1, .int .i64 0, .int .i64 0, .int .i64 0, .int .i64 0, .int .i64 1, .int .i64 0] 67 (0, 0))
  have hs1 : (w.alloc (.cells #[.slice none 0 0, .map none] 72 (0, 0))).heap.size = w.heap.size + 1 := by simp
  have hs2 : ((w.alloc (.cells #[.slice none 0 0, .map none] 72 (0, 0))).alloc (.cells #[.int .i64 2, .int .i64 1, .int .i64 0, .int .i64 0, .int .i64 0, .int .i64 0, .int .i64 1, .int .i64 0] 67 (0, 0))).heap.size = w.heap.size + 2 := by simp
  rw [hs1] at hL
  have HP := Aside0.mk (put_any (tick := 5) (v := .slice (some ⟨w.heap.size + 1, 0, none⟩) 1 1) (xs := [e1]) (hring.foot (F' := fun k => k = w.heap.size ∨ w.heap.size + 2 ≤ k) (fun k hk => .inl hk)) (fun k hk => .inr (by omega)) (by omega) (by decide) (fun W hW => came_one ((hW.2 (w.heap.size + 1) (by omega) (by omega)).trans hL)))
  clear hring hL hs1 hs2
  go_enter Try.func9, Try.ntmps9
  go_upto_region 3 with (go_at_call 24; (with_reducible refine HP.out.mono ?_); rintro e w1 ⟨rfl, hb1, hk1, hr1⟩; have HB1 := Aside0.mk (HB0.out.trans hb1); have HR1 := Aside0.mk (Holds.of_ring (ts := [5]) (ls := [[e1]]) hr1 (by simp) (by simp)); clear hb1 hk1 hr1)
  generalize w.heap.size = B at HR1 ⊢
  go_wp2_with (first | (go_at_call 18; (with_reducible refine (HR1.out.held 9).mono ?_); rintro e w2 ⟨he, hb⟩; (rw [held_awake] at he); subst he; have HB2 := Aside0.mk (HB1.out.trans (hb.mono HB1.out.size)); have HR2 := Aside0.mk (HR1.out.below hb); clear hb) | (go_at_call 11; (with_reducible refine (HR2.out.shot 1 0 0 0 0 5 0 (by omega)).mono ?_); rintro e w3 ⟨he, hb⟩; (rw [shot_awake] at he); subst he; have HB3 := Aside0.mk (HB2.out.trans (hb.mono HB2.out.size)); clear hb))
  go_ret
  exact ⟨rfl, HB3.out⟩
end Go.Proofs.Ytcbmkhogmdkpdaa.Ring
