import Derived.Test.YtcbmkhogmdkpdaaROpen
set_option linter.unusedVariables false
set_option linter.unusedSimpArgs false
namespace Go.Proofs.Ytcbmkhogmdkpdaa.Ring
open Go.RowKit Go.ChangeMaps Go.Proofs.YtcbmkhogmdkpdaaW.PrintWords Go.Proofs.YtcbmkhogmdkpdaaW.PrintLast Go.Proofs.YtcbmkhogmdkpdaaW.PrintMore Go.Proofs.Ytcbmkhogmdkpdaa.PRewindNone Go.Proofs.Ytcbmkhogmdkpdaa.MapI
/-- Where the first entity with this ID stands. -/
def findFrom (id : Int) : List S67 → Nat → Int
  | [], _ => -1
  | x :: l, i => if x.f0 = id then (i : Int) else findFrom id l (i + 1)
theorem find_ways (id : Int) : ∀ (l : List S67) (i : Nat), findFrom id l i = -1 ∨ ∃ j, j < l.length ∧ findFrom id l i = ((i + j : Nat) : Int) ∧ (rd_T67 l (j : Int)).f0 = id
  | [], _ => .inl rfl
  | x :: l, i => by
    unfold findFrom
    split
    · rename_i h
      exact .inr ⟨0, by simp, by simp, h⟩
    · rcases find_ways id l (i + 1) with h | ⟨j, h1, h2, h3⟩
      · exact .inl h
      · refine .inr ⟨j + 1, by simp; omega, ?_, ?_⟩
        · rw [h2]
          congr 1
          omega
        · simpa [rd_T67, List.getD] using h3
theorem rd_drop67 (l : List S67) {k : Nat} (h : k < l.length) : l.drop k = rd_T67 l (k : Int) :: l.drop (k + 1) := by
  rw [List.drop_eq_getElem_cons h]
  simp [rd_T67, List.getD, List.getElem?_eq_getElem h]
theorem clo_any (a0 a1 a2 a3 a4 a5 a6 a7 : Int) (E : Nat) (id : Int) (w : World) (h : w.cell? ⟨E, 0, none⟩ = some (.int .i64 id)) :
    Calls Try.prog 66 #[.agg #[.int .i64 a0, .int .i64 a1, .int .i64 a2, .int .i64 a3, .int .i64 a4, .int .i64 a5, .int .i64 a6, .int .i64 a7], .pointer (some ⟨E, 0, none⟩)] w fun e w' => e = .returned (.bool (decide (a0 = id))) ∧ Below w.heap.size w w' := by
  have h1 := cell_kept h ((Kept.refl w (fun _ => False)).alloc (.cells #[.int .i64 a0, .int .i64 a1, .int .i64 a2, .int .i64 a3, .int .i64 a4, .int .i64 a5, .int .i64 a6, .int .i64 a7] 67 (0, 0))) (fun h => h)
  go_enter Try.func66, Try.ntmps66
  go_wp2
  go_ret
  exact ⟨rfl, below_alloc (Below.refl _ _) _⟩
set_option maxHeartbeats 4000000 in
theorem index_any (A : Option Addr) (n c : Nat) (xs : List S67) (E : Nat) (id : Int) (w : World) (hC : Kd.C k67 w A n xs) (hl : xs.length ≤ 1000) (h : w.cell? ⟨E, 0, none⟩ = some (.int .i64 id)) :
    Calls Try.prog 65 #[.slice A n c, .func (.func 66) #[] #[.pointer (some ⟨E, 0, none⟩)]] w fun e w' => e = .returned (.int .i64 (findFrom id xs 0)) ∧ Below w.heap.size w w' := by
  have HC := Aside0.mk hC
  have HE := Aside0.mk h
  obtain rfl : xs.length = n := Kd.C_len hC
  clear hC h
  go_enter Try.func65, Try.ntmps65
  go_wp2_with fail
  go_loopg [8] xs.length (fun kq v8 w' => ∃ k : Nat, v8 = .int .i64 (k : Int) ∧ Aside0 (kq + k = xs.length) ∧ Aside0 (findFrom id (xs.drop k) k = findFrom id xs 0) ∧ Aside0 (Below w.heap.size w w'))
  case atStart => exact ⟨0, rfl, ⟨rfl⟩, ⟨rfl⟩, ⟨Below.refl _ _⟩⟩
  case round =>
    obtain ⟨k, rfl, HK, HD, HB⟩ := hrel
    by_cases hi : (k : Int) < (xs.length : Int)
    · obtain ⟨ad, e, x0, x1, x2, x3, x4, x5, x6, x7⟩ := at_T67 (Kd.C_below HC.out HB.out) (k : Int) (by omega) hi
      cases e
      simp only [Int.toNat_natCast] at x0 x1 x2 x3 x4 x5 x6 x7
      have hE := cell_kept HE.out (Kept.of_below HB.out (fun _ => False)) (fun h => h)
      have HD2 := Aside0.mk (rd_drop67 xs (show k < xs.length by omega))
      have hi1 : (0 : Int) ≤ k := by omega
      have hi3 : k < xs.length := by omega
      generalize rd_T67 xs (k : Int) = y at *
      by_cases hy : y.f0 = id
      · have hd : decide (y.f0 = id) = true := decide_eq_true hy
        have HY := Aside0.mk hy
        clear hy
        go_wp2_with (go_at_call 66; (with_reducible refine (clo_any _ _ _ _ _ _ _ _ E id _ hE).mono ?_); rintro e w1 ⟨he, hb1⟩; rw [hd] at he; subst he; have HB1 := Aside0.mk (HB.out.trans (hb1.mono HB.out.size)); clear hb1)
        go_ret
        refine ⟨?_, HB1.out⟩
        rw [show findFrom id xs 0 = (k : Int) by rw [← HD.out, HD2.out, findFrom, if_pos HY.out]]
        rfl
      · have hd : decide (y.f0 = id) = false := decide_eq_false hy
        go_wp2_with (go_at_call 66; (with_reducible refine (clo_any _ _ _ _ _ _ _ _ E id _ hE).mono ?_); rintro e w1 ⟨he, hb1⟩; rw [hd] at he; subst he; have HB1 := Aside0.mk (HB.out.trans (hb1.mono HB.out.size)); clear hb1)
        go_roundg (gk - 1)
        case measure => have := HK.out; omega
        case rel => exact ⟨k + 1, by simp, ⟨by have := HK.out; omega⟩, ⟨by rw [← HD.out, HD2.out, findFrom, if_neg hy]⟩, HB1⟩
    · have hi2 : (xs.length : Int) ≤ k := by omega
      go_wp2_with fail
      go_ret
      refine ⟨?_, HB.out⟩
      rw [show findFrom id xs 0 = -1 by rw [← HD.out, List.drop_eq_nil_of_le (by omega)]; rfl]
      rfl
theorem find_any (A : Option Addr) (n c : Nat) (xs : List S67) (id : Int) (w : World) (hC : Kd.C k67 w A n xs) (hl : xs.length ≤ 1000) :
    Calls Try.prog 60 #[.slice A n c, .int .i64 id] w fun e w' => e = .returned (.int .i64 (findFrom id xs 0)) ∧ Below w.heap.size w w' := by
  have hmf : ∀ (fn : Fn) (first cap : Array Value) (w : World), (Instr.makeFunc fn first cap).run Try.prog w = .ok (.func fn first cap) w := fun _ _ _ _ => rfl
  have HC := Aside0.mk (Kd.C_alloc hC (.cells #[.int .i64 id] 3 (0, 0)))
  have HE := Aside0.mk ((blk_cell (blk_new w (.cells #[.int .i64 id] 3 (0, 0))) 0).trans (show _ = some (.int .i64 id) from rfl))
  have HB := Aside0.mk (below_alloc (Below.refl w.heap.size w) (.cells #[.int .i64 id] 3 (0, 0)))
  clear hC
  go_enter Try.func60, Try.ntmps60
  go_wp2_with (go_at_call 65; (with_reducible refine (index_any A n c xs _ id _ HC.out hl HE.out).mono ?_); rintro e w1 ⟨he, hb1⟩; subst he; have HB1 := Aside0.mk (HB.out.trans (hb1.mono HB.out.size)); clear hb1)
  go_ret
  exact ⟨rfl, HB1.out⟩
end Go.Proofs.Ytcbmkhogmdkpdaa.Ring
