import Derived.Test.YtgppnfnbihngnaaTFormP
import Derived.Test.YtgppnfnbihngnaaPTilesFreex2
import Derived.Deep.LoopGhost
set_option linter.unusedVariables false
set_option linter.unusedSimpArgs false
namespace Go.Proofs.Ytgppnfnbihngnaa.Tiles
open Go.RowKit Go.Proofs.YtgppnfnbihngnaaW.PrintWords Go.Proofs.YtgppnfnbihngnaaW.PrintLast Go.Proofs.YtgppnfnbihngnaaW.PrintMore Go.Proofs.Ytgppnfnbihngnaa.PTilesFree

theorem rd_dropB (l : List Bool) {k : Nat} (h : k < l.length) : l.drop k = rdOf false l (k : Int) :: l.drop (k + 1) := by
  rw [List.drop_eq_getElem_cons h]
  simp [rdOf, List.getD, List.getElem?_eq_getElem h]
theorem clo_any (b : Bool) (w : World) : Calls Try.prog 31 #[.bool b] w fun e w' => e = .returned (.bool (!b)) ∧ Below w.heap.size w w' := by
  go_enter Try.func31, Try.ntmps31
  go_wp2
  go_ret
  exact ⟨rfl, Below.refl _ _⟩
set_option maxHeartbeats 4000000 in
theorem index_any (A : Option Addr) (n c : Nat) (xs : List Bool) (w : World) (hC : Kd.C Kd.bool w A n xs) (hl : xs.length ≤ 1100) :
    Calls Try.prog 30 #[.slice A n c, .func (.func 31) #[] #[]] w fun e w' => e = .returned (.int .i64 (findB xs 0)) ∧ Below w.heap.size w w' := by
  have HC := Aside0.mk hC
  obtain rfl : xs.length = n := Kd.C_len hC
  clear hC
  go_enter Try.func30, Try.ntmps30
  go_wp2_with fail
  go_loopg [8] xs.length (fun kq v8 w' => ∃ k : Nat, v8 = .int .i64 (k : Int) ∧ Aside0 (kq + k = xs.length) ∧ Aside0 (findB (xs.drop k) k = findB xs 0) ∧ Aside0 (Below w.heap.size w w'))
  case atStart => exact ⟨0, rfl, ⟨rfl⟩, ⟨rfl⟩, ⟨Below.refl _ _⟩⟩
  case round =>
    obtain ⟨k, rfl, HK, HD, HB⟩ := hrel
    by_cases hi : (k : Int) < (xs.length : Int)
    · obtain ⟨ad, e, x0⟩ := Kd.at_bool (Kd.C_below HC.out HB.out) (k : Int) (by omega) hi
      cases e
      simp only [Int.toNat_natCast] at x0
      have HD2 := Aside0.mk (rd_dropB xs (show k < xs.length by omega))
      have hi1 : (0 : Int) ≤ k := by omega
      have hi3 : k < xs.length := by omega
      generalize rdOf false xs (k : Int) = y at *
      cases y with
      | false =>
        go_wp2_with (go_at_call 31; (with_reducible refine (clo_any _ _).mono ?_); rintro e w1 ⟨he, hb1⟩; subst he; have HB1 := Aside0.mk (HB.out.trans (hb1.mono HB.out.size)); clear hb1)
        go_ret
        refine ⟨?_, HB1.out⟩
        rw [show findB xs 0 = (k : Int) by rw [← HD.out, HD2.out, findB, if_pos rfl]]
        rfl
      | true =>
        go_wp2_with (go_at_call 31; (with_reducible refine (clo_any _ _).mono ?_); rintro e w1 ⟨he, hb1⟩; subst he; have HB1 := Aside0.mk (HB.out.trans (hb1.mono HB.out.size)); clear hb1)
        go_roundg (gk - 1)
        case measure => have := HK.out; omega
        case rel => exact ⟨k + 1, by simp, ⟨by have := HK.out; omega⟩, ⟨by rw [← HD.out, HD2.out, findB, if_neg (by decide)]⟩, HB1⟩
    · have hi2 : (xs.length : Int) ≤ k := by omega
      go_wp2_with fail
      go_ret
      refine ⟨?_, HB.out⟩
      rw [show findB xs 0 = -1 by rw [← HD.out, List.drop_eq_nil_of_le (by omega)]; rfl]
      rfl
end Go.Proofs.Ytgppnfnbihngnaa.Tiles
