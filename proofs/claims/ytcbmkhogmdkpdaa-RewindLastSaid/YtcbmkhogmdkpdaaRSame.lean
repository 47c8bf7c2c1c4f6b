import Derived.Test.YtcbmkhogmdkpdaaROpen
set_option linter.unusedVariables false
set_option linter.unusedSimpArgs false
namespace Go.Proofs.Ytcbmkhogmdkpdaa.Ring
open Go.RowKit Go.ChangeMaps Go.Proofs.YtcbmkhogmdkpdaaW.PrintWords Go.Proofs.YtcbmkhogmdkpdaaW.PrintLast Go.Proofs.YtcbmkhogmdkpdaaW.PrintMore Go.Proofs.Ytcbmkhogmdkpdaa.PRewindNone Go.Proofs.Ytcbmkhogmdkpdaa.MapI
theorem eqA28 (d : Nat) (w : World) (x0 y0 : Int) (x1 y1 : Int) :
    (Op.equalIn (d + 2) 28 (.agg #[.int .i64 x0, .int .i64 x1]) (.agg #[.int .i64 y0, .int .i64 y1])).run Try.prog w = .ok (x0 == y0 && (x1 == y1)) w := by
  refine eqA_of Try.underlying28 (by kernel_rfl) ?_
  refine eqf_cons (by rfl) (by go_simp; rfl) (by go_simp; rfl) (by go_simp) ?_
  exact eqf_last (by rfl) (by go_simp; rfl) (by go_simp; rfl) (by go_simp)
theorem eqA67 (d : Nat) (w : World) (x0 y0 : Int) (x1 y1 : Int) (x2 y2 : Int) (x3 y3 : Int) (x4 y4 : Int) (x5 y5 : Int) (x6 y6 : Int) (x7 y7 : Int) :
    (Op.equalIn (d + 3) 67 (.agg #[.int .i64 x0, .int .i64 x1, .int .i64 x2, .int .i64 x3, .int .i64 x4, .int .i64 x5, .int .i64 x6, .int .i64 x7]) (.agg #[.int .i64 y0, .int .i64 y1, .int .i64 y2, .int .i64 y3, .int .i64 y4, .int .i64 y5, .int .i64 y6, .int .i64 y7])).run Try.prog w = .ok (x0 == y0 && (x1 == y1 && ((x2 == y2 && (x3 == y3)) && ((x4 == y4 && (x5 == y5)) && (x6 == y6 && (x7 == y7)))))) w := by
  refine eqA_of Try.underlying67 (by kernel_rfl) ?_
  refine eqf_cons (by rfl) (by go_simp; rfl) (by go_simp; rfl) (by go_simp) ?_
  refine eqf_cons (by rfl) (by go_simp; rfl) (by go_simp; rfl) (by go_simp) ?_
  refine eqf_cons (by rfl) (by go_simp) (by go_simp) (eqA28 (d + 0) w _ _ _ _) ?_
  refine eqf_cons (by rfl) (by go_simp) (by go_simp) (eqA28 (d + 0) w _ _ _ _) ?_
  refine eqf_cons (by rfl) (by go_simp; rfl) (by go_simp; rfl) (by go_simp) ?_
  exact eqf_last (by rfl) (by go_simp; rfl) (by go_simp; rfl) (by go_simp)
attribute [local go_sem high] eqA67
set_option maxHeartbeats 4000000 in
theorem same_any (A A2 : Option Addr) (c c2 : Nat) (xs : List S67) (w : World) (hC : Kd.C k67 w A xs.length xs) (hC2 : Kd.C k67 w A2 xs.length xs) (hl : xs.length ≤ 1000) :
    Calls Try.prog 15 #[.slice A xs.length c, .slice A2 xs.length c2] w fun e w' => e = .returned (.bool true) ∧ Below w.heap.size w w' := by
  have HC := Aside0.mk (And.intro hC hC2)
  clear hC hC2
  go_enter Try.func15, Try.ntmps15
  go_wp2_with fail
  go_loopg [5] xs.length (fun kq v5 w' => ∃ k : Nat, v5 = .int .i64 (k : Int) ∧ Aside0 (kq + k = xs.length) ∧ Aside0 (Below w.heap.size w w'))
  case atStart => exact ⟨0, rfl, ⟨rfl⟩, ⟨Below.refl _ _⟩⟩
  case round =>
    obtain ⟨k, rfl, HK, HB⟩ := hrel
    by_cases hi : (k : Int) < (xs.length : Int)
    · obtain ⟨ad, e, x0, x1, x2, x3, x4, x5, x6, x7⟩ := at_T67 (Kd.C_below HC.out.1 HB.out) (k : Int) (by omega) hi
      obtain ⟨ae, e2, y0, y1, y2, y3, y4, y5, y6, y7⟩ := at_T67 (Kd.C_below HC.out.2 HB.out) (k : Int) (by omega) hi
      cases e
      cases e2
      simp only [Int.toNat_natCast] at x0 x1 x2 x3 x4 x5 x6 x7 y0 y1 y2 y3 y4 y5 y6 y7
      have hi1 : (0 : Int) ≤ k := by omega
      have hi3 : k < xs.length := by omega
      generalize rd_T67 xs (k : Int) = y at *
      go_upto_region 6 with fail
      go_quiet (fail)
      go_wp2_with fail
      go_roundg (gk - 1)
      case measure => have := HK.out; omega
      case rel => exact ⟨k + 1, by simp, ⟨by have := HK.out; omega⟩, ⟨by repeat (first | exact HB.out | apply below_drew | apply pw_below_drewN)⟩⟩
    · have hi2 : (xs.length : Int) ≤ k := by omega
      go_wp2_with fail
      go_ret
      exact ⟨rfl, HB.out⟩
end Go.Proofs.Ytcbmkhogmdkpdaa.Ring
