import Derived.Test.YtcbmkhogmdkpdaaRRefPut
set_option linter.unusedVariables false
set_option linter.unusedSimpArgs false
namespace Go.Proofs.Ytcbmkhogmdkpdaa.Ring
open Go.RowKit Go.ChangeMaps Go.Proofs.YtcbmkhogmdkpdaaW.PrintWords Go.Proofs.YtcbmkhogmdkpdaaW.PrintLast Go.Proofs.YtcbmkhogmdkpdaaW.PrintMore Go.Proofs.Ytcbmkhogmdkpdaa.PRewindNone Go.Proofs.Ytcbmkhogmdkpdaa.MapI
/-- The list of the first item with a tick. -/
def find (k : Int) : List S51 → Option (List S67)
  | [] => none
  | x :: l => if k = x.f0 then some x.f1 else find k l
theorem find_look (k : Int) : ∀ its : List S51, look k (ticksOf its) (listsOf its) = find k its
  | [] => rfl
  | x :: l => by
    show (if k = x.f0 then some x.f1 else look k (ticksOf l) (listsOf l)) = (if k = x.f0 then some x.f1 else find k l)
    rw [find_look k l]
theorem rd_drop (its : List S51) {k : Nat} (h : k < its.length) : its.drop k = rd_T51 its (k : Int) :: its.drop (k + 1) := by
  rw [List.drop_eq_getElem_cons h]
  simp [rd_T51, List.getD, List.getElem?_eq_getElem h]
set_option maxHeartbeats 4000000 in
set_option maxRecDepth 100000 in
theorem ref_get {w : World} {base C : Nat} {G : Nat → Prop} {its : List S51} {tick : Int} (h : IsRef w base C G its) :
    Calls Try.prog 31 #[.pointer (some ⟨C, 0, none⟩), .int .i64 tick] w fun e w' => ∃ A n c, e = .returned (.tuple #[.slice A n c, .bool (find tick its).isSome]) ∧ w' = w ∧ Kd.C k67 w A n ((find tick its).getD []) ∧ n ≤ c := by
  obtain ⟨h64, hbC, hGC, v, hB, hq⟩ := h
  obtain ⟨A, c, rfl, hlc, hC⟩ := Kd.Q_reads hq
  have c0 : w.cell? ⟨C, 0, none⟩ = some (.slice A its.length c) := (blk_cell hB 0).trans rfl
  have HC := Aside0.mk hC
  clear hB hq hC
  go_enter Try.func31, Try.ntmps31
  go_wp2_with fail
  go_loopg [6] its.length (fun kq v6 w' => ∃ k : Nat, v6 = .int .i64 (k : Int) ∧ Aside0 (kq + k = its.length) ∧ Aside0 (find tick (its.drop k) = find tick its) ∧ w' = w)
  case atStart => exact ⟨0, rfl, ⟨rfl⟩, ⟨rfl⟩, rfl⟩
  case round =>
    obtain ⟨k, rfl, HK, HD, rfl⟩ := hrel
    by_cases hi : (k : Int) < (its.length : Int)
    · obtain ⟨ad, A1, c1, e, hx0, hx1, hl1, hC1⟩ := at_T51 HC.out (k : Int) (by omega) hi
      cases e
      simp only [Int.toNat_natCast] at hx0 hx1
      have hd := rd_drop its (show k < its.length by omega)
      have HX := Aside0.mk (And.intro hd hC1)
      clear hd hC1
      have hi1 : (0 : Int) ≤ k := by omega
      have hi3 : k < its.length := by omega
      by_cases ht : (rd_T51 its (k : Int)).f0 = tick
      · have HF : Aside0 (find tick its = some (rd_T51 its (k : Int)).f1) := ⟨by rw [← HD.out, HX.out.1, find, if_pos ht.symm]⟩
        go_wp2_with fail
        refine bodyPost_ret (v := .tuple #[.slice A1 (rd_T51 its (k : Int)).f1.length c1, .bool true]) (by simp [results, Try.results31, go_sem]) rfl ⟨A1, _, c1, ?_, rfl, ?_, hl1⟩
        · rw [HF.out]; rfl
        · rw [HF.out]; exact HX.out.2
      · go_wp2_with fail
        go_roundg (gk - 1)
        case measure => have := HK.out; omega
        case rel => exact ⟨k + 1, by simp, ⟨by have := HK.out; omega⟩, ⟨by rw [← HD.out, HX.out.1, find, if_neg (fun e => ht e.symm)]⟩, rfl⟩
    · have hi2 : (its.length : Int) ≤ k := by omega
      have HF : Aside0 (find tick its = none) := ⟨by rw [← HD.out, List.drop_eq_nil_of_le (by omega)]; rfl⟩
      go_wp2_with fail
      refine bodyPost_ret (v := .tuple #[.slice none 0 0, .bool false]) (by simp [results, Try.results31, go_sem]) rfl ⟨none, 0, 0, ?_, rfl, ?_, Nat.le_refl _⟩
      · rw [HF.out]; rfl
      · rw [HF.out]; exact Kd.C_nil _ _
end Go.Proofs.Ytcbmkhogmdkpdaa.Ring
