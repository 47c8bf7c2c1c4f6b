import Derived.Test.YtgppnfnbihngnaaTSameP
import Derived.Test.YtgppnfnbihngnaaTRef
import Derived.Deep.LoopGhost
set_option linter.unusedVariables false
set_option linter.unusedSimpArgs false
namespace Go.Proofs.Ytgppnfnbihngnaa.Tiles
open Go.RowKit Go.Proofs.YtgppnfnbihngnaaW.PrintWords Go.Proofs.YtgppnfnbihngnaaW.PrintLast Go.Proofs.YtgppnfnbihngnaaW.PrintMore Go.Proofs.Ytgppnfnbihngnaa.PTilesFree

/-- It answers the text where P holds, and the error where not. -/
def TextR (P : Prop) (t : ByteArray) (w : World) (e : Ending) (w' : World) : Prop := ∃ s er, e = .returned (.tuple #[.string s, .int .i64 er]) ∧ ((P ∧ s = t ∧ er = 0) ∨ (¬ P ∧ s = ⟨#[]⟩ ∧ er = 1)) ∧ Below w.heap.size w w'
theorem TextR.no {P : Prop} {t : ByteArray} {w w' : World} (h : ¬ P) (hb : Below w.heap.size w w') : TextR P t w (.returned (.tuple #[.string ⟨#[]⟩, .int .i64 1])) w' := ⟨_, _, rfl, .inr ⟨h, rfl, rfl⟩, hb⟩
theorem TextR.yes {P : Prop} {t : ByteArray} {w w' : World} (h : P) (hb : Below w.heap.size w w') : TextR P t w (.returned (.tuple #[.string t, .int .i64 0])) w' := ⟨_, _, rfl, .inl ⟨h, rfl, rfl⟩, hb⟩
theorem len_nat {n h l : Nat} (e : (l : Int) = (n : Int) * (h : Int)) : l = h * n := by
  have : (l : Int) = ((n * h : Nat) : Int) := by rw [e]; norm_cast
  rw [Nat.mul_comm h n]
  omega
theorem spU_len (W : Int) (ws : List Bool) (sp : List S39) : ∀ j, (spU W ws sp j).length ≤ j
  | 0 => Nat.le_refl _
  | j + 1 => by
    have := spU_len W ws sp j
    show (spU W ws sp j ++ (if sgn W ws sp j = 2 then [midJ W j] else [])).length ≤ _
    rw [List.length_append]
    split <;> simp <;> omega
theorem idx_nat {n h x y : Nat} (hx : x < n) (hy : y < h) (hn : n ≤ 32) (hh : h ≤ 32) : y * n + x < h * n ∧ y * n ≤ 1024 := by
  have h1 : (y + 1) * n ≤ h * n := Nat.mul_le_mul_right n hy
  have h2 : h * n ≤ 32 * 32 := Nat.mul_le_mul hh hn
  rw [Nat.add_mul, Nat.one_mul] at h1
  omega
set_option maxHeartbeats 8000000 in
set_option maxRecDepth 100000 in
theorem reftext_any (W H : Int) (A : Option Addr) (c : Nat) (ws : List Bool) (A' : Option Addr) (c' : Nat) (sp : List S39) (w : World) (hsp : sp.length ≤ 1100) (hC : Kd.C Kd.bool w A ws.length ws) (hc : ws.length ≤ c) (hC' : Kd.C k39 w A' sp.length sp) (hc' : sp.length ≤ c') :
    Calls Try.prog 20 #[.agg #[.int .i64 W, .int .i64 H, .slice A ws.length c, .slice A' sp.length c']] w (TextR (FormP W H ws sp) (textF W W.toNat ws sp H.toNat) w) := by
  have hu39 := Try.underlying39
  have hu30 := Try.underlying30
  have HSP := Aside0.mk hsp
  have HB : Aside0 (Below w.heap.size w (w.alloc (.cells #[.int .i64 W, .int .i64 H, .slice A ws.length c, .slice A' sp.length c'] 30 (0, 0)))) := ⟨below_alloc (Below.refl _ _) _⟩
  have HM := Aside0.mk (blk_new w (.cells #[.int .i64 W, .int .i64 H, .slice A ws.length c, .slice A' sp.length c'] 30 (0, 0)))
  have HC := Aside0.mk (And.intro (Kd.C_alloc hC (.cells #[.int .i64 W, .int .i64 H, .slice A ws.length c, .slice A' sp.length c'] 30 (0, 0))) (And.intro (Kd.C_alloc hC' (.cells #[.int .i64 W, .int .i64 H, .slice A ws.length c, .slice A' sp.length c'] 30 (0, 0))) (And.intro hc hc')))
  clear hC hc hC' hc' hsp
  go_enter Try.func20, Try.ntmps20
  go_upto_region 1 with fail
  generalize w.alloc (.cells #[.int .i64 W, .int .i64 H, .slice A ws.length c, .slice A' sp.length c'] 30 (0, 0)) = W1 at *
  obtain ⟨B, hB⟩ : ∃ X, w.heap.size = X := ⟨_, rfl⟩
  rw [hB] at HM
  rw [hB]
  have HBB := Aside0.mk hB
  clear hB
  have c0 : W1.cell? ⟨B, 0, none⟩ = some (.int .i64 W) := (blk_cell HM.out 0).trans rfl
  have c1 : W1.cell? ⟨B, 1, none⟩ = some (.int .i64 H) := (blk_cell HM.out 1).trans rfl
  have c2 : W1.cell? ⟨B, 2, none⟩ = some (.slice A ws.length c) := (blk_cell HM.out 2).trans rfl
  have c3 : W1.cell? ⟨B, 3, none⟩ = some (.slice A' sp.length c') := (blk_cell HM.out 3).trans rfl
  by_cases h1 : W < 1
  · have HN : Aside0 (¬ FormP W H ws sp) := ⟨fun h => by have := h.1; omega⟩
    (go_wp2_with fail; go_ret2; exact TextR.no HN.out HB.out)
  by_cases h2 : 32 < W
  · have HN : Aside0 (¬ FormP W H ws sp) := ⟨fun h => by have := h.2.1; omega⟩
    (go_wp2_with fail; go_ret2; exact TextR.no HN.out HB.out)
  by_cases h3 : H < 1
  · have HN : Aside0 (¬ FormP W H ws sp) := ⟨fun h => by have := h.2.2.1; omega⟩
    (go_wp2_with fail; go_ret2; exact TextR.no HN.out HB.out)
  by_cases h4 : 32 < H
  · have HN : Aside0 (¬ FormP W H ws sp) := ⟨fun h => by have := h.2.2.2.1; omega⟩
    (go_wp2_with fail; go_ret2; exact TextR.no HN.out HB.out)
  obtain ⟨hm1, hm2⟩ := mul_small W H (by omega) (by omega) (by omega) (by omega)
  obtain ⟨N, hN⟩ : ∃ N, W * H = N := ⟨_, rfl⟩
  rw [hN] at hm1 hm2
  have hw : IntKind.i64.wrap (W * H) = N := by rw [hN, i64_w]; exact w64 N (by omega)
  have HNN := Aside0.mk hN
  clear hN
  by_cases h5 : (ws.length : Int) = N
  case neg =>
    have HN : Aside0 (¬ FormP W H ws sp) := ⟨fun h => by have := h.2.2.2.2.1; have := HNN.out; omega⟩
    (go_wp2_with fail; go_ret2; exact TextR.no HN.out HB.out)
  have q5 : ((ws.length : Int) != N) = false := by simpa using h5
  go_upto_region 3 with fail
  clear hw q5
  obtain ⟨n, rfl⟩ : ∃ n : Nat, W = (n : Int) := ⟨W.toNat, by omega⟩
  obtain ⟨h, rfl⟩ : ∃ h : Nat, H = (h : Int) := ⟨H.toNat, by omega⟩
  have hn1 : 1 ≤ n := by omega
  have hn2 : n ≤ 32 := by omega
  have hh1 : 1 ≤ h := by omega
  have hh2 : h ≤ 32 := by omega
  have HLn : Aside0 (ws.length = h * n) := ⟨len_nat (h5.trans HNN.out.symm)⟩
  have hwl : ws.length ≤ 1024 := by omega
  have HPf : Aside0 (FormP (n : Int) (h : Int) ws sp ↔ sp ≠ [] ∧ spU (n : Int) ws sp ws.length = sp) := ⟨⟨fun g => ⟨g.2.2.2.2.2.1, (spU_iff (by omega) (by omega) hwl).2 g.2.2.2.2.2.2⟩, fun g => ⟨by omega, by omega, by omega, by omega, h5.trans HNN.out.symm, g.1, (spU_iff (by omega) (by omega) hwl).1 g.2⟩⟩⟩
  clear h1 h2 h3 h4 hm1 hm2 h5 HNN
  simp only [Int.toNat_natCast]
  go_wp2_with fail
  go_loopg [4, 5] h (fun kq v4 v5 w' => ∃ y : Nat, v4 = .string (textF (n : Int) n ws sp y) ∧ v5 = .int .i64 (y : Int) ∧ Aside0 (kq + y = h) ∧ Aside0 (Below W1.heap.size W1 w'))
  case atStart => exact ⟨0, rfl, rfl, ⟨rfl⟩, ⟨Below.refl _ _⟩⟩
  case round =>
    obtain ⟨y, rfl, rfl, HK, HBr⟩ := hrel
    clear c0 c1 c2 c3
    have c1 : wr.cell? ⟨B, 1, none⟩ = some (.int .i64 (h : Int)) := (blk_cell (blk_below HM.out HBr.out) 1).trans rfl
    by_cases hy : (y : Int) < (h : Int)
    · obtain ⟨G1, rfl⟩ : ∃ G, gk = G + 1 := ⟨gk - 1, by have := HK.out; omega⟩
      have hy1 : y < h := by omega
      have HG1 : Aside0 (G1 < G1 + 1) := ⟨by omega⟩
      have HK1 : Aside0 (G1 + (y + 1) = h) := ⟨by have := HK.out; omega⟩
      go_wp2_with fail
      generalize wr = W5 at *
      go_loopg [4, 6] n (fun kq v4 v6 w' => ∃ x : Nat, v4 = .string (rowF (n : Int) ws sp (textF (n : Int) n ws sp y) (y * n) x) ∧ v6 = .int .i64 (x : Int) ∧ Aside0 (kq + x = n) ∧ Aside0 (Below W5.heap.size W5 w'))
      case atStart => exact ⟨0, rfl, rfl, ⟨rfl⟩, ⟨Below.refl _ _⟩⟩
      case round =>
        obtain ⟨x, rfl, rfl, HKx, HBx⟩ := hrel
        have HBn := Aside0.mk (HBr.out.trans (HBx.out.mono HBr.out.size))
        clear c1
        have c0 : wr.cell? ⟨B, 0, none⟩ = some (.int .i64 (n : Int)) := (blk_cell (blk_below HM.out HBn.out) 0).trans rfl
        have c1 : wr.cell? ⟨B, 1, none⟩ = some (.int .i64 (h : Int)) := (blk_cell (blk_below HM.out HBn.out) 1).trans rfl
        have c2 : wr.cell? ⟨B, 2, none⟩ = some (.slice A ws.length c) := (blk_cell (blk_below HM.out HBn.out) 2).trans rfl
        have c3 : wr.cell? ⟨B, 3, none⟩ = some (.slice A' sp.length c') := (blk_cell (blk_below HM.out HBn.out) 3).trans rfl
        by_cases hx : (x : Int) < (n : Int)
        · obtain ⟨G2, rfl⟩ : ∃ G, gk = G + 1 := ⟨gk - 1, by have := HKx.out; omega⟩
          have hx1 : x < n := by omega
          have HG2 : Aside0 (G2 < G2 + 1) := ⟨by omega⟩
          have HK2 : Aside0 (G2 + (x + 1) = n) := ⟨by have := HKx.out; omega⟩
          obtain ⟨i1, i2⟩ := idx_nat hx1 hy1 hn2 hh2
          rw [← HLn.out] at i1
          have HMT := Aside0.mk (mid_tile (W := (n : Int)) (y := y) rfl hx1)
          obtain ⟨T, hT⟩ : ∃ T, rowF (n : Int) ws sp (textF (n : Int) n ws sp y) (y * n) x = T := ⟨_, rfl⟩
          rw [hT]
          have HTs : Aside0 (T.size ≤ 6000) := ⟨by
            have a := row_size (n : Int) ws sp (textF (n : Int) n ws sp y) (y * n) x
            have b := text_small (n : Int) n ws sp y hn2 (by omega)
            rw [hT] at a
            omega⟩
          have hcat1 : T.size + 3 ≤ 9223372036854775807 := by have := HTs.out; omega
          have hcat2 : T.size + 2 ≤ 9223372036854775807 := by have := HTs.out; omega
          have HTn : Aside0 (rowF (n : Int) ws sp (textF (n : Int) n ws sp y) (y * n) (x + 1) = T ++ sg (sgn (n : Int) ws sp (y * n + x))) := ⟨by rw [← hT]; rfl⟩
          clear hT
          obtain ⟨Mn, hM⟩ : ∃ M, y * n = M := ⟨_, rfl⟩
          rw [hM] at i1 i2 HMT
          have HwM : Aside0 (IntKind.i64.wrap ((y : Int) * (n : Int)) = (Mn : Int)) := ⟨by
            have e : (y : Int) * (n : Int) = (Mn : Int) := by rw [← hM]; norm_cast
            rw [e, i64_w]; exact w64 _ (by omega)⟩
          obtain ⟨j, hj⟩ : ∃ j, Mn + x = j := ⟨_, rfl⟩
          rw [hj] at i1 HMT
          have HT : Aside0 (rowF (n : Int) ws sp (textF (n : Int) n ws sp y) (y * n) (x + 1) = T ++ sg (sgn (n : Int) ws sp j)) := ⟨by rw [HTn.out, hM, hj]⟩
          clear hM HTn
          have Hwj : Aside0 (IntKind.i64.wrap ((Mn : Int) + (x : Int)) = (j : Int)) := ⟨by rw [i64_w, w64 _ (by omega)]; omega⟩
          have hj0 : (0 : Int) ≤ (j : Int) := by omega
          have hj1 : (j : Int) < (ws.length : Int) := by omega
          clear hj
          obtain ⟨adw, e, u0⟩ := Kd.at_bool (Kd.C_below HC.out.1 HBn.out) (j : Int) hj0 hj1
          cases e
          simp only [Int.toNat_natCast] at u0
          have HRd : Aside0 (rdOf false ws (j : Int) = ws.getD j false) := ⟨by simp [rdOf]⟩
          rw [HRd.out] at u0
          obtain ⟨b, hb⟩ : ∃ b, ws.getD j false = b := ⟨_, rfl⟩
          rw [hb] at u0
          have HBt := Aside0.mk hb
          clear hb HRd
          have hwM := HwM.out
          have hwj := Hwj.out
          cases b with
          | true =>
            have HT1 : Aside0 (T ++ ⟨#[226, 150, 136]⟩ = rowF (n : Int) ws sp (textF (n : Int) n ws sp y) (y * n) (x + 1)) := ⟨by rw [HT.out]; unfold sgn; rw [HBt.out, if_pos rfl]; rfl⟩
            go_upto_region 11 with fail
            clear hwM hwj
            go_wp2_with fail
            rw [HT1.out]
            go_roundg G2
            case measure => exact HG2.out
            case rel => exact ⟨x + 1, rfl, by simp, HK2, HBx⟩
          | false =>
            go_upto_region 12 with fail
            clear hwM hwj
            obtain ⟨q, hq⟩ : ∃ q, midJ (n : Int) j = q := ⟨_, rfl⟩
            have HQ : Aside0 (ricochetref11_Middle.f (x : Int) (y : Int) = some (q.f0, q.f1)) := ⟨by rw [← hq, HMT.out]; rfl⟩
            obtain ⟨r, hr⟩ : ∃ r, hasS sp q = r := ⟨_, rfl⟩
            have HS : Aside0 (ricochetref11_spawns.f (sp.length + 1) (n : Int) (h : Int) ws sp q.f0 q.f1 = some r) := ⟨by rw [← hr]; exact spawns_f _ _ _ _ _ (Nat.le_trans HSP.out (by decide))⟩
            have HSg : Aside0 (sgn (n : Int) ws sp j = if r = true then 2 else 1) := ⟨by unfold sgn; rw [HBt.out, if_neg (by decide), hq, hr]⟩
            clear hr hq
            have HK0 := Aside0.mk (below_drew (Below.refl wr.heap.size wr))
            refine start_ (n := 5) (S := fun w' => w'.cell? ⟨B, 0, none⟩ = some (.int .i64 (n : Int)) ∧ w'.cell? ⟨B, 1, none⟩ = some (.int .i64 (h : Int)) ∧ w'.cell? ⟨B, 2, none⟩ = some (.slice (some adw) ws.length c) ∧ w'.cell? ⟨B, 3, none⟩ = some (.slice A' sp.length c')) (ds := []) #[false, false, false, false, false] (by kernel_rfl) rfl rfl ⟨((HK0.out.cell (World.block_lt_of_cell? wr _ c0)).trans c0), ((HK0.out.cell (World.block_lt_of_cell? wr _ c1)).trans c1), ((HK0.out.cell (World.block_lt_of_cell? wr _ c2)).trans c2), ((HK0.out.cell (World.block_lt_of_cell? wr _ c3)).trans c3)⟩ (fun hHeld => ?_)
            refine pure_ (i := 1) (N := some 64) (v := ?_) (a' := ?_) #[false, true, false, false, false] rfl rfl (by kernel_rfl) (fun _ _ _ h => h) (Or.inl ⟨by rfl, ?_⟩) ?_ ?_
            rotate_left
            · intro w'
              go_simp
              with_reducible rfl
            rotate_left
            · simp only [Act.put, List.setIfInBounds_toArray, List.set_cons_zero, List.set_cons_succ, i64_w, i32_w]
              rfl
            refine pure_ (i := 2) (N := some 65) (v := ?_) (a' := ?_) #[false, true, true, false, false] rfl rfl (by kernel_rfl) (fun _ _ _ h => h) (Or.inl ⟨by rfl, ?_⟩) ?_ ?_
            rotate_left
            · intro w'
              go_simp
              with_reducible rfl
            rotate_left
            · simp only [Act.put, List.setIfInBounds_toArray, List.set_cons_zero, List.set_cons_succ, i64_w, i32_w]
              rfl
            refine take_ (i := 0) (N := some 63) (v := ?_) (a' := ?_) #[true, true, true, false, false] rfl rfl (by kernel_rfl) (fun _ _ _ h => h) (Or.inl ⟨by rfl, ?_⟩) hHeld ?_ ?_
            rotate_left
            · rintro w' ⟨s0, s1, s2, s3⟩
              go_simp
              with_reducible rfl
            rotate_left
            · simp only [Act.put, List.setIfInBounds_toArray, List.set_cons_zero, List.set_cons_succ, i64_w, i32_w]
              rfl
            refine one_ (i := 3) (N := some 66) #[true, true, true, true, false] rfl rfl (by kernel_rfl) (by decide) (fun K hK => ?_)
            refine goes_ Try.func25 (by kernel_rfl) rfl #[.int .i64 (x : Int), .int .i64 (y : Int)] (by rfl) rfl rfl (by simp only [List.map_toArray, List.map_cons, List.map_nil]; rfl) ?_
            with_reducible refine (ricochetref11_Middle.calls (x : Int) (y : Int) q.f0 q.f1 _ HQ.out).mono ?_
            rintro e w4 ⟨rfl, hb4⟩
            refine ⟨_, rfl, ?_⟩
            have HKa := Aside0.mk (HK0.out.trans (hb4.mono HK0.out.size))
            have HCa := Aside0.mk (HBn.out.trans (HKa.out.mono HBn.out.size))
            clear hb4
            refine hK.out _ _ ⟨((HKa.out.cell (World.block_lt_of_cell? wr _ c0)).trans c0), ((HKa.out.cell (World.block_lt_of_cell? wr _ c1)).trans c1), ((HKa.out.cell (World.block_lt_of_cell? wr _ c2)).trans c2), ((HKa.out.cell (World.block_lt_of_cell? wr _ c3)).trans c3)⟩ (fun hHeld => ?_)
            clear hK K
            refine norm_ (a' := ?_) ?_ ?_
            rotate_left
            · show Act.put _ (some 66) _ = _
              simp only [Act.put, List.setIfInBounds_toArray, List.set_cons_zero, List.set_cons_succ, i64_w, i32_w]
              rfl
            refine one_ (i := 4) (N := some 67) #[true, true, true, true, true] rfl rfl (by kernel_rfl) (by decide) (fun K hK => ?_)
            refine goes_ Try.func36 (by kernel_rfl) rfl #[.agg #[.int .i64 (n : Int), .int .i64 (h : Int), .slice (some adw) ws.length c, .slice A' sp.length c'], .agg #[.int .i64 q.f0, .int .i64 q.f1]] (by rfl) rfl rfl (by simp only [List.map_toArray, List.map_cons, List.map_nil]; rfl) ?_
            with_reducible refine (ricochetref11_spawns.calls (sp.length + 1) (n : Int) (h : Int) (some adw) c ws A' c' sp q.f0 q.f1 r _ (Kd.C_below HC.out.1 HCa.out) HC.out.2.2.1 (Kd.C_below HC.out.2.1 HCa.out) HC.out.2.2.2 HS.out).mono ?_
            rintro e w5 ⟨rfl, hb5⟩
            refine ⟨_, rfl, ?_⟩
            have HKb := Aside0.mk (HKa.out.trans (hb5.mono HKa.out.size))
            clear hb5
            refine hK.out _ _ ⟨((HKb.out.cell (World.block_lt_of_cell? wr _ c0)).trans c0), ((HKb.out.cell (World.block_lt_of_cell? wr _ c1)).trans c1), ((HKb.out.cell (World.block_lt_of_cell? wr _ c2)).trans c2), ((HKb.out.cell (World.block_lt_of_cell? wr _ c3)).trans c3)⟩ (fun hHeld => ?_)
            clear hK K
            refine norm_ (a' := ?_) ?_ ?_
            rotate_left
            · show Act.put _ (some 67) _ = _
              simp only [Act.put, List.setIfInBounds_toArray, List.set_cons_zero, List.set_cons_succ, i64_w, i32_w]
              rfl
            refine done_ (by kernel_rfl) ?_
            have HBx2 := Aside0.mk (HBx.out.trans (HKb.out.mono HBx.out.size))
            cases r with
            | true =>
              have HT1 : Aside0 (T ++ ⟨#[226, 151, 142]⟩ = rowF (n : Int) ws sp (textF (n : Int) n ws sp y) (y * n) (x + 1)) := ⟨by rw [HT.out, HSg.out, if_pos rfl]; rfl⟩
              go_wp2_with fail
              rw [HT1.out]
              go_roundg G2
              case measure => exact HG2.out
              case rel => exact ⟨x + 1, rfl, by simp, HK2, HBx2⟩
            | false =>
              have HT1 : Aside0 (T ++ ⟨#[194, 183]⟩ = rowF (n : Int) ws sp (textF (n : Int) n ws sp y) (y * n) (x + 1)) := ⟨by rw [HT.out, HSg.out, if_neg (by decide)]; rfl⟩
              go_wp2_with fail
              rw [HT1.out]
              go_roundg G2
              case measure => exact HG2.out
              case rel => exact ⟨x + 1, rfl, by simp, HK2, HBx2⟩
        · have hxe : x = n := by have := HKx.out; omega
          subst hxe
          have HTs : Aside0 ((rowF (x : Int) ws sp (textF (x : Int) x ws sp y) (y * x) x).size ≤ 6000) := ⟨by
            have a := row_size (x : Int) ws sp (textF (x : Int) x ws sp y) (y * x) x
            have b := text_small (x : Int) x ws sp y hn2 (by omega)
            omega⟩
          have hcat1 : (rowF (x : Int) ws sp (textF (x : Int) x ws sp y) (y * x) x).size + 1 ≤ 9223372036854775807 := by have := HTs.out; omega
          have HT1 : Aside0 (rowF (x : Int) ws sp (textF (x : Int) x ws sp y) (y * x) x ++ ⟨#[10]⟩ = textF (x : Int) x ws sp (y + 1)) := ⟨rfl⟩
          go_wp2_with fail
          rw [HT1.out]
          go_roundg G1
          case measure => exact HG1.out
          case rel => exact ⟨y + 1, rfl, by simp, HK1, HBn⟩
    · have hye : y = h := by have := HK.out; omega
      subst hye
      have HTs : Aside0 ((textF (n : Int) n ws sp y).size ≤ 1000000) := ⟨by have := text_small (n : Int) n ws sp y hn2 hh2; omega⟩
      have HTR0 := Aside0.mk (tread_text (W := (n : Int)) (sp := sp) rfl hn1 hn2 hh1 hh2 HLn.out)
      obtain ⟨T, hT⟩ : ∃ T, textF (n : Int) n ws sp y = T := ⟨_, rfl⟩
      rw [hT] at HTs HTR0
      have HTt : Aside0 (textF (n : Int) (n : Int).toNat ws sp (y : Int).toNat = T) := ⟨hT⟩
      rw [hT]
      clear hT
      have hSl := spU_len (n : Int) ws sp ws.length
      obtain ⟨S, hS⟩ : ∃ S, spU (n : Int) ws sp ws.length = S := ⟨_, rfl⟩
      rw [hS] at HTR0 HPf hSl
      clear hS
      have HBr2 := Aside0.mk (HB.out.trans (HBr.out.mono HB.out.size))
      have c0 : wr.cell? ⟨B, 0, none⟩ = some (.int .i64 (n : Int)) := (blk_cell (blk_below HM.out HBr.out) 0).trans rfl
      by_cases hS0 : (S.length : Int) = 0
      · have HTR : Aside0 (tread T = (TM.zero, (T.size : Int), 2)) := ⟨by rw [HTR0.out, if_pos hS0]⟩
        have HN : Aside0 (¬ FormP (n : Int) (y : Int) ws sp) := ⟨fun g => by
          obtain ⟨g1, g2⟩ := HPf.out.1 g
          rw [g2] at hS0
          exact g1 (List.length_eq_zero_iff.1 (by omega))⟩
        clear HTR0 hS0
        go_wp2_with (go_at_call 12; (with_reducible refine (refread_any T HTs.out _).mono ?_); rintro e w3 ⟨vA, vS, he, hb3, hA, hS2⟩; rw [HTR.out] at he hA hS2; subst he; obtain ⟨A1, c1', rfl, hl1, hC1⟩ := Kd.R_reads hA; obtain ⟨A2, c2', rfl, hl2, hC2⟩ := Kd.R_reads hS2; have HC3 := Aside0.mk (And.intro hC1 (And.intro hC2 (And.intro hl1 hl2))); have HB3 := Aside0.mk hb3; clear hA hS2 hC1 hC2 hl1 hl2 hb3)
        go_ret2
        exact TextR.no HN.out (below_alloc (HBr2.out.trans (HB3.out.mono HBr2.out.size)) _)
      · have HTR : Aside0 (tread T = (⟨(n : Int), (y : Int), ws, S⟩, 0, 0)) := ⟨by rw [HTR0.out, if_neg hS0]⟩
        have HPg : Aside0 (FormP (n : Int) (y : Int) ws sp ↔ S = sp) := ⟨⟨fun g => (HPf.out.1 g).2, fun g => HPf.out.2 ⟨fun e => hS0 (by rw [g, e]; rfl), g⟩⟩⟩
        clear HTR0 hS0
        obtain ⟨k, r, hk, hr⟩ := same_gen (n : Int) (y : Int) ws S sp (by omega) (by omega)
        have HKs := Aside0.mk hk
        have HRr : Aside0 (r = true ↔ FormP (n : Int) (y : Int) ws sp) := ⟨hr.trans HPg.out.symm⟩
        clear hk hr
        go_upto_region 17 with (go_at_call 12; (with_reducible refine (refread_any T HTs.out _).mono ?_); rintro e w3 ⟨vA, vS, he, hb3, hA, hS2⟩; rw [HTR.out] at he hA hS2; subst he; obtain ⟨A1, c1', rfl, hl1, hC1⟩ := Kd.R_reads hA; obtain ⟨A2, c2', rfl, hl2, hC2⟩ := Kd.R_reads hS2; have HC3 := Aside0.mk (And.intro hC1 (And.intro hC2 (And.intro hl1 hl2))); have HB3 := Aside0.mk hb3; clear hA hS2 hC1 hC2 hl1 hl2 hb3)
        have hb4 := below_alloc HB3.out (.cells #[.int .i64 (n : Int), .int .i64 (y : Int), .slice A1 ws.length c1', .slice A2 S.length c2'] 30 (0, 0))
        have HBk := Aside0.mk (blk_new w3 (.cells #[.int .i64 (n : Int), .int .i64 (y : Int), .slice A1 ws.length c1', .slice A2 S.length c2'] 30 (0, 0)))
        have HC6 := Aside0.mk (And.intro (Kd.C_alloc HC3.out.1 (.cells #[.int .i64 (n : Int), .int .i64 (y : Int), .slice A1 ws.length c1', .slice A2 S.length c2'] 30 (0, 0))) (Kd.C_alloc HC3.out.2.1 (.cells #[.int .i64 (n : Int), .int .i64 (y : Int), .slice A1 ws.length c1', .slice A2 S.length c2'] 30 (0, 0))))
        generalize w3.alloc (.cells #[.int .i64 (n : Int), .int .i64 (y : Int), .slice A1 ws.length c1', .slice A2 S.length c2'] 30 (0, 0)) = W6 at *
        have HB4 := Aside0.mk (HBr.out.trans (hb4.mono HBr.out.size))
        have HB5 := Aside0.mk (HBr2.out.trans (hb4.mono HBr2.out.size))
        clear hb4 c0 c1
        have c0 : W6.cell? ⟨B, 0, none⟩ = some (.int .i64 (n : Int)) := (blk_cell (blk_below HM.out HB4.out) 0).trans rfl
        have c1 : W6.cell? ⟨B, 1, none⟩ = some (.int .i64 (y : Int)) := (blk_cell (blk_below HM.out HB4.out) 1).trans rfl
        have c2 : W6.cell? ⟨B, 2, none⟩ = some (.slice A ws.length c) := (blk_cell (blk_below HM.out HB4.out) 2).trans rfl
        have c3 : W6.cell? ⟨B, 3, none⟩ = some (.slice A' sp.length c') := (blk_cell (blk_below HM.out HB4.out) 3).trans rfl
        have d0 : W6.cell? ⟨w3.heap.size, 0, none⟩ = some (.int .i64 (n : Int)) := (blk_cell HBk.out 0).trans rfl
        have d1 : W6.cell? ⟨w3.heap.size, 1, none⟩ = some (.int .i64 (y : Int)) := (blk_cell HBk.out 1).trans rfl
        have d2 : W6.cell? ⟨w3.heap.size, 2, none⟩ = some (.slice A1 ws.length c1') := (blk_cell HBk.out 2).trans rfl
        have d3 : W6.cell? ⟨w3.heap.size, 3, none⟩ = some (.slice A2 S.length c2') := (blk_cell HBk.out 3).trans rfl
        have HC5 := Aside0.mk (And.intro (Kd.C_below HC.out.1 HB4.out) (Kd.C_below HC.out.2.1 HB4.out))
        cases r with
        | true =>
          go_wp2_with (go_at_call 13; (with_reducible refine (ricochetref11_Same.calls k _ _ _ _ _ _ _ _ _ _ _ _ _ _ _ _ _ _ HC6.out.1 HC3.out.2.2.1 HC6.out.2 HC3.out.2.2.2 HC5.out.1 HC.out.2.2.1 HC5.out.2 HC.out.2.2.2 HKs.out).mono ?_); rintro e w7 ⟨he, hb7⟩; subst he; have HB7 := Aside0.mk hb7; clear hb7)
          go_ret2
          exact HTt.out ▸ TextR.yes (HRr.out.1 (by trivial)) (HB5.out.trans (HB7.out.mono HB5.out.size))
        | false =>
          have HN : Aside0 (¬ FormP (n : Int) (y : Int) ws sp) := ⟨fun g => Bool.false_ne_true (HRr.out.2 g)⟩
          go_wp2_with (go_at_call 13; (with_reducible refine (ricochetref11_Same.calls k _ _ _ _ _ _ _ _ _ _ _ _ _ _ _ _ _ _ HC6.out.1 HC3.out.2.2.1 HC6.out.2 HC3.out.2.2.2 HC5.out.1 HC.out.2.2.1 HC5.out.2 HC.out.2.2.2 HKs.out).mono ?_); rintro e w7 ⟨he, hb7⟩; subst he; have HB7 := Aside0.mk hb7; clear hb7)
          go_ret2
          exact TextR.no HN.out (HB5.out.trans (HB7.out.mono HB5.out.size))
end Go.Proofs.Ytgppnfnbihngnaa.Tiles
