import Derived.Test.YtgppnfnbihngnaaTWrite
import Derived.Test.YtgppnfnbihngnaaTStr
import Derived.Test.YtgppnfnbihngnaaTFlatP
import Derived.Test.YtgppnfnbihngnaaTForm
import Derived.Test.YtgppnfnbihngnaaTRefT
import Derived.Deep.LoopGhost
set_option linter.unusedVariables false
set_option linter.unusedSimpArgs false
namespace Go.Proofs.Ytgppnfnbihngnaa.Tiles
open Go.RowKit Go.Proofs.YtgppnfnbihngnaaW.PrintWords Go.Proofs.YtgppnfnbihngnaaW.PrintLast Go.Proofs.YtgppnfnbihngnaaW.PrintMore Go.Proofs.Ytgppnfnbihngnaa.PTilesFree

theorem builder_below {B b : Nat} {p : Value} {bs : List Value} {w w' : World} (h : Lib.BuilderAt 68 5 B b p bs w) (hb : Below w.heap.size w w') : Lib.BuilderAt 68 5 B b p bs w' := by
  obtain ⟨hB, v, hbk, hown, hne⟩ := h
  refine ⟨hB, v, (hb.block b (blk_lt hbk)).trans hbk, ?_, hne⟩
  refine hown.kept (row := none) ⟨hb.os, hb.tape, hb.output, hb.size, fun k hk _ => hb.block k hk⟩ ?_
  cases h : v.ownBlock with
  | none => exact .inl rfl
  | some k => exact .inr (by simp)
theorem isb_below {B b : Nat} {bs : List Value} {w w' : World} (h : Lib.IsBuilder 68 5 B b bs w) (hb : Below w.heap.size w w') : Lib.IsBuilder 68 5 B b bs w' := by
  rcases h with h | h
  · exact .inl (builder_below h hb)
  · exact .inr (builder_below h hb)
theorem cells_app (a b : ByteArray) : Lib.byteCells (a ++ b).data.toList = Lib.byteCells a.data.toList ++ Lib.byteCells b.data.toList := by
  rw [toList_append]
  unfold Lib.byteCells
  rw [List.map_append]
theorem cells_len (a : ByteArray) : (Lib.byteCells a.data.toList).length = a.size := by
  rw [Lib.byteCells_length, sz_list]
theorem flat_succ (W : Int) (n : Nat) (ws : List Bool) (sp : List S39) (i : Nat) : flatF W n ws sp (i + 1) = if i % n = n - 1 then flatF W n ws sp i ++ sg (sgn W ws sp i) ++ sg 3 else flatF W n ws sp i ++ sg (sgn W ws sp i) := rfl
set_option maxHeartbeats 8000000 in
set_option maxRecDepth 100000 in
theorem text_any (W H : Int) (A : Option Addr) (c : Nat) (ws : List Bool) (A' : Option Addr) (c' : Nat) (sp : List S39) (w : World) (hsp : sp.length ≤ 1100) (hC : Kd.C Kd.bool w A ws.length ws) (hc : ws.length ≤ c) (hC' : Kd.C k39 w A' sp.length sp) (hc' : sp.length ≤ c') :
    Calls Try.prog 19 #[.agg #[.int .i64 W, .int .i64 H, .slice A ws.length c, .slice A' sp.length c']] w (TextR (FormP W H ws sp) (textF W W.toNat ws sp H.toNat) w) := by
  have hu39 := Try.underlying39
  have hu26 := Try.underlying26
  have HSP := Aside0.mk hsp
  have HB : Aside0 (Below w.heap.size w (w.alloc (.cells #[.int .i64 W, .int .i64 H, .slice A ws.length c, .slice A' sp.length c'] 26 (0, 0)))) := ⟨below_alloc (Below.refl _ _) _⟩
  have HM := Aside0.mk (blk_new w (.cells #[.int .i64 W, .int .i64 H, .slice A ws.length c, .slice A' sp.length c'] 26 (0, 0)))
  have HC := Aside0.mk (And.intro (Kd.C_alloc hC (.cells #[.int .i64 W, .int .i64 H, .slice A ws.length c, .slice A' sp.length c'] 26 (0, 0))) (And.intro (Kd.C_alloc hC' (.cells #[.int .i64 W, .int .i64 H, .slice A ws.length c, .slice A' sp.length c'] 26 (0, 0))) (And.intro hc hc')))
  clear hC hc hC' hc' hsp
  go_enter Try.func19, Try.ntmps19
  go_upto_region 1 with fail
  generalize w.alloc (.cells #[.int .i64 W, .int .i64 H, .slice A ws.length c, .slice A' sp.length c'] 26 (0, 0)) = W1 at *
  obtain ⟨B, hB⟩ : ∃ X, w.heap.size = X := ⟨_, rfl⟩
  rw [hB] at HM
  rw [hB]
  have HBB := Aside0.mk hB
  clear hB
  have c0 : W1.cell? ⟨B, 0, none⟩ = some (.int .i64 W) := (blk_cell HM.out 0).trans rfl
  have c1 : W1.cell? ⟨B, 1, none⟩ = some (.int .i64 H) := (blk_cell HM.out 1).trans rfl
  have c2 : W1.cell? ⟨B, 2, none⟩ = some (.slice A ws.length c) := (blk_cell HM.out 2).trans rfl
  have c3 : W1.cell? ⟨B, 3, none⟩ = some (.slice A' sp.length c') := (blk_cell HM.out 3).trans rfl
  by_cases hf : FormP W H ws sp
  case neg =>
    have HF := Aside0.mk hf
    clear hf
    go_wp2_with (go_at_call 17; (with_reducible refine (formed_any W H A c ws A' c' sp _ HC.out.1 HC.out.2.2.1 HC.out.2.1 HC.out.2.2.2).mono ?_); rintro e w3 ⟨r, he, hr, hb3⟩; obtain rfl : r = false := (by cases r <;> first | rfl | exact absurd (hr.1 rfl) HF.out); subst he; have HB3 := Aside0.mk hb3; clear hb3 hr)
    go_ret2
    exact TextR.no HF.out (HB.out.trans (HB3.out.mono HB.out.size))
  have HF := Aside0.mk hf
  clear hf
  go_upto_region 3 with (go_at_call 17; (with_reducible refine (formed_any W H A c ws A' c' sp _ HC.out.1 HC.out.2.2.1 HC.out.2.1 HC.out.2.2.2).mono ?_); rintro e w3 ⟨r, he, hr, hb3⟩; obtain rfl : r = true := hr.2 HF.out; subst he; have HB3 := Aside0.mk hb3; clear hb3 hr)
  obtain ⟨f1, f2, f3, f4, f5, _, _⟩ := HF.out
  obtain ⟨n, rfl⟩ : ∃ n : Nat, W = (n : Int) := ⟨W.toNat, by omega⟩
  obtain ⟨h, rfl⟩ : ∃ h : Nat, H = (h : Int) := ⟨H.toNat, by omega⟩
  have hn1 : 1 ≤ n := by omega
  have hn2 : n ≤ 32 := by omega
  have hh1 : 1 ≤ h := by omega
  have hh2 : h ≤ 32 := by omega
  have HLn : Aside0 (ws.length = h * n) := ⟨len_nat f5⟩
  have hwl : ws.length ≤ 1024 := HF.out.few.2.2
  clear f1 f2 f3 f4 f5 c0 c1 c2 c3
  have HM3 := Aside0.mk (blk_below HM.out HB3.out)
  have HC3 := Aside0.mk (And.intro (Kd.C_below HC.out.1 HB3.out) (Kd.C_below HC.out.2.1 HB3.out))
  have HB5 := Aside0.mk (HB.out.trans (HB3.out.mono HB.out.size))
  have HI0 : Aside0 (Lib.IsBuilder 68 5 w3.heap.size w3.heap.size (Lib.byteCells (flatF (n : Int) n ws sp 0).data.toList) (w3.alloc (.cells #[.pointer none, .slice none 0 0] 68 (0, 0)))) := ⟨.inl ⟨Nat.le_refl _, .slice none 0 0, blk_new w3 (.cells #[.pointer none, .slice none 0 0] 68 (0, 0)), World.ownsRow_nil _ _ _ _, by simp [Value.ownBlock]⟩⟩
  have HB40 : Aside0 (Below w3.heap.size w3 (w3.alloc (.cells #[.pointer none, .slice none 0 0] 68 (0, 0)))) := ⟨below_alloc (Below.refl _ _) _⟩
  have c2 : (w3.alloc (.cells #[.pointer none, .slice none 0 0] 68 (0, 0))).cell? ⟨B, 2, none⟩ = some (.slice A ws.length c) := (blk_cell (blk_below HM3.out HB40.out) 2).trans rfl
  go_wp2_with fail
  generalize w3.alloc (.cells #[.pointer none, .slice none 0 0] 68 (0, 0)) = W4 at *
  obtain ⟨b, hb⟩ : ∃ b, w3.heap.size = b := ⟨_, rfl⟩
  have HB4 : Aside0 (Below b w3 W4) := ⟨by rw [← hb]; exact HB40.out⟩
  have HI : Aside0 (Lib.IsBuilder 68 5 b b (Lib.byteCells (flatF (n : Int) n ws sp 0).data.toList) W4) := ⟨by rw [← hb]; exact HI0.out⟩
  have HMb : Aside0 (∀ w', Below b w3 w' → w'.heap[B]? = some (.cells #[.int .i64 (n : Int), .int .i64 (h : Int), .slice A ws.length c, .slice A' sp.length c'] 26 (0, 0))) := ⟨fun w' hw => (hw.block B (by rw [← hb]; exact blk_lt HM3.out)).trans HM3.out⟩
  have HCb : Aside0 (∀ w', Below b w3 w' → Kd.C Kd.bool w' A ws.length ws ∧ Kd.C k39 w' A' sp.length sp) := ⟨fun w' hw => ⟨Kd.C_below HC3.out.1 (by rw [hb]; exact hw), Kd.C_below HC3.out.2 (by rw [hb]; exact hw)⟩⟩
  have HBe : Aside0 (∀ w', Below b w3 w' → Below w.heap.size w w') := ⟨fun w' hw => HB5.out.trans (hw.mono (by rw [← hb]; exact HB5.out.size))⟩
  have HBz : Aside0 (∀ w', Below b w3 w' → b ≤ w'.heap.size) := ⟨fun w' hw => by rw [← hb]; exact hw.size⟩
  rw [hb]
  clear hb HI0 HB40 c2
  go_loopg [13] ws.length (fun kq v13 w' => ∃ i : Nat, v13 = .int .i64 (i : Int) ∧ Aside0 (kq + i = ws.length) ∧ Aside0 (Lib.IsBuilder 68 5 b b (Lib.byteCells (flatF (n : Int) n ws sp i).data.toList) w') ∧ Aside0 (Below b w3 w'))
  case atStart => exact ⟨0, rfl, ⟨rfl⟩, HI, HB4⟩
  case round =>
    obtain ⟨i, rfl, HK, HIr, HBr⟩ := hrel
    clear HI HB4
    by_cases hi : (i : Int) < (ws.length : Int)
    · obtain ⟨G1, rfl⟩ : ∃ G, gk = G + 1 := ⟨gk - 1, by have := HK.out; omega⟩
      have hi0 : (0 : Int) ≤ (i : Int) := by omega
      have hi1 : i < ws.length := by omega
      have HG1 : Aside0 (G1 < G1 + 1) := ⟨by omega⟩
      have HK1 : Aside0 (G1 + (i + 1) = ws.length) := ⟨by have := HK.out; omega⟩
      obtain ⟨adw, e, u0⟩ := Kd.at_bool (HCb.out wr HBr.out).1 (i : Int) hi0 hi
      cases e
      simp only [Int.toNat_natCast] at u0
      have HRd : Aside0 (rdOf false ws (i : Int) = ws.getD i false) := ⟨by simp [rdOf]⟩
      rw [HRd.out] at u0
      obtain ⟨t, ht⟩ : ∃ t, ws.getD i false = t := ⟨_, rfl⟩
      rw [ht] at u0
      have HBt := Aside0.mk ht
      clear ht HRd
      have c0 : wr.cell? ⟨B, 0, none⟩ = some (.int .i64 (n : Int)) := (blk_cell (HMb.out wr HBr.out) 0).trans rfl
      have c3 : wr.cell? ⟨B, 3, none⟩ = some (.slice A' sp.length c') := (blk_cell (HMb.out wr HBr.out) 3).trans rfl
      have HLs : Aside0 ((Lib.byteCells (flatF (n : Int) n ws sp i).data.toList).length + 4 ≤ 1000000) := ⟨by rw [cells_len]; have := flat_size (n : Int) n ws sp i; omega⟩
      have HFs := Aside0.mk (flat_succ (n : Int) n ws sp i)
      have HFz := Aside0.mk (flat_size (n : Int) n ws sp i)
      obtain ⟨m1, m2, m3, m4⟩ := mod_small (n : Int) i (by omega) (by omega) (by omega)
      obtain ⟨xr, hxr⟩ : ∃ x, (i : Int) % (n : Int) = x := ⟨_, rfl⟩
      obtain ⟨yr, hyr⟩ : ∃ y, (i : Int) / (n : Int) = y := ⟨_, rfl⟩
      rw [hxr] at m1 m2
      rw [hyr] at m3 m4
      have Ht1 : Aside0 ((i : Int).tmod (n : Int) = xr) := ⟨by rw [Int.tmod_eq_emod_of_nonneg hi0]; exact hxr⟩
      have Ht2 : Aside0 ((i : Int).tdiv (n : Int) = yr) := ⟨by rw [Int.tdiv_eq_ediv_of_nonneg hi0]; exact hyr⟩
      have Hv3 : Aside0 (wrap64 yr = yr) := ⟨w64 yr (by omega)⟩
      have Hwq : Aside0 (IntKind.i64.wrap yr = yr) := ⟨by rw [i64_w]; exact w64 yr (by omega)⟩
      have Hwn : Aside0 (IntKind.i64.wrap ((n : Int) - 1) = (n : Int) - 1) := ⟨by rw [i64_w]; exact w64 _ (by omega)⟩
      have hW0 : ¬ (n : Int) = 0 := by omega
      have hW00 : ¬ n = 0 := by omega
      have HXm : Aside0 ((i % n = n - 1) ↔ xr = (n : Int) - 1) := ⟨by
        have e : ((i % n : Nat) : Int) = xr := by rw [← hxr]; norm_cast
        omega⟩
      obtain ⟨q, hq⟩ : ∃ q, midJ (n : Int) i = q := ⟨_, rfl⟩
      have HQ : Aside0 (tiles_middle.f xr yr = some (q.f0, q.f1)) := ⟨by rw [← hq]; unfold midJ; rw [hxr, hyr]; rfl⟩
      obtain ⟨r, hr⟩ : ∃ r, hasS sp q = r := ⟨_, rfl⟩
      have HR := Aside0.mk hr
      have HSg : Aside0 (sgn (n : Int) ws sp i = if t = true then 0 else if r = true then 2 else 1) := ⟨by unfold sgn; rw [HBt.out, hq, hr]⟩
      clear hr hq hxr hyr m1 m2 m3 m4
      cases t with
      | true =>
        have HS : Aside0 (sgn (n : Int) ws sp i = 0) := ⟨by rw [HSg.out, if_pos rfl]⟩
        go_upto_region 12 with (go_at_call 32; (with_reducible refine (write_wall b b _ _ HIr.out HLs.out (HBz.out _ HBr.out)).mono ?_); rintro e w5 ⟨he, hA, hb5⟩; subst he; have HA5 := Aside0.mk hA; have HB6 := Aside0.mk (HBr.out.trans hb5); clear hA hb5)
        have HF5 : Aside0 (Lib.byteCells (flatF (n : Int) n ws sp i).data.toList ++ [.int .u8 226, .int .u8 150, .int .u8 136] = Lib.byteCells (flatF (n : Int) n ws sp i ++ sg (sgn (n : Int) ws sp i)).data.toList) := ⟨by rw [cells_app, HS.out]; rfl⟩
        have HI5 : Aside0 (Lib.IsBuilder 68 5 b b (Lib.byteCells (flatF (n : Int) n ws sp i ++ sg (sgn (n : Int) ws sp i)).data.toList) w5) := ⟨by rw [← HF5.out]; exact .inr HA5.out⟩
        have e0 : w5.cell? ⟨B, 0, none⟩ = some (.int .i64 (n : Int)) := (blk_cell (HMb.out w5 HB6.out) 0).trans rfl
        clear c0 c3 u0
        have ht1 := Ht1.out
        have hwn := Hwn.out
        by_cases hlast : xr = (n : Int) - 1
        · have hq1 : (xr == (n : Int) - 1) = true := by simpa using hlast
          have HF6 : Aside0 (flatF (n : Int) n ws sp (i + 1) = flatF (n : Int) n ws sp i ++ sg (sgn (n : Int) ws sp i) ++ sg 3) := ⟨by rw [HFs.out, if_pos (HXm.out.2 hlast)]⟩
          clear hlast
          go_quiet (fail)
          clear ht1 hwn
          have HI6 : Aside0 (Lib.IsBuilder 68 5 b b (Lib.byteCells (flatF (n : Int) n ws sp i ++ sg (sgn (n : Int) ws sp i)).data.toList) (w5.drewN nq)) := ⟨isb_below HI5.out (pw_below_drewN (Below.refl _ _) nq)⟩
          have HB8 : Aside0 (Below b w3 (w5.drewN nq)) := ⟨HB6.out.trans ((pw_below_drewN (Below.refl w5.heap.size w5) nq).mono (HBz.out _ HB6.out))⟩
          have HLs2 : Aside0 ((Lib.byteCells (flatF (n : Int) n ws sp i ++ sg (sgn (n : Int) ws sp i)).data.toList).length + 4 ≤ 1000000) := ⟨by rw [cells_len, size_app]; have := HFz.out; have := sg_size3 (sgn (n : Int) ws sp i); omega⟩
          go_wp2_with (go_at_call 34; (with_reducible refine (write_byte b b _ 10 _ HI6.out HLs2.out (HBz.out _ HB8.out)).mono ?_); rintro e w9 ⟨he, hA, hb9⟩; subst he; have HA9 := Aside0.mk hA; have HB9 := Aside0.mk (HB8.out.trans hb9); clear hA hb9)
          go_roundg G1
          case measure => exact HG1.out
          case rel => exact ⟨i + 1, by simp, HK1, ⟨by rw [HF6.out, cells_app _ (sg 3)]; exact .inr HA9.out⟩, HB9⟩
        · have hq1 : (xr == (n : Int) - 1) = false := by simpa using hlast
          have HF6 : Aside0 (flatF (n : Int) n ws sp (i + 1) = flatF (n : Int) n ws sp i ++ sg (sgn (n : Int) ws sp i)) := ⟨by rw [HFs.out, if_neg (fun e => hlast (HXm.out.1 e))]⟩
          clear hlast
          go_quiet (fail)
          clear ht1 hwn
          have HI6 : Aside0 (Lib.IsBuilder 68 5 b b (Lib.byteCells (flatF (n : Int) n ws sp i ++ sg (sgn (n : Int) ws sp i)).data.toList) (w5.drewN nq)) := ⟨isb_below HI5.out (pw_below_drewN (Below.refl _ _) nq)⟩
          have HB8 : Aside0 (Below b w3 (w5.drewN nq)) := ⟨HB6.out.trans ((pw_below_drewN (Below.refl w5.heap.size w5) nq).mono (HBz.out _ HB6.out))⟩
          go_wp2_with fail
          go_roundg G1
          case measure => exact HG1.out
          case rel => exact ⟨i + 1, by simp, HK1, ⟨by rw [HF6.out]; exact HI6.out⟩, HB8⟩
      | false =>
        go_upto_region 10 with fail
        have HK0 := Aside0.mk (below_drew (Below.refl wr.heap.size wr))
        have ht1 := Ht1.out
        have ht2 := Ht2.out
        have hv3 := Hv3.out
        have hwq := Hwq.out
        refine start_ (n := 13) (S := fun w' => w'.cell? ⟨B, 0, none⟩ = some (.int .i64 (n : Int)) ∧ w'.cell? ⟨B, 3, none⟩ = some (.slice A' sp.length c')) (ds := []) #[false, false, false, false, false, false, false, false, false, false, false, false, false] (by kernel_rfl) rfl rfl ⟨((HK0.out.cell (World.block_lt_of_cell? wr _ c0)).trans c0), ((HK0.out.cell (World.block_lt_of_cell? wr _ c3)).trans c3)⟩ (fun hHeld => ?_)
        refine pure_ (i := 0) (N := some 23) (v := ?_) (a' := ?_) #[true, false, false, false, false, false, false, false, false, false, false, false, false] rfl rfl (by kernel_rfl) (fun _ _ _ h => h) (Or.inl ⟨by rfl, ?_⟩) ?_ ?_
        rotate_left
        · intro w'
          go_simp
          with_reducible rfl
        rotate_left
        · simp only [Act.put, List.setIfInBounds_toArray, List.set_cons_zero, List.set_cons_succ, i64_w, ht1, ht2, hv3]
          rfl
        refine pure_ (i := 2) (N := some 25) (v := ?_) (a' := ?_) #[true, false, true, false, false, false, false, false, false, false, false, false, false] rfl rfl (by kernel_rfl) (fun _ _ _ h => h) (Or.inl ⟨by rfl, ?_⟩) ?_ ?_
        rotate_left
        · intro w'
          go_simp
          with_reducible rfl
        rotate_left
        · simp only [Act.put, List.setIfInBounds_toArray, List.set_cons_zero, List.set_cons_succ, i64_w, ht1, ht2, hv3]
          rfl
        refine pure_ (i := 3) (N := some 26) (v := ?_) (a' := ?_) #[true, false, true, true, false, false, false, false, false, false, false, false, false] rfl rfl (by kernel_rfl) (fun _ _ _ h => h) (Or.inl ⟨by rfl, ?_⟩) ?_ ?_
        rotate_left
        · intro w'
          go_simp
          with_reducible rfl
        rotate_left
        · simp only [Act.put, List.setIfInBounds_toArray, List.set_cons_zero, List.set_cons_succ, i64_w, ht1, ht2, hv3]
          rfl
        refine pure_ (i := 6) (N := some 29) (v := ?_) (a' := ?_) #[true, false, true, true, false, false, true, false, false, false, false, false, false] rfl rfl (by kernel_rfl) (fun _ _ _ h => h) (Or.inl ⟨by rfl, ?_⟩) ?_ ?_
        rotate_left
        · intro w'
          go_simp
          with_reducible rfl
        rotate_left
        · simp only [Act.put, List.setIfInBounds_toArray, List.set_cons_zero, List.set_cons_succ, i64_w, ht1, ht2, hv3]
          rfl
        refine pure_ (i := 7) (N := some 30) (v := ?_) (a' := ?_) #[true, false, true, true, false, false, true, true, false, false, false, false, false] rfl rfl (by kernel_rfl) (fun _ _ _ h => h) (Or.inl ⟨by rfl, ?_⟩) ?_ ?_
        rotate_left
        · intro w'
          go_simp
          with_reducible rfl
        rotate_left
        · simp only [Act.put, List.setIfInBounds_toArray, List.set_cons_zero, List.set_cons_succ, i64_w, ht1, ht2, hv3]
          rfl
        refine take_ (i := 1) (N := some 24) (v := ?_) (a' := ?_) #[true, true, true, true, false, false, true, true, false, false, false, false, false] rfl rfl (by kernel_rfl) (fun _ _ _ h => h) (Or.inl ⟨by rfl, ?_⟩) hHeld ?_ ?_
        rotate_left
        · rintro w' ⟨s0, s1⟩
          go_simp
          with_reducible rfl
        rotate_left
        · simp only [Act.put, List.setIfInBounds_toArray, List.set_cons_zero, List.set_cons_succ, i64_w, ht1, ht2, hv3]
          rfl
        refine take_ (i := 4) (N := some 27) (v := ?_) (a' := ?_) #[true, true, true, true, true, false, true, true, false, false, false, false, false] rfl rfl (by kernel_rfl) (fun _ _ _ h => h) (Or.inl ⟨by rfl, ?_⟩) hHeld ?_ ?_
        rotate_left
        · rintro w' ⟨s0, s1⟩
          go_simp
          with_reducible rfl
        rotate_left
        · simp only [Act.put, List.setIfInBounds_toArray, List.set_cons_zero, List.set_cons_succ, i64_w, ht1, ht2, hv3]
          rfl
        refine pure_ (i := 5) (N := some 28) (v := ?_) (a' := ?_) #[true, true, true, true, true, true, true, true, false, false, false, false, false] rfl rfl (by kernel_rfl) (fun _ _ _ h => h) (Or.inl ⟨by rfl, ?_⟩) ?_ ?_
        rotate_left
        · intro w'
          go_simp
          with_reducible rfl
        rotate_left
        · simp only [Act.put, List.setIfInBounds_toArray, List.set_cons_zero, List.set_cons_succ, i64_w, ht1, ht2, hv3]
          rfl
        refine take_ (i := 8) (N := some 31) (v := ?_) (a' := ?_) #[true, true, true, true, true, true, true, true, true, false, false, false, false] rfl rfl (by kernel_rfl) (fun _ _ _ h => h) (Or.inl ⟨by rfl, ?_⟩) hHeld ?_ ?_
        rotate_left
        · rintro w' ⟨s0, s1⟩
          go_simp
          with_reducible rfl
        rotate_left
        · simp only [Act.put, List.setIfInBounds_toArray, List.set_cons_zero, List.set_cons_succ, i64_w, ht1, ht2, hv3]
          rfl
        refine pure_ (i := 9) (N := some 32) (v := ?_) (a' := ?_) #[true, true, true, true, true, true, true, true, true, true, false, false, false] rfl rfl (by kernel_rfl) (fun _ _ _ h => h) (Or.inl ⟨by rfl, ?_⟩) ?_ ?_
        rotate_left
        · intro w'
          go_simp
          with_reducible rfl
        rotate_left
        · simp only [Act.put, List.setIfInBounds_toArray, List.set_cons_zero, List.set_cons_succ, i64_w, ht1, ht2, hv3]
          rfl
        refine one_ (i := 10) (N := some 33) #[true, true, true, true, true, true, true, true, true, true, true, false, false] rfl rfl (by kernel_rfl) (by decide) (fun K hK => ?_)
        refine goes_ Try.func23 (by kernel_rfl) rfl #[.int .i64 xr, .int .i64 yr] (by rfl) rfl rfl (by simp only [List.map_toArray, List.map_cons, List.map_nil]; rfl) ?_
        with_reducible refine (tiles_middle.calls xr yr q.f0 q.f1 _ HQ.out).mono ?_
        rintro e w6 ⟨rfl, hb6⟩
        refine ⟨_, rfl, ?_⟩
        have HKa := Aside0.mk (HK0.out.trans (hb6.mono HK0.out.size))
        have HCa := Aside0.mk (Kd.C_below (HCb.out wr HBr.out).2 HKa.out)
        clear hb6
        refine hK.out _ _ ⟨((HKa.out.cell (World.block_lt_of_cell? wr _ c0)).trans c0), ((HKa.out.cell (World.block_lt_of_cell? wr _ c3)).trans c3)⟩ (fun hHeld => ?_)
        clear hK K
        refine norm_ (a' := ?_) ?_ ?_
        rotate_left
        · show Act.put _ (some 33) _ = _
          simp only [Act.put, List.setIfInBounds_toArray, List.set_cons_zero, List.set_cons_succ, i64_w, ht1, ht2, hv3]
          rfl
        refine one_ (i := 11) (N := some 34) #[true, true, true, true, true, true, true, true, true, true, true, true, false] rfl rfl (by kernel_rfl) (by decide) (fun K hK => ?_)
        refine goes_ Try.func33 (by kernel_rfl) rfl #[.slice A' sp.length c', .agg #[.int .i64 q.f0, .int .i64 q.f1]] (by rfl) rfl rfl (by simp only [List.map_toArray, List.map_cons, List.map_nil]; rfl) ?_
        with_reducible refine (contains_any A' _ c' sp q _ HCa.out HSP.out).mono ?_
        rintro e w7 ⟨rfl, hb7⟩
        refine ⟨_, rfl, ?_⟩
        have HKb := Aside0.mk (HKa.out.trans (hb7.mono HKa.out.size))
        rw [HR.out]
        clear hb7
        refine hK.out _ _ ⟨((HKb.out.cell (World.block_lt_of_cell? wr _ c0)).trans c0), ((HKb.out.cell (World.block_lt_of_cell? wr _ c3)).trans c3)⟩ (fun hHeld => ?_)
        clear hK K
        refine norm_ (a' := ?_) ?_ ?_
        rotate_left
        · show Act.put _ (some 34) _ = _
          simp only [Act.put, List.setIfInBounds_toArray, List.set_cons_zero, List.set_cons_succ, i64_w, ht1, ht2, hv3]
          rfl
        refine pure_ (i := 12) (N := some 22) (v := ?_) (a' := ?_) #[true, true, true, true, true, true, true, true, true, true, true, true, true] rfl rfl (by kernel_rfl) (fun _ _ _ h => h) (Or.inl ⟨by rfl, ?_⟩) ?_ ?_
        rotate_left
        · intro w'
          go_simp
          with_reducible rfl
        rotate_left
        · simp only [Act.put, List.setIfInBounds_toArray, List.set_cons_zero, List.set_cons_succ, i64_w, ht1, ht2, hv3]
          rfl
        refine done_ (by kernel_rfl) ?_
        clear ht1 ht2 hv3 hwq
        have HI7 := Aside0.mk (isb_below HIr.out HKb.out)
        have HB7 := Aside0.mk (HBr.out.trans (HKb.out.mono (HBz.out _ HBr.out)))
        cases r with
        | true =>
          have HS : Aside0 (sgn (n : Int) ws sp i = 2) := ⟨by rw [HSg.out, if_neg (by decide), if_pos rfl]⟩
          go_upto_region 12 with (go_at_call 32; (with_reducible refine (write_spawn b b _ _ HI7.out HLs.out (HBz.out _ HB7.out)).mono ?_); rintro e w5 ⟨he, hA, hb5⟩; subst he; have HA5 := Aside0.mk hA; have HB6 := Aside0.mk (HB7.out.trans hb5); clear hA hb5)
          have HF5 : Aside0 (Lib.byteCells (flatF (n : Int) n ws sp i).data.toList ++ [.int .u8 226, .int .u8 151, .int .u8 142] = Lib.byteCells (flatF (n : Int) n ws sp i ++ sg (sgn (n : Int) ws sp i)).data.toList) := ⟨by rw [cells_app, HS.out]; rfl⟩
          have HI5 : Aside0 (Lib.IsBuilder 68 5 b b (Lib.byteCells (flatF (n : Int) n ws sp i ++ sg (sgn (n : Int) ws sp i)).data.toList) w5) := ⟨by rw [← HF5.out]; exact .inr HA5.out⟩
          have e0 : w5.cell? ⟨B, 0, none⟩ = some (.int .i64 (n : Int)) := (blk_cell (HMb.out w5 HB6.out) 0).trans rfl
          clear c0 c3 u0
          have ht1 := Ht1.out
          have hwn := Hwn.out
          by_cases hlast : xr = (n : Int) - 1
          · have hq1 : (xr == (n : Int) - 1) = true := by simpa using hlast
            have HF6 : Aside0 (flatF (n : Int) n ws sp (i + 1) = flatF (n : Int) n ws sp i ++ sg (sgn (n : Int) ws sp i) ++ sg 3) := ⟨by rw [HFs.out, if_pos (HXm.out.2 hlast)]⟩
            clear hlast
            go_quiet (fail)
            clear ht1 hwn
            have HI6 : Aside0 (Lib.IsBuilder 68 5 b b (Lib.byteCells (flatF (n : Int) n ws sp i ++ sg (sgn (n : Int) ws sp i)).data.toList) (w5.drewN nq)) := ⟨isb_below HI5.out (pw_below_drewN (Below.refl _ _) nq)⟩
            have HB8 : Aside0 (Below b w3 (w5.drewN nq)) := ⟨HB6.out.trans ((pw_below_drewN (Below.refl w5.heap.size w5) nq).mono (HBz.out _ HB6.out))⟩
            have HLs2 : Aside0 ((Lib.byteCells (flatF (n : Int) n ws sp i ++ sg (sgn (n : Int) ws sp i)).data.toList).length + 4 ≤ 1000000) := ⟨by rw [cells_len, size_app]; have := HFz.out; have := sg_size3 (sgn (n : Int) ws sp i); omega⟩
            go_wp2_with (go_at_call 34; (with_reducible refine (write_byte b b _ 10 _ HI6.out HLs2.out (HBz.out _ HB8.out)).mono ?_); rintro e w9 ⟨he, hA, hb9⟩; subst he; have HA9 := Aside0.mk hA; have HB9 := Aside0.mk (HB8.out.trans hb9); clear hA hb9)
            go_roundg G1
            case measure => exact HG1.out
            case rel => exact ⟨i + 1, by simp, HK1, ⟨by rw [HF6.out, cells_app _ (sg 3)]; exact .inr HA9.out⟩, HB9⟩
          · have hq1 : (xr == (n : Int) - 1) = false := by simpa using hlast
            have HF6 : Aside0 (flatF (n : Int) n ws sp (i + 1) = flatF (n : Int) n ws sp i ++ sg (sgn (n : Int) ws sp i)) := ⟨by rw [HFs.out, if_neg (fun e => hlast (HXm.out.1 e))]⟩
            clear hlast
            go_quiet (fail)
            clear ht1 hwn
            have HI6 : Aside0 (Lib.IsBuilder 68 5 b b (Lib.byteCells (flatF (n : Int) n ws sp i ++ sg (sgn (n : Int) ws sp i)).data.toList) (w5.drewN nq)) := ⟨isb_below HI5.out (pw_below_drewN (Below.refl _ _) nq)⟩
            have HB8 : Aside0 (Below b w3 (w5.drewN nq)) := ⟨HB6.out.trans ((pw_below_drewN (Below.refl w5.heap.size w5) nq).mono (HBz.out _ HB6.out))⟩
            go_wp2_with fail
            go_roundg G1
            case measure => exact HG1.out
            case rel => exact ⟨i + 1, by simp, HK1, ⟨by rw [HF6.out]; exact HI6.out⟩, HB8⟩
        | false =>
          have HS : Aside0 (sgn (n : Int) ws sp i = 1) := ⟨by rw [HSg.out, if_neg (by decide), if_neg (by decide)]⟩
          go_upto_region 12 with (go_at_call 32; (with_reducible refine (write_floor b b _ _ HI7.out HLs.out (HBz.out _ HB7.out)).mono ?_); rintro e w5 ⟨he, hA, hb5⟩; subst he; have HA5 := Aside0.mk hA; have HB6 := Aside0.mk (HB7.out.trans hb5); clear hA hb5)
          have HF5 : Aside0 (Lib.byteCells (flatF (n : Int) n ws sp i).data.toList ++ [.int .u8 194, .int .u8 183] = Lib.byteCells (flatF (n : Int) n ws sp i ++ sg (sgn (n : Int) ws sp i)).data.toList) := ⟨by rw [cells_app, HS.out]; rfl⟩
          have HI5 : Aside0 (Lib.IsBuilder 68 5 b b (Lib.byteCells (flatF (n : Int) n ws sp i ++ sg (sgn (n : Int) ws sp i)).data.toList) w5) := ⟨by rw [← HF5.out]; exact .inr HA5.out⟩
          have e0 : w5.cell? ⟨B, 0, none⟩ = some (.int .i64 (n : Int)) := (blk_cell (HMb.out w5 HB6.out) 0).trans rfl
          clear c0 c3 u0
          have ht1 := Ht1.out
          have hwn := Hwn.out
          by_cases hlast : xr = (n : Int) - 1
          · have hq1 : (xr == (n : Int) - 1) = true := by simpa using hlast
            have HF6 : Aside0 (flatF (n : Int) n ws sp (i + 1) = flatF (n : Int) n ws sp i ++ sg (sgn (n : Int) ws sp i) ++ sg 3) := ⟨by rw [HFs.out, if_pos (HXm.out.2 hlast)]⟩
            clear hlast
            go_quiet (fail)
            clear ht1 hwn
            have HI6 : Aside0 (Lib.IsBuilder 68 5 b b (Lib.byteCells (flatF (n : Int) n ws sp i ++ sg (sgn (n : Int) ws sp i)).data.toList) (w5.drewN nq)) := ⟨isb_below HI5.out (pw_below_drewN (Below.refl _ _) nq)⟩
            have HB8 : Aside0 (Below b w3 (w5.drewN nq)) := ⟨HB6.out.trans ((pw_below_drewN (Below.refl w5.heap.size w5) nq).mono (HBz.out _ HB6.out))⟩
            have HLs2 : Aside0 ((Lib.byteCells (flatF (n : Int) n ws sp i ++ sg (sgn (n : Int) ws sp i)).data.toList).length + 4 ≤ 1000000) := ⟨by rw [cells_len, size_app]; have := HFz.out; have := sg_size3 (sgn (n : Int) ws sp i); omega⟩
            go_wp2_with (go_at_call 34; (with_reducible refine (write_byte b b _ 10 _ HI6.out HLs2.out (HBz.out _ HB8.out)).mono ?_); rintro e w9 ⟨he, hA, hb9⟩; subst he; have HA9 := Aside0.mk hA; have HB9 := Aside0.mk (HB8.out.trans hb9); clear hA hb9)
            go_roundg G1
            case measure => exact HG1.out
            case rel => exact ⟨i + 1, by simp, HK1, ⟨by rw [HF6.out, cells_app _ (sg 3)]; exact .inr HA9.out⟩, HB9⟩
          · have hq1 : (xr == (n : Int) - 1) = false := by simpa using hlast
            have HF6 : Aside0 (flatF (n : Int) n ws sp (i + 1) = flatF (n : Int) n ws sp i ++ sg (sgn (n : Int) ws sp i)) := ⟨by rw [HFs.out, if_neg (fun e => hlast (HXm.out.1 e))]⟩
            clear hlast
            go_quiet (fail)
            clear ht1 hwn
            have HI6 : Aside0 (Lib.IsBuilder 68 5 b b (Lib.byteCells (flatF (n : Int) n ws sp i ++ sg (sgn (n : Int) ws sp i)).data.toList) (w5.drewN nq)) := ⟨isb_below HI5.out (pw_below_drewN (Below.refl _ _) nq)⟩
            have HB8 : Aside0 (Below b w3 (w5.drewN nq)) := ⟨HB6.out.trans ((pw_below_drewN (Below.refl w5.heap.size w5) nq).mono (HBz.out _ HB6.out))⟩
            go_wp2_with fail
            go_roundg G1
            case measure => exact HG1.out
            case rel => exact ⟨i + 1, by simp, HK1, ⟨by rw [HF6.out]; exact HI6.out⟩, HB8⟩
    · have hie : i = ws.length := by have := HK.out; omega
      subst hie
      have HTx : Aside0 (flatF (n : Int) n ws sp ws.length = textF (n : Int) (n : Int).toNat ws sp (h : Int).toNat) := ⟨by
        show _ = textF (n : Int) n ws sp h
        rw [← flat_text (n : Int) n ws sp (by omega) h, HLn.out]⟩
      go_wp2_with (go_at_call 35; (with_reducible refine (Builder_String_any b b (flatF (n : Int) n ws sp ws.length).data.toList _ HIr.out (HBz.out _ HBr.out)).mono ?_); rintro e w5 ⟨he, hb5⟩; subst he; have HB6 := Aside0.mk (HBr.out.trans hb5); clear hb5)
      go_ret2
      exact HTx.out ▸ TextR.yes HF.out (HBe.out _ HB6.out)
end Go.Proofs.Ytgppnfnbihngnaa.Tiles
