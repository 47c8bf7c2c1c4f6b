import Derived.Test.YtcbmkhogmdkpdaaRPast
import Derived.Test.YtcbmkhogmdkpdaaRSame
import Derived.Test.YtcbmkhogmdkpdaaRAwake
set_option linter.unusedVariables false
set_option linter.unusedSimpArgs false
namespace Go.Proofs.Ytcbmkhogmdkpdaa.Ring
open Go.RowKit Go.ChangeMaps Go.Proofs.YtcbmkhogmdkpdaaW.PrintWords Go.Proofs.YtcbmkhogmdkpdaaW.PrintLast Go.Proofs.YtcbmkhogmdkpdaaW.PrintMore Go.Proofs.Ytcbmkhogmdkpdaa.PRewindNone Go.Proofs.Ytcbmkhogmdkpdaa.MapI Go.Proofs.Ytcbmkhogmdkpdaa.Plain Go.Proofs.Ytcbmkhogmdkpdaa.Pure
/-- A ray. -/
structure S30 where
  f0 : Int
  f1 : S28
  f2 : S28
def z30 : S30 := ⟨0, z28, z28⟩
def k30 : Kd S30 := Kd.iso (Kd.pair (Kd.int .i64) (Kd.pair k28 k28)) (fun x : S30 => (x.f0, x.f1, x.f2))
theorem k30_open {w : World} {x : S30} {cs : List Value} (h : k30.K w x cs) : cs = [.int .i64 x.f0, .int .i64 x.f1.f0, .int .i64 x.f1.f1, .int .i64 x.f2.f0, .int .i64 x.f2.f1] := by
  obtain ⟨_, _, rfl, rfl, ⟨_, _, rfl, s1, s2⟩⟩ := h
  obtain rfl := k28_open s1
  obtain rfl := k28_open s2
  rfl
def rd_T30 (xs : List S30) (i : Int) : S30 := xs.getD i.toNat z30
theorem at_T30 {w : World} {A : Option Addr} {n : Nat} {xs : List S30} (h : Kd.C k30 w A n xs) (i : Int) (h0 : 0 ≤ i) (h1 : i < n) : ∃ ad, A = some ad ∧ w.cell? (ad.add (i.toNat * 5)) = some (.int .i64 (rd_T30 xs i).f0) ∧ w.cell? ⟨(ad.add (i.toNat * 5)).block, (ad.add (i.toNat * 5)).off + 1, none⟩ = some (.int .i64 (rd_T30 xs i).f1.f0) ∧ w.cell? ⟨(ad.add (i.toNat * 5)).block, (ad.add (i.toNat * 5)).off + 2, none⟩ = some (.int .i64 (rd_T30 xs i).f1.f1) ∧ w.cell? ⟨(ad.add (i.toNat * 5)).block, (ad.add (i.toNat * 5)).off + 3, none⟩ = some (.int .i64 (rd_T30 xs i).f2.f0) ∧ w.cell? ⟨(ad.add (i.toNat * 5)).block, (ad.add (i.toNat * 5)).off + 4, none⟩ = some (.int .i64 (rd_T30 xs i).f2.f1) := by
  obtain ⟨ad, c, e, _, hK, hc0⟩ := Kd.C_get h z30 i h0 h1
  have hc : ∀ j u, c[j]? = some u → w.cell? (ad.add (i.toNat * 5 + j)) = some u := hc0
  obtain rfl := k30_open hK
  exact ⟨ad, e, hc 0 _ rfl, by rw [← add_field _ _ 1 (by omega)]; exact hc 1 _ rfl, by rw [← add_field _ _ 2 (by omega)]; exact hc 2 _ rfl, by rw [← add_field _ _ 3 (by omega)]; exact hc 3 _ rfl, by rw [← add_field _ _ 4 (by omega)]; exact hc 4 _ rfl⟩
theorem find_own {its : List S51} (h : (ticksOf its).Pairwise (· < ·)) : ∀ {i : Nat}, i < its.length → find (rd_T51 its (i : Int)).f0 its = some (rd_T51 its (i : Int)).f1 := by
  induction its with
  | nil => intro i hi; simp at hi
  | cons x l ih =>
    intro i hi
    have hp : (∀ y, y ∈ ticksOf l → x.f0 < y) ∧ (ticksOf l).Pairwise (· < ·) := List.pairwise_cons.1 h
    cases i with
    | zero => simp [rd_T51, List.getD, find]
    | succ i =>
      have e : rd_T51 (x :: l) ((i + 1 : Nat) : Int) = rd_T51 l (i : Int) := by simp [rd_T51, List.getD]
      rw [e]
      unfold find
      have hm : (rd_T51 l (i : Int)).f0 ∈ ticksOf l := by
        refine List.mem_map.2 ⟨rd_T51 l (i : Int), ?_, rfl⟩
        simp only [rd_T51, Int.toNat_natCast, List.getD_eq_getElem?_getD, List.getElem?_eq_getElem (show i < l.length by simpa using hi), Option.getD_some]
        exact List.getElem_mem _
      have := hp.1 _ hm
      rw [if_neg (by omega)]
      exact ih hp.2 (by simpa using hi)
theorem Kept76.holds {w : World} {base B C : Nat} {Z : Nat → Prop} {xs : List S76} {its : List S51} (h : Kept76 xs its) (ht : Two w base B C Z (ticksOf its) (listsOf its) its) : Holds w (some ⟨B, 0, none⟩) (ticksOf its) (listsOf its) := by
  obtain ⟨_, _, F, G, hr, _⟩ := ht
  refine Holds.of_ring hr (fun x hx => ?_) h.2.1
  obtain ⟨y, hy, rfl⟩ := List.mem_map.1 hx
  have := h.1 y hy
  omega
set_option maxHeartbeats 8000000 in
set_option maxRecDepth 100000 in
theorem stays_walk (from_ : Int) (A : Option Addr) (n c : Nat) (xs : List S76) (A2 : Option Addr) (m c2 : Nat) (rs : List S30) (tick part : Int) (w : World) (hC : Kd.C k76 w A n xs) (hC2 : Kd.C k30 w A2 m rs) (hf : 0 ≤ from_ ∧ from_ ≤ 65535) (hxs : ∀ x, x ∈ xs → 0 ≤ x.f0 ∧ x.f0 ≤ 255) (hp : 0 ≤ part ∧ part ≤ 255) :
    Calls Try.prog 4 #[.agg #[.int .u16 from_, .slice A n c], .slice A2 m c2, .agg #[.int .i64 tick, .int .u8 part]] w fun e w' => e = .returned (.bool true) ∧ Below w.heap.size w w' := by
  obtain rfl : xs.length = n := Kd.C_len hC
  obtain rfl : rs.length = m := Kd.C_len hC2
  have hB := below_alloc (below_alloc (Below.refl w.heap.size w) (.cells #[.int .u16 from_, .slice A xs.length c] 25 (0, 0))) (.cells #[.int .i64 tick, .int .u8 part] 32 (0, 0))
  have hP := blk_alloc (blk_new w (.cells #[.int .u16 from_, .slice A xs.length c] 25 (0, 0))) (.cells #[.int .i64 tick, .int .u8 part] 32 (0, 0))
  have hV := blk_new (w.alloc (.cells #[.int .u16 from_, .slice A xs.length c] 25 (0, 0))) (.cells #[.int .i64 tick, .int .u8 part] 32 (0, 0))
  rw [show (w.alloc (.cells #[.int .u16 from_, .slice A xs.length c] 25 (0, 0))).heap.size = w.heap.size + 1 by simp] at hV
  have HB := Aside0.mk hB
  have HP := Aside0.mk hP
  have HV := Aside0.mk hV
  have HL := Aside0.mk (laid_any from_ A xs.length c xs ((w.alloc (.cells #[.int .u16 from_, .slice A xs.length c] 25 (0, 0))).alloc (.cells #[.int .i64 tick, .int .u8 part] 32 (0, 0))) (Kd.C_below hC hB) hf hxs)
  have HC2 := Aside0.mk hC2
  clear hB hP hV hC hC2 hxs
  go_enter Try.func4, Try.ntmps4
  go_upto_region 1 with fail
  generalize (w.alloc (.cells #[.int .u16 from_, .slice A xs.length c] 25 (0, 0))).alloc (.cells #[.int .i64 tick, .int .u8 part] 32 (0, 0)) = W1 at *
  obtain ⟨V, hVV⟩ : ∃ X, w.heap.size + 1 = X := ⟨_, rfl⟩
  rw [hVV] at HV
  rw [hVV]
  clear hVV
  obtain ⟨P, hPP⟩ : ∃ P, w.heap.size = P := ⟨_, rfl⟩
  rw [hPP] at HP
  rw [hPP]
  clear hPP
  have p0 : W1.cell? ⟨P, 0, none⟩ = some (.int .u16 from_) := (blk_cell HP.out 0).trans rfl
  have p1 : W1.cell? ⟨P, 1, none⟩ = some (.slice A xs.length c) := (blk_cell HP.out 1).trans rfl
  go_upto_region 2 with (go_at_call 8; (with_reducible refine HL.out.mono ?_); rintro e w2 ⟨B, C, bv, he, hb, its, ht, hk, h80⟩; subst he; have H80 := Aside0.mk h80; have HB2 := Aside0.mk (HB.out.trans (hb.mono HB.out.size)); have HT2 := Aside0.mk ht; have HK2 := Aside0.mk hk; have HV2 := Aside0.mk (blk_below HV.out hb); clear hb ht hk h80)
  clear p0 p1 HL HP
  rcases H80.out with hbv | ⟨hbv, h80⟩
  · subst hbv
    go_wp2_with (go_at_call 9; (with_reducible refine (awake _).mono ?_); rintro e w3 ⟨rfl, hb⟩; have hb_ := HB2.out.trans (hb.mono HB2.out.size); clear HB2 hb; have HB2 := Aside0.mk hb_; clear hb_)
    go_ret
    exact ⟨rfl, HB2.out⟩
  · subst hbv
    clear H80
    by_cases h30 : (30 : Int) < (rs.length : Int)
    · go_wp2_with (go_at_call 9; (with_reducible refine (awake _).mono ?_); rintro e w3 ⟨rfl, hb⟩; have hb_ := HB2.out.trans (hb.mono HB2.out.size); clear HB2 hb; have HB2 := Aside0.mk hb_; clear hb_)
      go_ret
      exact ⟨rfl, HB2.out⟩
    · go_upto_region 4 with (go_at_call 9; (with_reducible refine (awake _).mono ?_); rintro e w3 ⟨rfl, hb⟩; have HB3 := Aside0.mk (HB2.out.trans (hb.mono HB2.out.size)); have HT3 := Aside0.mk (HT2.out.below hb); have HV3 := Aside0.mk (blk_below HV2.out hb); clear hb)
      clear HB2 HT2 HV2 HV HB
      go_wp2_with fail
      go_loopg [10] rs.length (fun kq v10 w' => ∃ k : Nat, v10 = .int .i64 (k : Int) ∧ Aside0 (kq + k = rs.length) ∧ Aside0 (Below w3.heap.size w3 w'))
      case atStart => exact ⟨0, rfl, ⟨rfl⟩, ⟨Below.refl _ _⟩⟩
      case round =>
        obtain ⟨k, rfl, HK, HR⟩ := hrel
        by_cases hi : (k : Int) < (rs.length : Int)
        · obtain ⟨ad, e, x0, x1, x2, x3, x4⟩ := at_T30 (Kd.C_below HC2.out (HB3.out.trans (HR.out.mono HB3.out.size))) (k : Int) (by omega) hi
          cases e
          simp only [Int.toNat_natCast] at x0 x1 x2 x3 x4
          have hi1 : (0 : Int) ≤ k := by omega
          have hi3 : k < rs.length := by omega
          generalize rd_T30 rs (k : Int) = y at *
          have v0 : wr.cell? ⟨V, 0, none⟩ = some (.int .i64 tick) := (blk_cell (blk_below HV3.out HR.out) 0).trans rfl
          have v1 : wr.cell? ⟨V, 1, none⟩ = some (.int .u8 part) := (blk_cell (blk_below HV3.out HR.out) 1).trans rfl
          have HH := Aside0.mk (((HK2.out.holds HT3.out).below HR.out).below (below_drew (Below.refl _ _)))
          go_upto_region 7 with fail
          go_region_held3 (fun w' => w'.cell? (ad.add (k * 5)) = some (.int .i64 y.f0) ∧ w'.cell? ⟨(ad.add (k * 5)).block, (ad.add (k * 5)).off + 1, none⟩ = some (.int .i64 y.f1.f0) ∧ w'.cell? ⟨(ad.add (k * 5)).block, (ad.add (k * 5)).off + 2, none⟩ = some (.int .i64 y.f1.f1) ∧ w'.cell? ⟨(ad.add (k * 5)).block, (ad.add (k * 5)).off + 3, none⟩ = some (.int .i64 y.f2.f0) ∧ w'.cell? ⟨(ad.add (k * 5)).block, (ad.add (k * 5)).off + 4, none⟩ = some (.int .i64 y.f2.f1) ∧ w'.cell? ⟨V, 0, none⟩ = some (.int .i64 tick) ∧ w'.cell? ⟨V, 1, none⟩ = some (.int .u8 part)) (first | (refine ⟨?_, ?_, ?_, ?_, ?_, ?_, ?_⟩ <;> assumption) | go_keep) (first | (go_at_call 11; (with_reducible refine (HH.out.shot y.f0 y.f1.f0 y.f1.f1 y.f2.f0 y.f2.f1 _ part hp).mono ?_); rintro e w4 ⟨he, hb⟩; subst he; have HR4 : Aside0 (Below w3.heap.size w3 w4) := ⟨(below_drew HR.out).trans (hb.mono HR.out.size)⟩; have hk4 := (Kept.refl wr (fun _ => False)).drew.below hb; have y0 := cell_kept x0 hk4 (fun h => h); have y1 := cell_kept x1 hk4 (fun h => h); have y2 := cell_kept x2 hk4 (fun h => h); have y3 := cell_kept x3 hk4 (fun h => h); have y4 := cell_kept x4 hk4 (fun h => h); have y5 := cell_kept v0 hk4 (fun h => h); have y6 := cell_kept v1 hk4 (fun h => h); clear hb hk4))
          go_wp2_with fail
          go_roundg (gk - 1)
          case measure => have := HK.out; omega
          case rel => exact ⟨k + 1, by simp, ⟨by have := HK.out; omega⟩, HR4⟩
        · have hi2 : (rs.length : Int) ≤ k := by omega
          have HB5 := Aside0.mk (HB3.out.trans (HR.out.mono HB3.out.size))
          have HT5 := Aside0.mk (HT3.out.below HR.out)
          clear HR HB3 HT3 HV3 HC2
          obtain ⟨_, _, F, G, hr, href, _, _⟩ := HT5.out
          have HRF := Aside0.mk href
          have HRG := Aside0.mk hr.1
          clear hr href
          go_upto_region 8 with fail
          go_upto_region 9 with (go_at_call 13; (with_reducible refine (ref_ends HRF.out).mono ?_); rintro e w6 ⟨he, hd⟩; subst he; have HB6 := Aside0.mk (HB5.out.trans (hd.below.mono HB5.out.size)); have HT6 := Aside0.mk (HT5.out.below hd.below); have HRF6 := Aside0.mk (HRF.out.below hd.below); clear hd)
          clear HB5 HT5 HRF
          go_wp2_with fail
          go_loopg [13] its.length (fun kq v13 w' => ∃ i : Nat, v13 = .int .i64 (i : Int) ∧ Aside0 (kq + i = its.length) ∧ Aside0 (Below w6.heap.size w6 w'))
          case atStart => exact ⟨0, rfl, ⟨rfl⟩, ⟨Below.refl _ _⟩⟩
          case round =>
            obtain ⟨i, rfl, HI, HS⟩ := hrel
            obtain ⟨_, _, _, v44, hC0, hq⟩ := HRF6.out.below HS.out
            obtain ⟨A5, c5, rfl, hl5, hC5⟩ := Kd.Q_reads hq
            have z0 : wr.cell? ⟨C, 0, none⟩ = some (.slice A5 its.length c5) := (blk_cell hC0 0).trans rfl
            have HC5 := Aside0.mk hC5
            clear hC0 hq hC5
            by_cases hj : (i : Int) < (its.length : Int)
            · obtain ⟨ae, A6, c6, e, hx0, hx1, hl1, hC1⟩ := at_T51 HC5.out (i : Int) (by omega) hj
              cases e
              simp only [Int.toNat_natCast] at hx0 hx1
              have HF := Aside0.mk (find_own HRG.out.2.1 (show i < its.length by omega))
              have HL6 : Aside0 ((rd_T51 its (i : Int)).f1.length ≤ 1000) := ⟨by
                have hm : rd_T51 its (i : Int) ∈ its := by
                  simp only [rd_T51, Int.toNat_natCast, List.getD_eq_getElem?_getD, List.getElem?_eq_getElem (show i < its.length by omega), Option.getD_some]
                  exact List.getElem_mem _
                have := HK2.out.1 _ hm
                omega⟩
              have HG := Aside0.mk (two_get (tick := (rd_T51 its (i : Int)).f0) (HT6.out.below HS.out) HK2.out.1)
              rw [HF.out] at HG
              generalize (rd_T51 its (i : Int)).f0 = t0 at *
              generalize (rd_T51 its (i : Int)).f1 = l0 at *
              have HC6 := Aside0.mk hC1
              clear hC1
              have hj1 : (0 : Int) ≤ i := by omega
              have hj3 : i < its.length := by omega
              go_upto_region 13 with (go_at_call 14; (with_reducible refine HG.out.mono ?_); rintro e w7 ⟨A7, c7, he, hb7, hC7, hl7, _⟩; simp only [Option.getD_some, Option.isSome_some] at he hC7; subst he; have HS7 := Aside0.mk (HS.out.trans (hb7.mono HS.out.size)); have HC7 := Aside0.mk (And.intro hC7 (Kd.C_below HC6.out hb7)); have hk7 := Kept.of_below hb7 (fun _ => False); have z7 := cell_kept z0 hk7 (fun h => h); have y0 := cell_kept hx0 hk7 (fun h => h); have y1 := cell_kept hx1 hk7 (fun h => h); clear hb7 hC7 hk7)
              go_wp2_with (go_at_call 15; (with_reducible refine (same_any A7 A6 c7 c6 l0 _ HC7.out.1 HC7.out.2 HL6.out).mono ?_); rintro e w8 ⟨he, hb8⟩; subst he; have HS8 := Aside0.mk (HS7.out.trans (hb8.mono HS7.out.size)); clear hb8)
              go_roundg (gk - 1)
              case measure => have := HI.out; omega
              case rel => exact ⟨i + 1, by simp, ⟨by have := HI.out; omega⟩, HS8⟩
            · have hj2 : (its.length : Int) ≤ i := by omega
              have HB7 := Aside0.mk (HB6.out.trans (HS.out.mono HB6.out.size))
              have HH := Aside0.mk (HK2.out.holds (HT6.out.below HS.out))
              clear HS
              go_wp2_with (first | (go_at_call 16; (with_reducible refine HH.out.first.mono ?_); rintro e w8 ⟨he, hd⟩; subst he; have HB8 := Aside0.mk (HB7.out.trans (hd.below.mono HB7.out.size)); have HH8 := Aside0.mk (HH.out.below hd.below); clear hd) | (go_at_call 17; (with_reducible refine HH8.out.last.mono ?_); rintro e w9 ⟨he, hd⟩; subst he; have HB9 := Aside0.mk (HB8.out.trans (hd.below.mono HB8.out.size)); clear hd))
              go_ret
              exact ⟨by simp, HB9.out⟩
end Go.Proofs.Ytcbmkhogmdkpdaa.Ring
