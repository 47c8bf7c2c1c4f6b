import Derived.Test.YtcbmkhogmdkpdaaRTwo
import Derived.Test.YtcbmkhogmdkpdaaRLive
set_option linter.unusedVariables false
set_option linter.unusedSimpArgs false
namespace Go.Proofs.Ytcbmkhogmdkpdaa.Ring
open Go.RowKit Go.ChangeMaps Go.Proofs.YtcbmkhogmdkpdaaW.PrintWords Go.Proofs.YtcbmkhogmdkpdaaW.PrintLast Go.Proofs.YtcbmkhogmdkpdaaW.PrintMore Go.Proofs.Ytcbmkhogmdkpdaa.PRewindNone Go.Proofs.Ytcbmkhogmdkpdaa.MapI
structure S76 where
  f0 : Int
  f1 : (List S67)
def z76 : S76 := ⟨(0 : Int), ([] : List S67)⟩
def k76 : Kd S76 := Kd.iso (Kd.pair (Kd.int .u8) (Kd.slice 67 k67)) (fun x : S76 => (x.f0, x.f1))
theorem k76_open {w : World} {x : S76} {cs : List Value} (h : k76.K w x cs) : ∃ A1 c1, cs = [.int .u8 x.f0, .slice A1 x.f1.length c1] ∧ x.f1.length ≤ c1 ∧ k67.C w A1 x.f1.length x.f1 := by
  obtain ⟨_, _, rfl, rfl, ⟨A1, c1, rfl, l1, g1⟩⟩ := h
  exact ⟨A1, c1, rfl, l1, g1⟩
theorem k76_mk (w : World) (x : S76) {A1 : Option Addr} {c1 : Nat} (l1 : x.f1.length ≤ c1) (g1 : k67.C w A1 x.f1.length x.f1) : k76.K w x [.int .u8 x.f0, .slice A1 x.f1.length c1] := ⟨[.int .u8 x.f0], [.slice A1 x.f1.length c1], rfl, rfl, ⟨A1, c1, rfl, l1, g1⟩⟩
def rd_T76 (xs : List S76) (i : Int) : S76 := xs.getD i.toNat z76
theorem at_T76 {w : World} {A : Option Addr} {n : Nat} {xs : List S76} (h : Kd.C k76 w A n xs) (i : Int) (h0 : 0 ≤ i) (h1 : i < n) : ∃ ad A1 c1, A = some ad ∧ w.cell? (ad.add (i.toNat * 2)) = some (.int .u8 (rd_T76 xs i).f0) ∧ w.cell? ⟨(ad.add (i.toNat * 2)).block, (ad.add (i.toNat * 2)).off + 1, none⟩ = some (.slice A1 (rd_T76 xs i).f1.length c1) ∧ (rd_T76 xs i).f1.length ≤ c1 ∧ k67.C w A1 (rd_T76 xs i).f1.length (rd_T76 xs i).f1 := by
  obtain ⟨ad, c, e, _, hK, hc0⟩ := Kd.C_get h z76 i h0 h1
  have hc : ∀ j u, c[j]? = some u → w.cell? (ad.add (i.toNat * 2 + j)) = some u := hc0
  obtain ⟨A1, c1, rfl, l1, g1⟩ := k76_open hK
  exact ⟨ad, A1, c1, e, hc 0 _ rfl, by rw [← add_field _ _ 1 (by omega)]; exact hc 1 _ rfl, l1, g1⟩
theorem fromto_start {w : World} {base : Nat} {Z : Nat → Prop} (hb : base ≤ w.heap.size) (hz : ∀ k, Z k → k < w.heap.size) : Two ((w.alloc (.cells #[.slice none 0 0, .map none] 72 (0, 0))).alloc (.cells #[.slice none 0 0] 46 (0, 0))) base w.heap.size (w.heap.size + 1) Z [] [] [] := by
  have e1 : (w.alloc (.cells #[.slice none 0 0, .map none] 72 (0, 0))).heap.size = w.heap.size + 1 := by simp
  have e2 : ((w.alloc (.cells #[.slice none 0 0, .map none] 72 (0, 0))).alloc (.cells #[.slice none 0 0] 46 (0, 0))).heap.size = w.heap.size + 2 := by simp
  have h1 : IsRing (w.alloc (.cells #[.slice none 0 0, .map none] 72 (0, 0))) base w.heap.size (fun k => k = w.heap.size) [] [] := new_ring w hb rfl
  have h2 : IsRef ((w.alloc (.cells #[.slice none 0 0, .map none] 72 (0, 0))).alloc (.cells #[.slice none 0 0] 46 (0, 0))) base (w.heap.size + 1) (fun k => k = w.heap.size + 1) [] := by
    have := new_ref (w.alloc (.cells #[.slice none 0 0, .map none] 72 (0, 0))) (base := base) (G := fun k => k = w.heap.size + 1) (by omega) e1
    rw [e1] at this
    exact this
  exact ⟨by omega, fun k hk => by have := hz k hk; omega, _, _, h1.below (below_alloc (Below.refl _ _) _), h2, fun k hk => ⟨by omega, by omega, by omega, fun h => by have := hz k h; omega⟩, fun k hk => ⟨by omega, by omega, fun h => by have := hz k h; omega⟩⟩
/-- What a ring keeps of a past. -/
def Kept76 (xs : List S76) (its : List S51) : Prop := (∀ x, x ∈ its → x.f1.length ≤ 30) ∧ (∀ t, t ∈ ticksOf its → t < 1099511627776) ∧ ∀ x, x ∈ its → x.f1 ∈ xs.map (·.f1)
theorem Kept76.nil (xs : List S76) : Kept76 xs [] := ⟨by simp, by simp [ticksOf], by simp⟩
theorem Kept76.next {xs : List S76} {its : List S51} (h : Kept76 xs its) {tick : Int} {l : List S67} (h1 : l.length ≤ 30) (h2 : tick < 1099511627776) (h3 : l ∈ xs.map (·.f1)) : Kept76 xs (nextI its ⟨tick, l⟩) := by
  unfold nextI
  split
  · refine ⟨fun x hx => ?_, fun t ht => ?_, fun x hx => ?_⟩
    · rcases push_mem hx with h' | rfl
      · exact h.1 x h'
      · exact h1
    · rw [ticks_push] at ht
      rcases push_mem ht with h' | rfl
      · exact h.2.1 t h'
      · exact h2
    · rcases push_mem hx with h' | rfl
      · exact h.2.2 x h'
      · exact h3
  · exact h
/-- What holds at each round's head. -/
def Laid (w : World) (P : Nat) (B C : Nat) (xs : List S76) (o : Obj) (w' : World) : Prop := Below w.heap.size w w' ∧ w'.heap[P]? = some o ∧ ∃ its, Two w' w.heap.size B C (fun k => k = P) (ticksOf its) (listsOf its) its ∧ Kept76 xs its
set_option maxHeartbeats 8000000 in
set_option maxRecDepth 100000 in
theorem laid_any (from_ : Int) (A : Option Addr) (n c : Nat) (xs : List S76) (w : World) (hC : Kd.C k76 w A n xs) (hf : 0 ≤ from_ ∧ from_ ≤ 65535) (hxs : ∀ x, x ∈ xs → 0 ≤ x.f0 ∧ x.f0 ≤ 255) :
    Calls Try.prog 8 #[.agg #[.int .u16 from_, .slice A n c]] w fun e w' => ∃ B C v, e = .returned (.tuple #[.pointer (some ⟨B, 0, none⟩), .pointer (some ⟨C, 0, none⟩), v]) ∧ Below w.heap.size w w' ∧ ∃ its, Two w' w.heap.size B C (fun _ => False) (ticksOf its) (listsOf its) its ∧ Kept76 xs its ∧ (v = .bool false ∨ (v = .bool true ∧ n ≤ 80)) := by
  have HXS := Aside0.mk hxs
  obtain rfl : xs.length = n := Kd.C_len hC
  have HC := Aside0.mk hC
  clear hxs hC
  have hT := fromto_start (w := w.alloc (.cells #[.int .u16 from_, .slice A xs.length c] 25 (0, 0))) (base := w.heap.size) (Z := fun k => k = w.heap.size) (by simp) (fun k hk => by subst hk; exact blk_lt (blk_new w _))
  have hP := blk_alloc (blk_alloc (blk_new w (.cells #[.int .u16 from_, .slice A xs.length c] 25 (0, 0))) (.cells #[.slice none 0 0, .map none] 72 (0, 0))) (.cells #[.slice none 0 0] 46 (0, 0))
  have hB := below_alloc (below_alloc (below_alloc (Below.refl w.heap.size w) (.cells #[.int .u16 from_, .slice A xs.length c] 25 (0, 0))) (.cells #[.slice none 0 0, .map none] 72 (0, 0))) (.cells #[.slice none 0 0] 46 (0, 0))
  rw [show (w.alloc (.cells #[.int .u16 from_, .slice A xs.length c] 25 (0, 0))).heap.size = w.heap.size + 1 by simp] at hT
  have HL : Aside0 (Laid w w.heap.size (w.heap.size + 1) (w.heap.size + 1 + 1) xs (.cells #[.int .u16 from_, .slice A xs.length c] 25 (0, 0)) (((w.alloc (.cells #[.int .u16 from_, .slice A xs.length c] 25 (0, 0))).alloc (.cells #[.slice none 0 0, .map none] 72 (0, 0))).alloc (.cells #[.slice none 0 0] 46 (0, 0)))) := ⟨hB, hP, [], hT, Kept76.nil xs⟩
  clear hT hP hB
  go_enter Try.func8, Try.ntmps8
  go_upto_region 2 with fail
  generalize ((w.alloc (.cells #[.int .u16 from_, .slice A xs.length c] 25 (0, 0))).alloc (.cells #[.slice none 0 0, .map none] 72 (0, 0))).alloc (.cells #[.slice none 0 0] 46 (0, 0)) = W1 at *
  obtain ⟨C, hCC⟩ : ∃ X, w.heap.size + 1 + 1 = X := ⟨_, rfl⟩
  rw [hCC] at HL
  rw [hCC]
  clear hCC
  obtain ⟨B, hBB⟩ : ∃ X, w.heap.size + 1 = X := ⟨_, rfl⟩
  rw [hBB] at HL
  rw [hBB]
  clear hBB
  obtain ⟨P, hPP⟩ : ∃ P, w.heap.size = P := ⟨_, rfl⟩
  have HPP := Aside0.mk hPP
  have HL2 : Aside0 (Laid w P B C xs (.cells #[.int .u16 from_, .slice A xs.length c] 25 (0, 0)) W1) := ⟨by rw [← hPP]; exact HL.out⟩
  rw [hPP]
  clear hPP HL
  have p0 : W1.cell? ⟨P, 0, none⟩ = some (.int .u16 from_) := (blk_cell HL2.out.2.1 0).trans rfl
  go_wp2_with fail
  clear p0
  go_loopg [7, 8] xs.length (fun kq v7 v8 w' => ∃ (k : Nat) (tick : Int), v7 = .int .i64 tick ∧ v8 = .int .i64 (k : Int) ∧ Aside0 (kq + k = xs.length ∧ (k : Int) ≤ 80 ∧ 0 ≤ tick ∧ tick ≤ 65535 + 2 * k) ∧ Aside0 (Laid w P B C xs (.cells #[.int .u16 from_, .slice A xs.length c] 25 (0, 0)) w'))
  case atStart => exact ⟨0, from_, rfl, rfl, ⟨by omega, by omega, by omega, by omega⟩, HL2⟩
  case round =>
    obtain ⟨k, tick, rfl, rfl, HK, HR⟩ := hrel
    clear HL2
    have p1 : wr.cell? ⟨P, 1, none⟩ = some (.slice A xs.length c) := (blk_cell HR.out.2.1 1).trans rfl
    by_cases hi : (k : Int) < (xs.length : Int)
    · by_cases h80 : (k : Int) < 80
      · obtain ⟨ad, A1, c1, e, hx0, hx1, hl1, hC1⟩ := at_T76 HC.out (k : Int) (by omega) hi
        cases e
        have hx00 := hx0
        have hx01 := hx1
        replace hx0 := cell_kept hx0 (Kept.of_below HR.out.1 (fun _ => False)) (fun h => h)
        replace hx1 := cell_kept hx1 (Kept.of_below HR.out.1 (fun _ => False)) (fun h => h)
        simp only [Int.toNat_natCast] at hx0 hx1 hx00 hx01
        have HM : Aside0 ((rd_T76 xs (k : Int)).f1 ∈ xs.map (·.f1) ∧ 0 ≤ (rd_T76 xs (k : Int)).f0 ∧ (rd_T76 xs (k : Int)).f0 ≤ 255) := ⟨by
          have hm : rd_T76 xs (k : Int) ∈ xs := by
            simp only [rd_T76, Int.toNat_natCast, List.getD_eq_getElem?_getD, List.getElem?_eq_getElem (show k < xs.length by omega), Option.getD_some]
            exact List.getElem_mem _
          exact ⟨List.mem_map_of_mem hm, HXS.out _ hm⟩⟩
        generalize (rd_T76 xs (k : Int)).f0 = s0 at *
        generalize (rd_T76 xs (k : Int)).f1 = l at *
        have HA := Aside0.mk hC1
        have HO := Aside0.mk (And.intro hx00 hx01)
        clear hC1 hx00 hx01
        have hi1 : (0 : Int) ≤ k := by omega
        have hi3 : k < xs.length := by omega
        by_cases h30 : (30 : Int) < (l.length : Int)
        · have HB := Aside0.mk HR.out.1
          obtain ⟨_, _, its, ht, hk⟩ := HR.out
          have HT := Aside0.mk (And.intro ht.bare hk)
          clear ht hk
          go_wp2_with fail
          refine bodyPost_ret (v := .tuple #[.pointer (some ⟨B, 0, none⟩), .pointer (some ⟨C, 0, none⟩), .bool false]) (by simp [results, Try.results8, go_sem]) rfl ⟨B, C, _, rfl, HB.out, its, HT.out.1, HT.out.2, .inl rfl⟩
        · have h30' : (l.length : Int) ≤ 30 := by omega
          go_upto_region 8 with fail
          obtain ⟨hbel, hPb, its, htwo, hkp⟩ := HR.out
          have HBL := Aside0.mk hbel
          have HPb := Aside0.mk hPb
          have HKP := Aside0.mk hkp
          have HT1 : Aside0 (Two wr.drew w.heap.size B C (fun j => j = P) (ticksOf its) (listsOf its) its) := ⟨htwo.below (below_drew (Below.refl _ _))⟩
          have HRI : Aside0 (Rising (ticksOf its)) := ⟨htwo.2.2.choose_spec.choose_spec.1.1⟩
          have HP1 := Aside0.mk (two_next (tick := tick) (v := .slice A1 l.length c1) (xs := l) HT1.out (fun W hW => came_C (Kd.C_kept_came heap67 HA.out (below_drew HBL.out) (fun _ h => h) W hW) (by omega)))
          clear hbel hPb htwo hkp HR
          go_cut [55] (fun v wx => v = .bool false ∧ Aside0 (Laid w P B C xs (.cells #[.int .u16 from_, .slice (some ad) xs.length c] 25 (0, 0)) wx))
          case first =>
            go_region_held3 (fun w' => w'.cell? ⟨P, 1, none⟩ = some (.slice (some ad) xs.length c) ∧ w'.cell? ⟨(ad.add (k * 2)).block, (ad.add (k * 2)).off + 1, none⟩ = some (.slice A1 l.length c1)) (first | go_keep | (refine ⟨?_, ?_⟩ <;> assumption)) (first | (go_at_call 24; (with_reducible refine HP1.out.mono ?_); rintro e w9 ⟨he, hb9, hz9, ht9⟩; subst he; have HB9 : Aside0 (Below w.heap.size w w9) := ⟨(below_drew HBL.out).trans hb9⟩; have HT9 := Aside0.mk ht9; have HP9 : Aside0 (w9.heap[P]? = some (.cells #[.int .u16 from_, .slice (some ad) xs.length c] 25 (0, 0))) := ⟨(hz9 P rfl).trans HPb.out⟩; have k1 : w9.cell? ⟨P, 1, none⟩ = some (.slice (some ad) xs.length c) := (blk_cell HP9.out 1).trans rfl; have k2 : w9.cell? ⟨(ad.add (k * 2)).block, (ad.add (k * 2)).off + 1, none⟩ = some (.slice A1 l.length c1) := cell_kept HO.out.2 (Kept.of_below HB9.out (fun _ => False)) (fun h => h); clear hb9 hz9 ht9) | (go_at_call 25; (with_reducible refine (two_vnext HT9.out HRI.out (Kd.C_below HA.out HB9.out) ?_).mono ?_); (· omega); rintro e w8 ⟨he, hb8, hz8, ht8⟩; subst he; have HB8 : Aside0 (Below w.heap.size w w8) := ⟨HB9.out.trans hb8⟩; have HT8 := Aside0.mk ht8; have HP8 : Aside0 (w8.heap[P]? = some (.cells #[.int .u16 from_, .slice (some ad) xs.length c] 25 (0, 0))) := ⟨(hz8 P rfl).trans HP9.out⟩; have k3 : w8.cell? ⟨P, 1, none⟩ = some (.slice (some ad) xs.length c) := (blk_cell HP8.out 1).trans rfl; have k4 : w8.cell? ⟨(ad.add (k * 2)).block, (ad.add (k * 2)).off + 1, none⟩ = some (.slice A1 l.length c1) := cell_kept HO.out.2 (Kept.of_below HB8.out (fun _ => False)) (fun h => h); clear hb8 hz8 ht8))
            go_wp2_with fail
            go_meet
            exact ⟨by simp, ⟨HB8.out, HP8.out, nextI its ⟨tick, l⟩, by rw [ticks_next, lists_next]; exact HT8.out, HKP.out.next (by omega) (by have := HK.out; show tick < 1099511627776; omega) HM.out.1⟩⟩
          case rest =>
            obtain ⟨rfl, HR⟩ := hcut
            clear HP1 HT1 hx0 hx1 p1
            go_upto_region 10 with fail
            have p1 := (blk_cell HR.out.2.1 1).trans (show _ = some (.slice (some ad) xs.length c) from rfl)
            have hx0 := cell_kept HO.out.1 (Kept.of_below HR.out.1 (fun _ => False)) (fun h => h)
            have hs0 := HM.out.2
            have hk0 := HK.out.2
            go_wp2_with fail
            go_roundg (gk - 1)
            case measure => have := HK.out; omega
            case rel => exact ⟨k + 1, tick + (1 + s0 % 2), rfl, by simp, ⟨by have := HK.out; omega, by omega, by omega, by simp; omega⟩, HR⟩
      · have hi2 : ¬ ((k : Int) < (xs.length : Int) ∧ (k : Int) < 80) := by omega
        obtain ⟨hbel, hPb, its, htwo, hkp⟩ := HR.out
        have HT := Aside0.mk (And.intro hbel (And.intro htwo.bare hkp))
        clear hbel hPb htwo hkp HR
        go_upto_region 11 with fail
        have h8 : Aside0 (Value.bool (decide ((xs.length : Int) ≤ 80)) = .bool false ∨ (Value.bool (decide ((xs.length : Int) ≤ 80)) = .bool true ∧ xs.length ≤ 80)) := ⟨by by_cases h : (xs.length : Int) ≤ 80; (· exact .inr ⟨by rw [decide_eq_true h], by omega⟩); (· exact .inl (by rw [decide_eq_false h]))⟩
        go_region_held3 (fun w' => w'.cell? ⟨P, 1, none⟩ = some (.slice A xs.length c)) (first | assumption | go_keep) (fail)
        all_goals
          go_wp2_with fail
          refine bodyPost_ret (v := .tuple #[.pointer (some ⟨B, 0, none⟩), .pointer (some ⟨C, 0, none⟩), .bool (decide ((xs.length : Int) ≤ 80))]) (by simp [results, Try.results8, go_sem]) rfl ⟨B, C, _, rfl, ?_, its, ?_, HT.out.2.2, h8.out⟩
          · first | exact below_drew HT.out.1 | exact HT.out.1
          · first | exact HT.out.2.1.below (below_drew (Below.refl _ _)) | exact HT.out.2.1
    · have hi2 : ¬ ((k : Int) < (xs.length : Int) ∧ (k : Int) < 80) := by omega
      obtain ⟨hbel, hPb, its, htwo, hkp⟩ := HR.out
      have HT := Aside0.mk (And.intro hbel (And.intro htwo.bare hkp))
      clear hbel hPb htwo hkp HR
      go_upto_region 11 with fail
      have h8 : Aside0 (Value.bool (decide ((xs.length : Int) ≤ 80)) = .bool false ∨ (Value.bool (decide ((xs.length : Int) ≤ 80)) = .bool true ∧ xs.length ≤ 80)) := ⟨by by_cases h : (xs.length : Int) ≤ 80; (· exact .inr ⟨by rw [decide_eq_true h], by omega⟩); (· exact .inl (by rw [decide_eq_false h]))⟩
      go_region_held3 (fun w' => w'.cell? ⟨P, 1, none⟩ = some (.slice A xs.length c)) (first | assumption | go_keep) (fail)
      all_goals
        go_wp2_with fail
        refine bodyPost_ret (v := .tuple #[.pointer (some ⟨B, 0, none⟩), .pointer (some ⟨C, 0, none⟩), .bool (decide ((xs.length : Int) ≤ 80))]) (by simp [results, Try.results8, go_sem]) rfl ⟨B, C, _, rfl, ?_, its, ?_, HT.out.2.2, h8.out⟩
        · first | exact below_drew HT.out.1 | exact HT.out.1
        · first | exact HT.out.2.1.below (below_drew (Below.refl _ _)) | exact HT.out.2.1
end Go.Proofs.Ytcbmkhogmdkpdaa.Ring
