import Derived.Test.YtcbmkhogmdkpdaaRRef
set_option linter.unusedVariables false
set_option linter.unusedSimpArgs false
namespace Go.Proofs.Ytcbmkhogmdkpdaa.Ring
open Go.RowKit Go.ChangeMaps Go.Proofs.YtcbmkhogmdkpdaaW.PrintWords Go.Proofs.YtcbmkhogmdkpdaaW.PrintLast Go.Proofs.YtcbmkhogmdkpdaaW.PrintMore Go.Proofs.Ytcbmkhogmdkpdaa.PRewindNone Go.Proofs.Ytcbmkhogmdkpdaa.MapI
theorem ne44 : ∀ q, q ∈ 51 :: k51.E → q ≠ 46 := by
  have hE : k51.E = [67] := rfl
  rw [hE]
  decide
theorem own_at {w w1 : World} {base C : Nat} {G : Nat → Prop} {v u : Value} {its : List S51} (hq : k51.Q 51 w base G v its) (hC : w.heap[C]? = some (.cells #[u] 46 (0, 0))) (hg : w.grownBy w1 v.ownBlock) : w1.heap[C]? = some (.cells #[u] 46 (0, 0)) :=
  blk_grown hC hg (Kd.Q_ne hq hC (by decide))
set_option maxHeartbeats 4000000 in
set_option maxRecDepth 100000 in
theorem ref_put {w : World} {base C : Nat} {G : Nat → Prop} {its : List S51} {tick : Int} (h : IsRef w base C G its) (hr : Rising (ticksOf its)) (hfresh : ∀ k, w.heap.size ≤ k → G k) (hbase : base ≤ w.heap.size) (hlt : lastOf (ticksOf its) < tick)
    {A : Option Addr} {c : Nat} {l : List S67} (hC : Kd.C k67 w A l.length l) (hb : l.length ≤ 1000) :
    Calls Try.prog 25 #[.pointer (some ⟨C, 0, none⟩), .int .i64 tick, .slice A l.length c] w fun e w' => e = .returned (.int .i64 0) ∧ Below base w w' ∧ Kept w w' G ∧ IsRef w' base C G (push its ⟨tick, l⟩) := by
  have hneg : ¬ tick < 0 := by have := last_ge hr; omega
  have hle : ¬ tick ≤ lastOf (ticksOf its) := by omega
  have b0 : decide (tick < 0) = false := decide_eq_false hneg
  have b2 : decide (tick ≤ lastOf (ticksOf its)) = false := decide_eq_false hle
  have H0 := Aside0.mk h
  have HC := Aside0.mk hC
  have HF := Aside0.mk hfresh
  obtain ⟨h64, hbC, hGC, v, hB, hq⟩ := h
  clear hC hfresh hneg hle
  go_enter Try.func25, Try.ntmps25
  go_upto_region 1 with fail
  go_cut [34] from 8 (fun b wx => b = .bool false ∧ ∃ n, wx = w.drewN n)
  case first =>
    by_cases hp : 0 < its.length
    · obtain ⟨g, o, c, rfl, h0, h1⟩ := tick_cells hq hp
      have c0 : w.cell? ⟨C, 0, none⟩ = some (.slice (some ⟨g, o, none⟩) its.length c) := (blk_cell hB 0).trans rfl
      have hn2 : (0 : Int) < (its.length : Int) := by omega
      have hw : IntKind.i64.wrap ((its.length : Int) - 1) = (its.length : Int) - 1 := by simp [IntKind.wrap, IntKind.bits, IntKind.signed]; omega
      have hw2 : (IntKind.i64.wrap ((its.length : Int) - 1)).toNat = its.length - 1 := by rw [hw]; omega
      have hw3 : 0 ≤ IntKind.i64.wrap ((its.length : Int) - 1) := by rw [hw]; omega
      have hw4 : IntKind.i64.wrap ((its.length : Int) - 1) < its.length := by rw [hw]; omega
      have hw5 : ((its.length : Int) - 1).toNat = its.length - 1 := by omega
      have hw6 : (0 : Int) ≤ (its.length : Int) - 1 := by omega
      have hw7 : (its.length : Int) - 1 < its.length := by omega
      have b1 : decide ((0 : Int) < (its.length : Int)) = true := decide_eq_true hn2
      clear hB hq hlt hn2
      go_quiet (fail)
      go_wp2_with fail
      go_meet
      exact ⟨rfl, _, rfl⟩
    · obtain rfl : its = [] := List.length_eq_zero_iff.1 (by omega)
      obtain ⟨A, c, rfl, _⟩ := Kd.Q_slice hq
      have c0 : w.cell? ⟨C, 0, none⟩ = some (.slice A 0 c) := (blk_cell hB 0).trans rfl
      clear hB hq hlt
      go_quiet (fail)
      go_wp2_with fail
      go_meet
      exact ⟨rfl, _, rfl⟩
  case rest =>
    obtain ⟨rfl, n, rfl⟩ := hcut
    have H1 := Aside0.mk (H0.out.below (pw_below_drewN (Below.refl _ _) n))
    have HC1 := Aside0.mk (Kd.C_below HC.out (pw_below_drewN (Below.refl _ _) n))
    have HF1 : Aside0 (∀ k, (w.drewN n).heap.size ≤ k → G k) := ⟨HF.out⟩
    have HB1 : Aside0 (Below base w (w.drewN n)) := ⟨pw_below_drewN (Below.refl _ _) n⟩
    have HK1 : Aside0 (Kept w (w.drewN n) G) := ⟨(Kept.refl w G).drewN n⟩
    have HS1 : Aside0 (base ≤ (w.drewN n).heap.size) := ⟨hbase⟩
    clear hB hq H0 HC
    generalize w.drewN n = w1 at *
    obtain ⟨_, _, _, v1, hB1, hq1⟩ := H1.out
    obtain ⟨A1, c1, rfl, hlc1⟩ := Kd.Q_slice hq1
    have HO := Aside0.mk (Kd.R_nil k67 67 w1 w1.heap.size (fun k => w1.heap.size ≤ k))
    have HQ1 := Aside0.mk hq1
    have HBB := Aside0.mk hB1
    clear hq1 hB1
    go_upto_region 5 with (at_builtin; refine Kd.R_append_rows k67 (Rr := k67.K w1) (w0 := w1) w1.heap.size rfl _ _ 47 67 _ 64 rfl Try.underlying47 info67 rfl (by decide) (by decide) (.slice none 0 0) [] l A l.length c (fun k => w1.heap.size ≤ k) (fun _ => False) rfl rfl HO.out HC1.out (fun x cs h => KM67 _ _ _ x cs h) (fun _ h => h.elim) (fun k hk => hk) (Below.refl _ _) (Nat.le_refl _) (by simp; omega) ?_; intro v2 w2 h1 h2 h3 h4; clear h3 h4; have G1 := Aside0.mk h1; have G2 := Aside0.mk h2; clear h1 h2)
    obtain ⟨A2, c2, e2⟩ := Kd.R_slice G1.out
    rw [List.nil_append] at e2 G1
    subst e2
    have HBC := Aside0.mk (blk_below HBB.out G2.out)
    have HQ2 := Aside0.mk (Kd.Q_below HQ1.out G2.out)
    have HF2 : Aside0 (∀ k, w2.heap.size ≤ k → G k) := ⟨fun k hk => HF1.out k (Nat.le_trans G2.out.size hk)⟩
    have HB2 : Aside0 (Below base w w2) := ⟨HB1.out.trans (G2.out.mono HS1.out)⟩
    have HK2 : Aside0 (Kept w w2 G) := ⟨HK1.out.below G2.out⟩
    have HS2 : Aside0 (base ≤ w2.heap.size) := ⟨Nat.le_trans HS1.out G2.out.size⟩
    have HM2 : Aside0 (k51.M w2 base (fun k => w1.heap.size ≤ k) ⟨tick, l⟩ [.int .i64 tick, .slice A2 l.length c2]) := ⟨k51_mkM w2 base _ ⟨tick, l⟩ (Kd.R_lower G1.out HS1.out)⟩
    have HN2 : Aside0 (∀ k, w1.heap.size ≤ k → G k ∧ some k ≠ (Value.slice A1 its.length c1).ownBlock) := ⟨fun k hk => ⟨HF1.out k hk, fun he => by have := Kd.Q_lt HQ1.out k he.symm; omega⟩⟩
    have c0 : w2.cell? ⟨C, 0, none⟩ = some (.slice A1 its.length c1) := (blk_cell HBC.out 0).trans rfl
    clear HC1 HK1 HB1 HF1 G1 G2 HO HBB HQ1 H1 HS1
    have hlen : (its ++ [(⟨tick, l⟩ : S51)]).length = its.length + 1 := by simp
    go_upto_region 6 with (at_builtin; refine Kd.Q_append k51 (w0 := w) base rfl _ _ 44 51 (.agg #[.int .i64 0, .slice none 0 0]) 32 rfl Try.underlying44 info51 rfl (by decide) (by decide) (.slice A1 its.length c1) its ⟨tick, l⟩ [.int .i64 tick, .slice A2 l.length c2] G (fun k => w1.heap.size ≤ k) rfl rfl HM2.out HN2.out HF2.out HQ2.out HB2.out HS2.out (by omega) ?_; intro v3 w3 h1 h2 h3 h4; obtain ⟨A3, c3, e3, hlc3⟩ := Kd.Q_slice h1; rw [hlen] at e3 hlc3; subst e3; have HC3 : Aside0 (w3.heap[C]? = some (.cells #[.slice A1 its.length c1] 46 (0, 0))) := ⟨own_at HQ2.out HBC.out h3⟩; have e0 : w3.cell? ⟨C, 0, none⟩ = some (.slice A1 its.length c1) := (blk_cell HC3.out 0).trans rfl; have f0 : w3.frozen? ⟨C, 0, none⟩ = false := blk_frozen HC3.out 0; have HQ3 := Aside0.mk h1; have HB3 := Aside0.mk h2; have HK3 : Aside0 (Kept w w3 G) := ⟨Kept.of_grown h3 HK2.out (fun k hk => .inl (Kd.Q_ok HQ2.out k hk))⟩; clear h1 h2 h3 h4)
    have HC4 : Aside0 ((w3.setCell ⟨C, 0, none⟩ (.slice A3 (its.length + 1) c3)).heap[C]? = some (.cells #[.slice A3 (its.length + 1) c3] 46 (0, 0))) := ⟨(blk_set HC3.out 0 _).trans rfl⟩
    have HQ4 : Aside0 (k51.Q 51 (w3.setCell ⟨C, 0, none⟩ (.slice A3 (its.length + 1) c3)) base G (.slice A3 (its.length + 1) c3) (its ++ [⟨tick, l⟩])) := ⟨Kd.Q_set HQ3.out HC3.out ne44 0 _⟩
    have HB4 : Aside0 (Below base w (w3.setCell ⟨C, 0, none⟩ (.slice A3 (its.length + 1) c3))) := ⟨HB3.out.setCell hbC _⟩
    have HK4 : Aside0 (Kept w (w3.setCell ⟨C, 0, none⟩ (.slice A3 (its.length + 1) c3)) G) := ⟨HK3.out.setCell (.inl hGC) _⟩
    clear e0 f0 HC3 HQ3 HB3 HK3 HN2 HM2 HS2 HK2 HB2 HF2 HQ2 HBC c0 HF
    generalize w3.setCell ⟨C, 0, none⟩ (.slice A3 (its.length + 1) c3) = w4 at *
    have c0 : w4.cell? ⟨C, 0, none⟩ = some (.slice A3 (its.length + 1) c3) := (blk_cell HC4.out 0).trans rfl
    have f0 : w4.frozen? ⟨C, 0, none⟩ = false := blk_frozen HC4.out 0
    by_cases h6 : its.length < 64
    · have h6a : ((its.length : Int) + 1 ≤ 64) := by omega
      go_wp2
      go_ret
      refine ⟨rfl, HB4.out, HK4.out, ?_⟩
      rw [push, if_pos h6]
      exact ⟨by simp; omega, hbC, hGC, _, HC4.out, HQ4.out⟩
    · have h6a : (64 : Int) < (its.length : Int) + 1 := by omega
      have hc3 : ¬ c3 = 1 := by omega
      have HQ5 : Aside0 (k51.Q 51 w4 base G (.slice (A3.map (·.add (1 * 2))) its.length (c3 - 1)) ((its ++ [(⟨tick, l⟩ : S51)]).drop 1)) := ⟨by
        have h := Kd.Q_drop (k := 1) HQ4.out (by simp)
        rw [if_neg hc3] at h
        exact h⟩
      have hcut := cut_from 44 51 .i64 Try.underlying44 (info_parts info51).choose_spec.1 2 (info_parts info51).choose_spec.2.2.1 A3 (its.length + 1) c3 1 (by omega) (by omega)
      obtain ⟨A5, hA5⟩ : ∃ A5, A5 = A3.map (·.add (1 * 2)) := ⟨_, rfl⟩
      rw [show (1 : Int).toNat = 1 from rfl, if_neg hc3, ← hA5, show its.length + 1 - 1 = its.length by omega] at hcut
      rw [← hA5] at HQ5
      clear hA5
      go_wp2
      go_ret
      refine ⟨rfl, HB4.out.setCell hbC _, HK4.out.setCell (.inl hGC) _, ?_⟩
      rw [push, if_neg h6]
      exact ⟨by simp; omega, hbC, hGC, _, (blk_set HC4.out 0 _).trans rfl, Kd.Q_set HQ5.out HC4.out ne44 0 _⟩
end Go.Proofs.Ytcbmkhogmdkpdaa.Ring
