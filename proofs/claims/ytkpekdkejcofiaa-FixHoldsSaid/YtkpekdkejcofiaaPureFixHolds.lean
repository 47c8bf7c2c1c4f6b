/- The law 'FixHolds' returns true for all two numbers: its walk over the contracts of what it calls; without conditions. -/
import Derived.Test.YtkpekdkejcofiaaPureFixReckons
import Derived.Test.YtkpekdkejcofiaaPureFixDivides
import Derived.Test.YtkpekdkejcofiaaPureFixRises
set_option linter.unusedVariables false
set_option linter.unusedSimpArgs false
namespace Go.Proofs.Ytkpekdkejcofiaa.PFixHolds
open Go.RowKit Go.Proofs.YtkpekdkejcofiaaW.PrintWords Go.Proofs.YtkpekdkejcofiaaW.PrintLast Go.Proofs.YtkpekdkejcofiaaW.PrintMore Go.Proofs.Ytkpekdkejcofiaa.Plain
theorem adds (a b : Int) : ∃ r, PFixReckons.fix_Add.f a b = some r ∧ PFixReckons.fix_Add.f b a = some r ∧ PFixDivides.ricochetlaw01_in.f r = some true := by
  have h := hold_bd (hold a + hold b)
  exact ⟨_, Pure.FixReckonsAid.zAdd a b, by rw [Pure.FixReckonsAid.zAdd, Int.add_comm], Pure.FixDividesAid.zin h.1 h.2⟩
theorem subs (a b : Int) : ∃ r, PFixReckons.fix_Sub.f a b = some r ∧ PFixDivides.ricochetlaw01_in.f r = some true := by
  have h := hold_bd (hold a - hold b)
  exact ⟨_, Pure.FixReckonsAid.zSub a b, Pure.FixDividesAid.zin h.1 h.2⟩
theorem muls (a b : Int) : ∃ r, PFixReckons.fix_Mul.f a b = some r ∧ PFixReckons.fix_Mul.f b a = some r ∧ PFixDivides.ricochetlaw01_in.f r = some true := by
  have h := hold_bd (hold a * hold b / 65536)
  exact ⟨_, Pure.FixReckonsAid.zMul a b, by rw [Pure.FixReckonsAid.zMul, Int.mul_comm], Pure.FixDividesAid.zin h.1 h.2⟩
theorem divs (a b : Int) : ∃ r, PFixReckons.fix_Div.f 2 a b = some r ∧ PFixDivides.ricochetlaw01_in.f r = some true := by
  have h := dvn_bd (hold a) (hold b)
  exact ⟨_, Pure.FixReckonsAid.zDiv a b 0, Pure.FixDividesAid.zin h.1 h.2⟩
theorem roots (a : Int) : ∃ r, PFixRises.fix_Sqrt.f 27 a = some r ∧ PFixDivides.ricochetlaw01_in.f r = some true := by
  obtain ⟨s, hs, S, hb⟩ := Pure.FixRisesAid.zSqrt a 0
  have := S.1
  exact ⟨s, hs, Pure.FixDividesAid.zin (by omega) (by omega)⟩
theorem holds (a : Int) : ∃ r, PFixReckons.fix_Hold.f a = some r ∧ PFixDivides.ricochetlaw01_in.f r = some true := by
  have h := hold_bd a
  exact ⟨_, Pure.FixReckonsAid.zHold a, Pure.FixDividesAid.zin h.1 h.2⟩
set_option maxHeartbeats 8000000 in
set_option maxRecDepth 100000 in
theorem ricochetlaw01_FixHolds.calls (a b : Int) (w : World) :
    Calls Try.prog 10 #[.int .i64 a, .int .i64 b] w fun e w' => e = .returned (.bool true) ∧ Below w.heap.size w w' := by
  have HB := Aside0.mk (Below.refl w.heap.size w)
  obtain ⟨r1, A1, A2, A3⟩ := adds a b
  obtain ⟨r2, A4, A5⟩ := subs a b
  obtain ⟨r3, A6, A7, A8⟩ := muls a b
  obtain ⟨r4, A9, A10⟩ := divs a b
  obtain ⟨r5, A11, A12⟩ := roots a
  obtain ⟨r6, A13, A14⟩ := holds a
  have B1 := Aside0.mk A1
  have B2 := Aside0.mk A2
  have B3 := Aside0.mk A3
  have B4 := Aside0.mk A4
  have B5 := Aside0.mk A5
  have B6 := Aside0.mk A6
  have B7 := Aside0.mk A7
  have B8 := Aside0.mk A8
  have B9 := Aside0.mk A9
  have B10 := Aside0.mk A10
  have B11 := Aside0.mk A11
  have B12 := Aside0.mk A12
  have B13 := Aside0.mk A13
  have B14 := Aside0.mk A14
  clear A1 A2 A3 A4 A5 A6 A7 A8 A9 A10 A11 A12 A13 A14
  have c1 : (r1 == r1) = true := beq_self_eq_true r1
  have c2 : (r3 == r3) = true := beq_self_eq_true r3
  go_enter Try.func10, Try.ntmps10
  go_wp2_with (first
    | ((with_reducible refine gate_callee (f := 13) rfl ?_); refine goesL_ (some 5) rfl rfl Try.func13 (by kernel_rfl) rfl #[] rfl (by (try simp only [List.map_toArray, List.map_cons, List.map_nil]); first | done | rfl) ?_; (with_reducible refine (PFixReckons.ricochetlaw01_awake.calls true _ Pure.FixReckonsAid.zawake).mono ?_); rintro e w28 ⟨rfl, hb⟩; refine ⟨_, rfl, ?_⟩; have n0_ := Aside0.mk (below_step (by repeat (first | (with_reducible first | exact HB.out | apply below_alloc | apply pw_below_drewN | apply below_drew1) | exact HB.out)) hb); clear HB; have HB := n0_; clear n0_; (try clear hb))
    | (go_at_call 15; (with_reducible refine (PFixReckons.fix_Add.calls a b r1 _ B1.out).mono ?_); rintro e w29 ⟨rfl, hb⟩; have n0_ := Aside0.mk (below_step (by repeat (first | (with_reducible first | exact HB.out | apply below_alloc | apply pw_below_drewN | apply below_drew1) | exact HB.out)) hb); clear HB; have HB := n0_; clear n0_; (try clear hb))
    | (go_at_call 15; (with_reducible refine (PFixReckons.fix_Add.calls b a r1 _ B2.out).mono ?_); rintro e w29 ⟨rfl, hb⟩; have n0_ := Aside0.mk (below_step (by repeat (first | (with_reducible first | exact HB.out | apply below_alloc | apply pw_below_drewN | apply below_drew1) | exact HB.out)) hb); clear HB; have HB := n0_; clear n0_; (try clear hb))
    | (go_at_call 25; (with_reducible refine (PFixDivides.ricochetlaw01_in.calls r1 true _ B3.out).mono ?_); rintro e w' ⟨rfl, ⟨nd, rfl⟩⟩)
    | (go_at_call 18; (with_reducible refine (PFixReckons.fix_Sub.calls a b r2 _ B4.out).mono ?_); rintro e w30 ⟨rfl, hb⟩; have n0_ := Aside0.mk (below_step (by repeat (first | (with_reducible first | exact HB.out | apply below_alloc | apply pw_below_drewN | apply below_drew1) | exact HB.out)) hb); clear HB; have HB := n0_; clear n0_; (try clear hb))
    | (go_at_call 25; (with_reducible refine (PFixDivides.ricochetlaw01_in.calls r2 true _ B5.out).mono ?_); rintro e w' ⟨rfl, ⟨nd, rfl⟩⟩)
    | (go_at_call 16; (with_reducible refine (PFixReckons.fix_Mul.calls a b r3 _ B6.out).mono ?_); rintro e w31 ⟨rfl, hb⟩; have n0_ := Aside0.mk (below_step (by repeat (first | (with_reducible first | exact HB.out | apply below_alloc | apply pw_below_drewN | apply below_drew1) | exact HB.out)) hb); clear HB; have HB := n0_; clear n0_; (try clear hb))
    | (go_at_call 16; (with_reducible refine (PFixReckons.fix_Mul.calls b a r3 _ B7.out).mono ?_); rintro e w31 ⟨rfl, hb⟩; have n0_ := Aside0.mk (below_step (by repeat (first | (with_reducible first | exact HB.out | apply below_alloc | apply pw_below_drewN | apply below_drew1) | exact HB.out)) hb); clear HB; have HB := n0_; clear n0_; (try clear hb))
    | (go_at_call 25; (with_reducible refine (PFixDivides.ricochetlaw01_in.calls r3 true _ B8.out).mono ?_); rintro e w' ⟨rfl, ⟨nd, rfl⟩⟩)
    | (go_at_call 26; (with_reducible refine (PFixReckons.fix_Div.calls 2 a b r4 _ B9.out).mono ?_); rintro e w32 ⟨rfl, hb⟩; have n0_ := Aside0.mk (below_step (by repeat (first | (with_reducible first | exact HB.out | apply below_alloc | apply pw_below_drewN | apply below_drew1) | exact HB.out)) hb); clear HB; have HB := n0_; clear n0_; (try clear hb))
    | (go_at_call 25; (with_reducible refine (PFixDivides.ricochetlaw01_in.calls r4 true _ B10.out).mono ?_); rintro e w' ⟨rfl, ⟨nd, rfl⟩⟩)
    | (go_at_call 19; (with_reducible refine (PFixRises.fix_Sqrt.calls 27 a r5 _ B11.out).mono ?_); rintro e w33 ⟨rfl, hb⟩; have n0_ := Aside0.mk (below_step (by repeat (first | (with_reducible first | exact HB.out | apply below_alloc | apply pw_below_drewN | apply below_drew1) | exact HB.out)) hb); clear HB; have HB := n0_; clear n0_; (try clear hb))
    | (go_at_call 25; (with_reducible refine (PFixDivides.ricochetlaw01_in.calls r5 true _ B12.out).mono ?_); rintro e w' ⟨rfl, ⟨nd, rfl⟩⟩)
    | (go_at_call 11; (with_reducible refine (PFixReckons.fix_Hold.calls a r6 _ B13.out).mono ?_); rintro e w34 ⟨rfl, hb⟩; have n0_ := Aside0.mk (below_step (by repeat (first | (with_reducible first | exact HB.out | apply below_alloc | apply pw_below_drewN | apply below_drew1) | exact HB.out)) hb); clear HB; have HB := n0_; clear n0_; (try clear hb))
    | (go_at_call 25; (with_reducible refine (PFixDivides.ricochetlaw01_in.calls r6 true _ B14.out).mono ?_); rintro e w' ⟨rfl, ⟨nd, rfl⟩⟩))
  go_ret
  exact ⟨by first | rfl | simp, by repeat (first | (with_reducible first | exact HB.out | apply below_alloc | apply pw_below_drewN | apply below_drew1) | exact HB.out)⟩
end Go.Proofs.Ytkpekdkejcofiaa.PFixHolds
namespace Go.Proofs.Ytkpekdkejcofiaa.Pure
theorem FixHolds : True := trivial
end Go.Proofs.Ytkpekdkejcofiaa.Pure
