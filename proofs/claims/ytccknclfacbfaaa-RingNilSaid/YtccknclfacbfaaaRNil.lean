import Derived.Test.YtccknclfacbfaaaRAll
set_option linter.unusedVariables false
set_option linter.unusedSimpArgs false
namespace Go.Proofs.Ytccknclfacbfaaa.Ring
open Go.RowKit Go.ChangeMaps Go.Proofs.YtccknclfacbfaaaW.PrintWords Go.Proofs.YtccknclfacbfaaaW.PrintLast Go.Proofs.YtccknclfacbfaaaW.PrintMore Go.Proofs.Ytccknclfacbfaaa.PRingPlays Go.Proofs.Ytccknclfacbfaaa.MapI
theorem nil_walk (tick : Int) (A : Option Addr) (n c : Nat) (w : World) : Calls Try.prog 5 #[.int .i64 tick, .slice A n c] w fun e w' => e = .returned (.bool true) ∧ Below w.heap.size w w' := by
  have HB : Aside0 (Below w.heap.size w w) := ⟨Below.refl _ _⟩
  go_enter Try.func5, Try.ntmps5
  go_wp2_with (first | (go_at_call 7; (with_reducible refine (awake _).mono ?_); rintro e w1 ⟨rfl, hb⟩; replace HB := Aside0.mk (HB.out.trans (hb.mono HB.out.size)); clear hb) | (go_at_call 13; (with_reducible refine (clear_none _).mono ?_); rintro e w1 ⟨rfl, hb⟩; replace HB := Aside0.mk (HB.out.trans (hb.below.mono HB.out.size)); clear hb) | (go_at_call 9; (with_reducible refine (get_none _ _).mono ?_); rintro e w1 ⟨rfl, hb⟩; replace HB := Aside0.mk (HB.out.trans (hb.below.mono HB.out.size)); clear hb) | (go_at_call 8; (with_reducible refine (put_none _ _ _).mono ?_); rintro e w1 ⟨rfl, hb⟩; replace HB := Aside0.mk (HB.out.trans (hb.below.mono HB.out.size)); clear hb) | (go_at_call 15; (with_reducible refine (first_nil _).mono ?_); rintro e w1 ⟨rfl, hb⟩; replace HB := Aside0.mk (HB.out.trans (hb.below.mono HB.out.size)); clear hb) | (go_at_call 16; (with_reducible refine (last_nil _).mono ?_); rintro e w1 ⟨rfl, hb⟩; replace HB := Aside0.mk (HB.out.trans (hb.below.mono HB.out.size)); clear hb))
  all_goals go_ret
  all_goals exact ⟨rfl, HB.out⟩
end Go.Proofs.Ytccknclfacbfaaa.Ring
