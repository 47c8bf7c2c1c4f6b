import Derived.Test.YtcbmkhogmdkpdaaRView
set_option linter.unusedVariables false
set_option linter.unusedSimpArgs false
namespace Go.Proofs.Ytcbmkhogmdkpdaa.Ring
open Go.RowKit Go.ChangeMaps Go.Proofs.YtcbmkhogmdkpdaaW.PrintWords Go.Proofs.YtcbmkhogmdkpdaaW.PrintLast Go.Proofs.YtcbmkhogmdkpdaaW.PrintMore Go.Proofs.Ytcbmkhogmdkpdaa.PRewindNone Go.Proofs.Ytcbmkhogmdkpdaa.MapI Go.Proofs.Ytcbmkhogmdkpdaa.Plain Go.Proofs.Ytcbmkhogmdkpdaa.Pure
/-- Where an entity was, by a ring's lists. -/
def placeR (ts : List Int) (ls : List (List S67)) (view part id : Int) : Option (Int × Int) := placeF ((look (heldF ts view) ts ls).getD []) ((look (heldF ts view + 1) ts ls).getD []) (look (heldF ts view + 1) ts ls).isSome part id
set_option maxHeartbeats 1000000 in
theorem Holds.place {w : World} {r : Option Addr} {ts : List Int} {ls : List (List S67)} (h : Holds w r ts ls) (id view part : Int) (hp : 0 ≤ part ∧ part ≤ 255) : Calls Try.prog 20 #[.pointer r, .int .i64 id, .int .i64 view, .int .u8 part] w fun e w' => e = .returned (.tuple #[.agg #[.int .i64 ((placeR ts ls view part id).getD (0, 0)).1, .int .i64 ((placeR ts ls view part id).getD (0, 0)).2], .bool (placeR ts ls view part id).isSome]) ∧ Below w.heap.size w w' := by
  have HH := Aside0.mk h
  have hl1 := h.len (heldF ts view)
  have hl2 := h.len (heldF ts view + 1)
  have HB := Aside0.mk (below_alloc (Below.refl w.heap.size w) (.cells #[.int .i64 0, .int .i64 0] 28 (0, 0)))
  have HN := Aside0.mk (blk_new w (.cells #[.int .i64 0, .int .i64 0] 28 (0, 0)))
  clear h
  obtain ⟨o, ho⟩ : ∃ o, o = placeR ts ls view part id := ⟨_, rfl⟩
  rw [← ho]
  have HO := Aside0.mk ho
  clear ho
  go_enter Try.func20, Try.ntmps20
  go_upto_region 1 with fail
  obtain ⟨S, hS⟩ : ∃ S, w.heap.size = S := ⟨_, rfl⟩
  have HS := Aside0.mk hS
  rw [hS] at HN
  rw [hS]
  clear hS
  generalize w.alloc (.cells #[.int .i64 0, .int .i64 0] 28 (0, 0)) = W1 at *
  go_wp2_with (first | (go_at_call 29; (with_reducible refine ((HH.out.below HB.out).at_ view part).mono ?_); rintro e w2 ⟨A1, c1, A2, c2, he, hb, hC1, hC2⟩; subst he; have HN2 := Aside0.mk (blk_below HN.out hb); have HB2 := Aside0.mk (HB.out.trans (hb.mono HB.out.size)); have HC := Aside0.mk (And.intro hC1 hC2); clear hb hC1 hC2) | (go_at_call 30; (with_reducible refine (place_any A1 A2 c1 c2 _ _ _ part id _ HC.out.1 HC.out.2 hl1 hl2 hp).mono ?_); rintro e w3 ⟨he, hb⟩; (rw [show placeF ((look (heldF ts view) ts ls).getD []) ((look (heldF ts view + 1) ts ls).getD []) (look (heldF ts view + 1) ts ls).isSome part id = o from HO.out.symm] at he); subst he; have hN3 := blk_below HN2.out hb; have HN3 := Aside0.mk hN3; have HB3 := Aside0.mk (HB2.out.trans (hb.mono HB2.out.size)); have q0 : w3.cell? ⟨S, 0, none⟩ = some (.int .i64 0) := (blk_cell hN3 0).trans rfl; have q1 : w3.cell? ⟨S, 1, none⟩ = some (.int .i64 0) := (blk_cell hN3 1).trans rfl; have g0 : w3.frozen? ⟨S, 0, none⟩ = false := blk_frozen hN3 0; have g1 : w3.frozen? ⟨S, 1, none⟩ = false := blk_frozen hN3 1; clear hb hN3))
  refine bodyPost_ret (results_ct rfl _ _ S 28 #[.int .i64 (o.getD (0, 0)).1, .int .i64 (o.getD (0, 0)).2] (0, 0) _ rfl (put2 HN3.out _ _) Try.underlying28 rfl (by kernel_rfl)) rfl ?_
  exact ⟨rfl, low2 HB3.out (by have := HS.out; omega) _ _⟩
end Go.Proofs.Ytcbmkhogmdkpdaa.Ring
