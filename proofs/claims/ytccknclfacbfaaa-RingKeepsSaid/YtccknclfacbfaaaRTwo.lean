import Derived.Test.YtccknclfacbfaaaRRefGet
import Derived.Test.YtccknclfacbfaaaPRingPlaysx2
set_option linter.unusedVariables false
set_option linter.unusedSimpArgs false
namespace Go.Proofs.Ytccknclfacbfaaa.Ring
open Go.RowKit Go.ChangeMaps Go.Proofs.YtccknclfacbfaaaW.PrintWords Go.Proofs.YtccknclfacbfaaaW.PrintLast Go.Proofs.YtccknclfacbfaaaW.PrintMore Go.Proofs.Ytccknclfacbfaaa.PRingPlays Go.Proofs.Ytccknclfacbfaaa.MapI
theorem same_loop (l : List S27) (hl : l.length ≤ 1000) : ∀ (m x : Nat), x + m = l.length → ricochetref10_Same.l0 (m + 1) l l (x : Int) = some true
  | 0, x, h => by
    have e : ¬ (x : Int) < (l.length : Int) := by omega
    simp [ricochetref10_Same.l0, e]
  | m + 1, x, h => by
    have e : (x : Int) < (l.length : Int) := by omega
    have e0 : (0 : Int) ≤ x := by omega
    have ih := same_loop l hl m (x + 1) (by omega)
    have hw : wrap64 ((x : Int) + 1) = ((x + 1 : Nat) : Int) := by rw [wrap64_id' (by omega) (by omega)]; simp
    rw [ricochetref10_Same.l0]
    simp [e, e0]
    first | exact ih | (rw [hw]; exact ih) | trace_state
theorem same_eq (l : List S27) (hl : l.length ≤ 1000) : ∃ k, ricochetref10_Same.f k l l = some true := by
  refine ⟨l.length + 1, ?_⟩
  unfold ricochetref10_Same.f
  rw [if_pos rfl]
  exact same_loop l hl l.length 0 (by omega)
theorem R_bound' {w : World} {base : Nat} {F : Nat → Prop} {v : Value} {xs : List S27} (h : k27.R 27 w base F v xs) : k27.R 27 w base (fun k => F k ∧ k < w.heap.size) v xs := Kd.R_mono (Kd.R_bound h) fun k hk => ⟨hk.1, hk.2.2.1⟩
theorem IsRing.tight {w : World} {base B : Nat} {F : Nat → Prop} {ts : List Int} {ls : List (List S27)} (h : IsRing w base B F ts ls) : IsRing w base B (fun k => F k ∧ k < w.heap.size) ts ls := by
  obtain ⟨hr, hb, h0, ⟨M, tv, l, clock, h, e⟩ | ⟨e1, e2, tv, hB, hq⟩⟩ := h
  · exact ⟨hr, hb, ⟨h0, blk_lt h.hB⟩, .inl ⟨M, tv, l, clock, ⟨h.hB, h.hM, Kd.Q_mono (Kd.Q_bound h.hq) fun k hk => ⟨hk.1, hk.2.2.1⟩, h.hl.imp fun _ _ hx => R_bound' hx, h.bB, ⟨h.fB, blk_lt h.hB⟩, h.bM, ⟨h.fM, blk_lt h.hM⟩⟩, e⟩⟩
  · exact ⟨hr, hb, ⟨h0, blk_lt hB⟩, .inr ⟨e1, e2, tv, hB, Kd.Q_mono (Kd.Q_bound hq) fun k hk => ⟨hk.1, hk.2.2.1⟩⟩⟩
theorem ticks_push (its : List S56) (x : S56) : ticksOf (push its x) = push (ticksOf its) x.f0 := by
  unfold ticksOf push
  rw [List.length_map]
  split <;> simp
theorem lists_push (its : List S56) (x : S56) : listsOf (push its x) = push (listsOf its) x.f1 := by
  unfold listsOf push
  rw [List.length_map]
  split <;> simp
/-- Both rings, apart: r's at block B (ticks, lists), the reference's at block C; Z: blocks beside them. -/
def Two (w : World) (base B C : Nat) (Z : Nat → Prop) (ts : List Int) (ls : List (List S27)) (its : List S56) : Prop :=
  base ≤ w.heap.size ∧ (∀ k, Z k → k < w.heap.size) ∧ ∃ F G : Nat → Prop, IsRing w base B F ts ls ∧ IsRef w base C G its ∧ (∀ k, F k → base ≤ k ∧ k < w.heap.size ∧ ¬ G k ∧ ¬ Z k) ∧ ∀ k, G k → base ≤ k ∧ k < w.heap.size ∧ ¬ Z k
section
variable {w W : World} {base B C : Nat} {Z : Nat → Prop} {ts : List Int} {ls : List (List S27)} {its : List S56}
theorem Two.below (h : Two w base B C Z ts ls its) (hb : Below w.heap.size w W) : Two W base B C Z ts ls its := by
  obtain ⟨h0, hz, F, G, hr, hf, h1, h2⟩ := h
  have hs := hb.size
  exact ⟨by omega, fun k hk => by have := hz k hk; omega, F, G, hr.below hb, hf.below hb, fun k hk => by have := h1 k hk; exact ⟨this.1, by omega, this.2.2⟩, fun k hk => by have := h2 k hk; exact ⟨this.1, by omega, this.2.2⟩⟩
/-- What is made new lies beside the rings. -/
theorem Two.made (h : Two w base B C Z ts ls its) (o : Obj) : Two (w.alloc o) base B C (fun k => k = w.heap.size) ts ls its := by
  obtain ⟨h0, hz, F, G, hr, hf, h1, h2⟩ := h
  have hb : Below w.heap.size w (w.alloc o) := below_alloc (Below.refl _ _) o
  have hs := hb.size
  have hs1 : w.heap.size < (w.alloc o).heap.size := blk_lt (blk_new w o)
  exact ⟨by omega, fun k hk => by omega, F, G, hr.below hb, hf.below hb, fun k hk => by have := h1 k hk; exact ⟨this.1, by omega, this.2.2.1, by omega⟩, fun k hk => by have := h2 k hk; exact ⟨this.1, by omega, by omega⟩⟩
theorem Two.bare (h : Two w base B C Z ts ls its) : Two w base B C (fun _ => False) ts ls its := by
  obtain ⟨h0, hz, F, G, hr, hf, h1, h2⟩ := h
  exact ⟨h0, fun k hk => hk.elim, F, G, hr, hf, fun k hk => ⟨(h1 k hk).1, (h1 k hk).2.1, (h1 k hk).2.2.1, fun h => h⟩, fun k hk => ⟨(h2 k hk).1, (h2 k hk).2.1, fun h => h⟩⟩
theorem two_put {tick : Int} {v : Value} {xs : List S27} (h : Two w base B C Z ts ls its) (hlt : lastOf ts < tick) (hv : ∀ W, Kept w W (fun k => base ≤ k) → Came W v xs) :
    Calls Try.prog 8 #[.pointer (some ⟨B, 0, none⟩), .int .i64 tick, v] w fun e w' => e = .returned (.int .i64 0) ∧ Below base w w' ∧ (∀ k, Z k → w'.heap[k]? = w.heap[k]?) ∧ Two w' base B C Z (push ts tick) (push ls xs) its := by
  obtain ⟨h0, hz, F, G, hr, hf, h1, h2⟩ := h
  refine (put_any (hr.foot (F' := fun k => F k ∨ w.heap.size ≤ k) (fun k hk => .inl hk)) (fun k hk => .inr hk) h0 hlt (fun W hW => hv W (hW.mono fun k hk => ?_))).mono fun e w' ⟨he, hb, hk, hr'⟩ => ?_
  · rcases hk with hk | hk
    · exact (h1 k hk).1
    · omega
  · have hs := hb.size
    have hne : ∀ k, G k ∨ Z k → ¬ (F k ∨ w.heap.size ≤ k) := by
      rintro k (hg | hg) (hf' | hf')
      · exact (h1 k hf').2.2.1 hg
      · have := (h2 k hg).2.1; omega
      · exact (h1 k hf').2.2.2 hg
      · have := hz k hg; omega
    refine ⟨he, hb, fun k hk' => hk.2 k (hz k hk') (hne k (.inr hk')), by omega, fun k hk' => by have := hz k hk'; omega, _, G, hr'.tight, hf.kept hk (fun k hg => hne k (.inl hg)), ?_, fun k hg => by have := h2 k hg; exact ⟨this.1, by omega, this.2.2⟩⟩
    rintro k ⟨hk', hlt'⟩
    refine ⟨?_, hlt', fun hg => hne k (.inl hg) hk', fun hg => hne k (.inr hg) hk'⟩
    rcases hk' with hk' | hk'
    · exact (h1 k hk').1
    · omega
theorem two_vput {tick : Int} {A : Option Addr} {c : Nat} {l : List S27} (h : Two w base B C Z ts ls its) (hrise : Rising (ticksOf its)) (hlt : lastOf (ticksOf its) < tick) (hC : Kd.C k27 w A l.length l) (hl : l.length ≤ 1000) :
    Calls Try.prog 10 #[.pointer (some ⟨C, 0, none⟩), .int .i64 tick, .slice A l.length c] w fun e w' => e = .returned (.int .i64 0) ∧ Below base w w' ∧ (∀ k, Z k → w'.heap[k]? = w.heap[k]?) ∧ Two w' base B C Z ts ls (push its ⟨tick, l⟩) := by
  obtain ⟨h0, hz, F, G, hr, hf, h1, h2⟩ := h
  refine (ref_put (hf.foot (G' := fun k => G k ∨ w.heap.size ≤ k) (fun k hk => .inl hk)) hrise (fun k hk => .inr hk) h0 hlt hC hl).mono fun e w' ⟨he, hb, hk, hf'⟩ => ?_
  have hs := hb.size
  have hne : ∀ k, F k ∨ Z k → ¬ (G k ∨ w.heap.size ≤ k) := by
    rintro k (hg | hg) (hf' | hf')
    · exact (h1 k hg).2.2.1 hf'
    · have := (h1 k hg).2.1; omega
    · exact (h2 k hf').2.2 hg
    · have := hz k hg; omega
  refine ⟨he, hb, fun k hk' => hk.2 k (hz k hk') (hne k (.inr hk')), by omega, fun k hk' => by have := hz k hk'; omega, F, _, hr.kept hk (fun k hg => hne k (.inl hg)), hf'.tight, fun k hg => ?_, ?_⟩
  · have := h1 k hg
    exact ⟨this.1, by omega, fun hx => hne k (.inl hg) hx.1, this.2.2.2⟩
  · rintro k ⟨hk', hlt'⟩
    refine ⟨?_, hlt', fun hg => hne k (.inr hg) hk'⟩
    rcases hk' with hk' | hk'
    · exact (h2 k hk').1
    · omega
theorem two_clear (h : Two w base B C Z ts ls its) :
    Calls Try.prog 13 #[.pointer (some ⟨B, 0, none⟩)] w fun e w' => e = .returned (.tuple #[]) ∧ Below base w w' ∧ Two w' base B C Z [] [] its := by
  obtain ⟨h0, hz, F, G, hr, hf, h1, h2⟩ := h
  refine (clear_any hr).mono fun e w' ⟨he, hb, hk, hr'⟩ => ?_
  have hs := hb.size
  exact ⟨he, hb, by omega, fun k hk' => by have := hz k hk'; omega, F, G, hr', hf.kept hk (fun k hg hf' => (h1 k hf').2.2.1 hg), fun k hk => by have := h1 k hk; exact ⟨this.1, by omega, this.2.2⟩, fun k hk => by have := h2 k hk; exact ⟨this.1, by omega, this.2.2⟩⟩
/-- A new reference's ring beside r's. -/
theorem Two.new (h : Two w base B C Z ts ls its) : Two (w.alloc (.cells #[.slice none 0 0] 44 (0, 0))) base B w.heap.size (fun _ => False) ts ls [] := by
  obtain ⟨h0, hz, F, G, hr, hf, h1, h2⟩ := h
  have hb : Below w.heap.size w (w.alloc (.cells #[.slice none 0 0] 44 (0, 0))) := below_alloc (Below.refl _ _) _
  have hs := hb.size
  have hs1 : w.heap.size < (w.alloc (.cells #[.slice none 0 0] 44 (0, 0))).heap.size := blk_lt (blk_new w _)
  exact ⟨by omega, fun k hk => hk.elim, F, fun k => k = w.heap.size, hr.below hb, new_ref w h0 rfl, fun k hk => by have := h1 k hk; exact ⟨this.1, by omega, by omega, fun h => h⟩, fun k hk => ⟨by omega, by omega, fun h => h⟩⟩
end
end Go.Proofs.Ytccknclfacbfaaa.Ring
