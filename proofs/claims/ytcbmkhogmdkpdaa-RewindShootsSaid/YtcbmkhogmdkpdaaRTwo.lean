import Derived.Test.YtcbmkhogmdkpdaaRRefGet
set_option linter.unusedVariables false
set_option linter.unusedSimpArgs false
namespace Go.Proofs.Ytcbmkhogmdkpdaa.Ring
open Go.RowKit Go.ChangeMaps Go.Proofs.YtcbmkhogmdkpdaaW.PrintWords Go.Proofs.YtcbmkhogmdkpdaaW.PrintLast Go.Proofs.YtcbmkhogmdkpdaaW.PrintMore Go.Proofs.Ytcbmkhogmdkpdaa.PRewindNone Go.Proofs.Ytcbmkhogmdkpdaa.MapI
theorem R_bound' {w : World} {base : Nat} {F : Nat → Prop} {v : Value} {xs : List S67} (h : k67.R 67 w base F v xs) : k67.R 67 w base (fun k => F k ∧ k < w.heap.size) v xs := Kd.R_mono (Kd.R_bound h) fun k hk => ⟨hk.1, hk.2.2.1⟩
theorem IsRing.tight {w : World} {base B : Nat} {F : Nat → Prop} {ts : List Int} {ls : List (List S67)} (h : IsRing w base B F ts ls) : IsRing w base B (fun k => F k ∧ k < w.heap.size) ts ls := by
  obtain ⟨hr, hb, h0, ⟨M, tv, l, clock, h, e⟩ | ⟨e1, e2, tv, hB, hq⟩⟩ := h
  · exact ⟨hr, hb, ⟨h0, blk_lt h.hB⟩, .inl ⟨M, tv, l, clock, ⟨h.hB, h.hM, Kd.Q_mono (Kd.Q_bound h.hq) fun k hk => ⟨hk.1, hk.2.2.1⟩, h.hl.imp fun _ _ hx => R_bound' hx, h.bB, ⟨h.fB, blk_lt h.hB⟩, h.bM, ⟨h.fM, blk_lt h.hM⟩⟩, e⟩⟩
  · exact ⟨hr, hb, ⟨h0, blk_lt hB⟩, .inr ⟨e1, e2, tv, hB, Kd.Q_mono (Kd.Q_bound hq) fun k hk => ⟨hk.1, hk.2.2.1⟩⟩⟩
theorem ticks_push (its : List S51) (x : S51) : ticksOf (push its x) = push (ticksOf its) x.f0 := by
  unfold ticksOf push
  rw [List.length_map]
  split <;> simp
theorem lists_push (its : List S51) (x : S51) : listsOf (push its x) = push (listsOf its) x.f1 := by
  unfold listsOf push
  rw [List.length_map]
  split <;> simp
/-- Both rings, apart: r's at block B (ticks, lists), the reference's at block C; Z: blocks beside them. -/
def Two (w : World) (base B C : Nat) (Z : Nat → Prop) (ts : List Int) (ls : List (List S67)) (its : List S51) : Prop :=
  base ≤ w.heap.size ∧ (∀ k, Z k → k < w.heap.size) ∧ ∃ F G : Nat → Prop, IsRing w base B F ts ls ∧ IsRef w base C G its ∧ (∀ k, F k → base ≤ k ∧ k < w.heap.size ∧ ¬ G k ∧ ¬ Z k) ∧ ∀ k, G k → base ≤ k ∧ k < w.heap.size ∧ ¬ Z k
section
variable {w W : World} {base B C : Nat} {Z : Nat → Prop} {ts : List Int} {ls : List (List S67)} {its : List S51}
theorem Two.below (h : Two w base B C Z ts ls its) (hb : Below w.heap.size w W) : Two W base B C Z ts ls its := by
  obtain ⟨h0, hz, F, G, hr, hf, h1, h2⟩ := h
  have hs := hb.size
  exact ⟨by omega, fun k hk => by have := hz k hk; omega, F, G, hr.below hb, hf.below hb, fun k hk => by have := h1 k hk; exact ⟨this.1, by omega, this.2.2⟩, fun k hk => by have := h2 k hk; exact ⟨this.1, by omega, this.2.2⟩⟩
theorem Two.bare (h : Two w base B C Z ts ls its) : Two w base B C (fun _ => False) ts ls its := by
  obtain ⟨h0, hz, F, G, hr, hf, h1, h2⟩ := h
  exact ⟨h0, fun k hk => hk.elim, F, G, hr, hf, fun k hk => ⟨(h1 k hk).1, (h1 k hk).2.1, (h1 k hk).2.2.1, fun h => h⟩, fun k hk => ⟨(h2 k hk).1, (h2 k hk).2.1, fun h => h⟩⟩
theorem two_put {tick : Int} {v : Value} {xs : List S67} (h : Two w base B C Z ts ls its) (hlt : lastOf ts < tick) (hv : ∀ W, Kept w W (fun k => base ≤ k) → Came W v xs) :
    Calls Try.prog 24 #[.pointer (some ⟨B, 0, none⟩), .int .i64 tick, v] w fun e w' => e = .returned (.int .i64 0) ∧ Below base w w' ∧ (∀ k, Z k → w'.heap[k]? = w.heap[k]?) ∧ Two w' base B C Z (push ts tick) (push ls xs) its := by
  obtain ⟨h0, hz, F, G, hr, hf, h1, h2⟩ := h
  refine (put_any (hr.foot (F' := fun k => F k ∨ w.heap.size ≤ k) (fun k hk => .inl hk)) (fun k hk => .inr hk) h0 hlt (fun W hW => hv W (hW.mono fun k hk => ?_))).mono fun e w' ⟨he, hb, hk, hr'⟩ => ?_
  · rcases hk with hk | hk
    · exact (h1 k hk).1
    · omega
  · have hs := hb.size
    have hne : ∀ k, G k ∨ Z k → ¬ (F k ∨ w.heap.size ≤ k) := by
      rintro k (hg | hg) (hf' | hf')
      · exact (h1 k hf').2.2.1 hg
      · have := (h2 k hg).2.1; omega
      · exact (h1 k hf').2.2.2 hg
      · have := hz k hg; omega
    refine ⟨he, hb, fun k hk' => hk.2 k (hz k hk') (hne k (.inr hk')), by omega, fun k hk' => by have := hz k hk'; omega, _, G, hr'.tight, hf.kept hk (fun k hg => hne k (.inl hg)), ?_, fun k hg => by have := h2 k hg; exact ⟨this.1, by omega, this.2.2⟩⟩
    rintro k ⟨hk', hlt'⟩
    refine ⟨?_, hlt', fun hg => hne k (.inl hg) hk', fun hg => hne k (.inr hg) hk'⟩
    rcases hk' with hk' | hk'
    · exact (h1 k hk').1
    · omega
theorem two_vput {tick : Int} {A : Option Addr} {c : Nat} {l : List S67} (h : Two w base B C Z ts ls its) (hrise : Rising (ticksOf its)) (hlt : lastOf (ticksOf its) < tick) (hC : Kd.C k67 w A l.length l) (hl : l.length ≤ 1000) :
    Calls Try.prog 25 #[.pointer (some ⟨C, 0, none⟩), .int .i64 tick, .slice A l.length c] w fun e w' => e = .returned (.int .i64 0) ∧ Below base w w' ∧ (∀ k, Z k → w'.heap[k]? = w.heap[k]?) ∧ Two w' base B C Z ts ls (push its ⟨tick, l⟩) := by
  obtain ⟨h0, hz, F, G, hr, hf, h1, h2⟩ := h
  refine (ref_put (hf.foot (G' := fun k => G k ∨ w.heap.size ≤ k) (fun k hk => .inl hk)) hrise (fun k hk => .inr hk) h0 hlt hC hl).mono fun e w' ⟨he, hb, hk, hf'⟩ => ?_
  have hs := hb.size
  have hne : ∀ k, F k ∨ Z k → ¬ (G k ∨ w.heap.size ≤ k) := by
    rintro k (hg | hg) (hf' | hf')
    · exact (h1 k hg).2.2.1 hf'
    · have := (h1 k hg).2.1; omega
    · exact (h2 k hf').2.2 hg
    · have := hz k hg; omega
  refine ⟨he, hb, fun k hk' => hk.2 k (hz k hk') (hne k (.inr hk')), by omega, fun k hk' => by have := hz k hk'; omega, F, _, hr.kept hk (fun k hg => hne k (.inl hg)), hf'.tight, fun k hg => ?_, ?_⟩
  · have := h1 k hg
    exact ⟨this.1, by omega, fun hx => hne k (.inl hg) hx.1, this.2.2.2⟩
  · rintro k ⟨hk', hlt'⟩
    refine ⟨?_, hlt', fun hg => hne k (.inr hg) hk'⟩
    rcases hk' with hk' | hk'
    · exact (h2 k hk').1
    · omega
end
/-- What a Put answers, and what is kept behind it. -/
def code (ts : List Int) (tick : Int) : Int := if lastOf ts < tick then 0 else 8
def nextT (ts : List Int) (tick : Int) : List Int := if lastOf ts < tick then push ts tick else ts
def nextL (ts : List Int) (tick : Int) (ls : List (List S67)) (xs : List S67) : List (List S67) := if lastOf ts < tick then push ls xs else ls
def nextI (its : List S51) (x : S51) : List S51 := if lastOf (ticksOf its) < x.f0 then push its x else its
theorem ticks_next (its : List S51) (x : S51) : ticksOf (nextI its x) = nextT (ticksOf its) x.f0 := by
  unfold nextI nextT
  split
  · exact ticks_push its x
  · rfl
theorem lists_next (its : List S51) (x : S51) : listsOf (nextI its x) = nextL (ticksOf its) x.f0 (listsOf its) x.f1 := by
  unfold nextI nextL
  split
  · exact lists_push its x
  · rfl
section
variable {w W : World} {base B C : Nat} {Z : Nat → Prop} {ts : List Int} {ls : List (List S67)} {its : List S51}
theorem two_next {tick : Int} {v : Value} {xs : List S67} (h : Two w base B C Z ts ls its) (hv : ∀ W, Kept w W (fun k => base ≤ k) → Came W v xs) :
    Calls Try.prog 24 #[.pointer (some ⟨B, 0, none⟩), .int .i64 tick, v] w fun e w' => e = .returned (.int .i64 (code ts tick)) ∧ Below base w w' ∧ (∀ k, Z k → w'.heap[k]? = w.heap[k]?) ∧ Two w' base B C Z (nextT ts tick) (nextL ts tick ls xs) its := by
  unfold code nextT nextL
  by_cases hlt : lastOf ts < tick
  · rw [if_pos hlt, if_pos hlt, if_pos hlt]
    exact two_put h hlt hv
  · rw [if_neg hlt, if_neg hlt, if_neg hlt]
    have hr := h.2.2.choose_spec.choose_spec.1
    exact (put_old hr (by omega) v).mono fun e w' ⟨he, hd⟩ => ⟨he, hd.below.mono h.1, fun k hk => hd.below.block k (h.2.1 k hk), h.below hd.below⟩
theorem two_vnext {tick : Int} {A : Option Addr} {c : Nat} {l : List S67} (h : Two w base B C Z ts ls its) (hrise : Rising (ticksOf its)) (hC : Kd.C k67 w A l.length l) (hl : l.length ≤ 1000) :
    Calls Try.prog 25 #[.pointer (some ⟨C, 0, none⟩), .int .i64 tick, .slice A l.length c] w fun e w' => e = .returned (.int .i64 (code (ticksOf its) tick)) ∧ Below base w w' ∧ (∀ k, Z k → w'.heap[k]? = w.heap[k]?) ∧ Two w' base B C Z ts ls (nextI its ⟨tick, l⟩) := by
  unfold code nextI
  by_cases hlt : lastOf (ticksOf its) < tick
  · rw [if_pos hlt, if_pos hlt]
    exact two_vput h hrise hlt hC hl
  · rw [if_neg hlt, if_neg hlt]
    have hr := h.2.2.choose_spec.choose_spec.2.1
    exact (ref_old hr hrise (by omega) _).mono fun e w' ⟨he, hd⟩ => ⟨he, hd.below.mono h.1, fun k hk => hd.below.block k (h.2.1 k hk), h.below hd.below⟩
end
theorem find_mem {k : Int} {l : List S67} : ∀ {its : List S51}, find k its = some l → ∃ x, x ∈ its ∧ x.f1 = l
  | [], h => by simp [find] at h
  | x :: its, h => by
    unfold find at h
    split at h
    · exact ⟨x, by simp, by simpa using h⟩
    · obtain ⟨y, hy, e⟩ := find_mem h
      exact ⟨y, by simp [hy], e⟩
theorem two_vget {w : World} {base B C : Nat} {Z : Nat → Prop} {ts : List Int} {ls : List (List S67)} {its : List S51} {tick : Int} (h : Two w base B C Z ts ls its) :
    Calls Try.prog 31 #[.pointer (some ⟨C, 0, none⟩), .int .i64 tick] w fun e w' => ∃ A c, e = .returned (.tuple #[.slice A ((find tick its).getD []).length c, .bool (find tick its).isSome]) ∧ w' = w ∧ Kd.C k67 w A ((find tick its).getD []).length ((find tick its).getD []) ∧ ((find tick its).getD []).length ≤ c := by
  have hr := h.2.2.choose_spec.choose_spec.2.1
  refine (ref_get (tick := tick) hr).mono fun e w' ⟨A, n, c, he, hw, hC, hn⟩ => ?_
  obtain rfl := Kd.C_len hC
  exact ⟨A, c, he, hw, hC, hn⟩
theorem HasTicks.below {w W : World} {base B : Nat} {F : Nat → Prop} {ts : List Int} (h : HasTicks w base B F ts) (hb : Below w.heap.size w W) : HasTicks W base B F ts := by
  obtain ⟨hl, tv, mv, hB, hq⟩ := h
  exact ⟨hl, tv, mv, blk_below hB hb, Kd.Q_below hq hb⟩
end Go.Proofs.Ytcbmkhogmdkpdaa.Ring
