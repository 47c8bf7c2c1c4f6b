import Derived.Test.YtcbmkhogmdkpdaaRPut
set_option linter.unusedVariables false
set_option linter.unusedSimpArgs false
namespace Go.Proofs.Ytcbmkhogmdkpdaa.Ring
open Go.RowKit Go.ChangeMaps Go.Proofs.YtcbmkhogmdkpdaaW.PrintWords Go.Proofs.YtcbmkhogmdkpdaaW.PrintLast Go.Proofs.YtcbmkhogmdkpdaaW.PrintMore Go.Proofs.Ytcbmkhogmdkpdaa.PRewindNone Go.Proofs.Ytcbmkhogmdkpdaa.MapI
/-- Ticks that rise, none below 0, at most 64. -/
def Rising (ts : List Int) : Prop := ts.length ≤ 64 ∧ ts.Pairwise (· < ·) ∧ ∀ t, t ∈ ts → 0 ≤ t
/-- The ring at block B keeps these lists under these ticks; all its blocks are F's. -/
def IsRing (w : World) (base B : Nat) (F : Nat → Prop) (ts : List Int) (ls : List (List S67)) : Prop :=
  Rising ts ∧ base ≤ B ∧ F B ∧ ((∃ M, RingM w base B M F ts ls) ∨ (ts = [] ∧ ls = [] ∧ ∃ tv, w.heap[B]? = some (.cells #[tv, .map none] 72 (0, 0)) ∧ (Kd.int .i64).Q 3 w base F tv []))
section
variable {w W : World} {base B : Nat} {F F' : Nat → Prop} {ts : List Int} {ls : List (List S67)}
theorem IsRing.ticks (h : IsRing w base B F ts ls) : HasTicks w base B F ts := by
  obtain ⟨hr, _, _, ⟨M, tv, l, clock, h, _⟩ | ⟨rfl, _, tv, hB, hq⟩⟩ := h
  · exact ⟨hr.1, _, _, h.hB, h.hq⟩
  · exact ⟨hr.1, _, _, hB, hq⟩
theorem IsRing.move (h : IsRing w base B F ts ls) (hk : ∀ k, F k → k < w.heap.size → W.heap[k]? = w.heap[k]?) : IsRing W base B F ts ls := by
  obtain ⟨hr, hb, hf, ⟨M, tv, l, clock, h, e⟩ | ⟨e1, e2, tv, hB, hq⟩⟩ := h
  · exact ⟨hr, hb, hf, .inl ⟨M, tv, l, clock, h.move hk, e⟩⟩
  · exact ⟨hr, hb, hf, .inr ⟨e1, e2, tv, (hk B hf (blk_lt hB)).trans hB, Kd.Q_step hq hk⟩⟩
theorem IsRing.below (h : IsRing w base B F ts ls) (hb : Below w.heap.size w W) : IsRing W base B F ts ls := h.move fun k _ hlt => hb.block k hlt
theorem IsRing.kept {S : Nat → Prop} (h : IsRing w base B F ts ls) (hk : Kept w W S) (hne : ∀ k, F k → ¬ S k) : IsRing W base B F ts ls := h.move fun k hf hlt => hk.2 k hlt (hne k hf)
theorem IsRing.foot (h : IsRing w base B F ts ls) (hf : ∀ k, F k → F' k) : IsRing w base B F' ts ls := by
  obtain ⟨hr, hb, h0, ⟨M, tv, l, clock, h, e⟩ | ⟨e1, e2, tv, hB, hq⟩⟩ := h
  · exact ⟨hr, hb, hf _ h0, .inl ⟨M, tv, l, clock, h.foot hf, e⟩⟩
  · exact ⟨hr, hb, hf _ h0, .inr ⟨e1, e2, tv, hB, Kd.Q_mono hq hf⟩⟩
end
theorem le_last {ts : List Int} (h : ts.Pairwise (· < ·)) : ∀ t, t ∈ ts → t ≤ lastOf ts := by
  intro t ht
  unfold lastOf
  cases hl : ts.getLast? with
  | none => simp [List.getLast?_eq_none_iff] at hl; subst hl; simp at ht
  | some y =>
    obtain ⟨ys, rfl⟩ := List.getLast?_eq_some_iff.1 hl
    simp only [Option.getD_some]
    rcases List.mem_append.1 ht with h1 | h1
    · exact Int.le_of_lt ((List.pairwise_append.1 h).2.2 t h1 y (by simp))
    · simp at h1; omega
theorem first_le {ts : List Int} (h : ts.Pairwise (· < ·)) : ∀ t, t ∈ ts → firstOf ts ≤ t := by
  intro t ht
  cases ts with
  | nil => simp at ht
  | cons x l =>
    show x ≤ t
    rcases List.mem_cons.1 ht with h1 | h1
    · omega
    · exact Int.le_of_lt ((List.pairwise_cons.1 h).1 t h1)
theorem last_mem {ts : List Int} (h : ts ≠ []) : lastOf ts ∈ ts := by
  unfold lastOf
  rw [List.getLast?_eq_some_getLast h]
  exact List.getLast_mem h
theorem last_ge {ts : List Int} (h : Rising ts) : -1 ≤ lastOf ts := by
  by_cases e : ts = []
  · subst e; exact Int.le_refl _
  · have := h.2.2 _ (last_mem e); omega
theorem Rising.push {ts : List Int} (h : Rising ts) {tick : Int} (hlt : lastOf ts < tick) : Rising (push ts tick) := by
  have hp : (ts ++ [tick]).Pairwise (· < ·) := by
    refine List.pairwise_append.2 ⟨h.2.1, by simp, fun a ha b hb => ?_⟩
    have := le_last h.2.1 a ha
    simp at hb
    omega
  have h0 : ∀ t, t ∈ ts ++ [tick] → 0 ≤ t := by
    intro t ht
    rcases List.mem_append.1 ht with h1 | h1
    · exact h.2.2 t h1
    · simp at h1
      have := last_ge h
      omega
  unfold Ring.push
  split
  · exact ⟨by simp; omega, hp, h0⟩
  · exact ⟨by have := h.1; simp; omega, hp.sublist (List.drop_sublist _ _), fun t ht => h0 t (List.mem_of_mem_drop ht)⟩
theorem seek_none {k : Int} : ∀ (l : List (Int × Value × Nat)) (i : Nat), (∀ x, x ∈ l → x.1 ≠ k) → seek k l i = none
  | [], _, _ => rfl
  | x :: l, i, h => by
    unfold seek
    rw [if_neg (fun e => h x (by simp) e.symm)]
    exact seek_none l (i + 1) fun y hy => h y (by simp [hy])
/-- The list under a tick. -/
def look (k : Int) : List Int → List (List S67) → Option (List S67)
  | t :: ts, x :: ls => if k = t then some x else look k ts ls
  | _, _ => none
theorem seek_look {w : World} {base : Nat} {F : Nat → Prop} {k : Int} : ∀ {l : List (Int × Value × Nat)} {ls : List (List S67)} (i : Nat), Both (fun (x : Int × Value × Nat) xs => k67.R 67 w base F x.2.1 xs) l ls →
    (seek k l i = none ∧ look k (l.map (·.1)) ls = none) ∨ ∃ j v xs, seek k l i = some (j, v) ∧ look k (l.map (·.1)) ls = some xs ∧ k67.R 67 w base F v xs
  | [], [], _, _ => .inl ⟨rfl, rfl⟩
  | x :: l, y :: ls, i, h => by
    unfold seek
    simp only [List.map_cons, look]
    by_cases e : k = x.1
    · rw [if_pos e, if_pos e]
      exact .inr ⟨_, _, _, rfl, rfl, h.1⟩
    · rw [if_neg e, if_neg e]
      exact seek_look (i + 1) h.2
  | [], _ :: _, _, h => h.elim
  | _ :: _, [], _, h => h.elim
theorem came_of_R {w : World} {base : Nat} {F : Nat → Prop} {v : Value} {xs : List S67} (h : k67.R 67 w base F v xs) (hl : xs.length ≤ 1000) : Came w v xs := by
  obtain ⟨A, c, rfl, _, hC⟩ := Kd.R_reads h
  refine ⟨A, _, c, rfl, hC, by omega, fun e => ?_⟩
  subst e
  rcases Nat.eq_zero_or_pos xs.length with h0 | h0
  · exact List.length_eq_zero_iff.1 h0
  · obtain ⟨ad, e, _⟩ := hC.2.2 h0
    simp at e
theorem put_any {w : World} {base B : Nat} {F : Nat → Prop} {ts : List Int} {ls : List (List S67)} {tick : Int} (h : IsRing w base B F ts ls) (hfresh : ∀ k, w.heap.size ≤ k → F k) (hbase : base ≤ w.heap.size) (hlt : lastOf ts < tick) {v : Value} {xs : List S67} (hv : ∀ W, Kept w W F → Came W v xs) :
    Calls Try.prog 24 #[.pointer (some ⟨B, 0, none⟩), .int .i64 tick, v] w fun e w' => e = .returned (.int .i64 0) ∧ Below base w w' ∧ Kept w w' F ∧ IsRing w' base B F (push ts tick) (push ls xs) := by
  obtain ⟨hr, hb, hf, ⟨M, tv, l, clock, h, e⟩ | ⟨e1, e2, tv, hB, hq⟩⟩ := h
  · refine (put_rm h hr.1 hfresh hbase hlt e (seek_none _ _ fun x hx => ?_) hv).mono fun e w' ⟨h1, h2, h3, h4⟩ => ⟨h1, h2, h3, hr.push hlt, hb, hf, .inl ⟨M, h4⟩⟩
    have := le_last hr.2.1 x.1 (by rw [← e]; exact List.mem_map_of_mem hx)
    omega
  · exact (put_nil hB (by rw [e1]; exact hq) rfl e1 e2 rfl hb hf hr.1 hfresh hbase hlt hv).mono fun e w' ⟨h1, h2, h3, h4⟩ => ⟨h1, h2, h3, hr.push hlt, hb, hf, .inl h4⟩
theorem put_old {w : World} {base B : Nat} {F : Nat → Prop} {ts : List Int} {ls : List (List S67)} {tick : Int} (h : IsRing w base B F ts ls) (hle : tick ≤ lastOf ts) (v : Value) :
    Calls Try.prog 24 #[.pointer (some ⟨B, 0, none⟩), .int .i64 tick, v] w fun e w' => e = .returned (.int .i64 8) ∧ Drawn0 w w' := by
  have HT := Aside0.mk h.ticks
  clear h
  have ht1 : ¬ lastOf ts < tick := by omega
  go_enter Try.func24, Try.ntmps24
  go_wp2_with (go_at_call 17; (with_reducible refine (last_any HT.out).mono ?_); rintro e w1 ⟨he, hd⟩; subst he; obtain ⟨⟨n, hd⟩⟩ := hd; subst hd)
  go_ret
  exact ⟨rfl, (Drawn0.refl _).step _⟩
theorem get_none (w : World) (tick : Int) : Calls Try.prog 14 #[.pointer none, .int .i64 tick] w fun e w' => e = .returned (.tuple #[.slice none 0 0, .bool false]) ∧ Drawn0 w w' := by
  go_enter Try.func14, Try.ntmps14
  go_wp2
  exact bodyPost_ret (v := .tuple #[.slice none 0 0, .bool false]) (by simp [results, Try.results14, go_sem]) rfl ⟨rfl, Drawn0.refl _⟩
theorem run_zero47 (w : World) : (zeroValue 47).run Try.prog w = .ok (.slice none 0 0) w := by kernel_rfl
theorem get_any {w : World} {base B : Nat} {F : Nat → Prop} {ts : List Int} {ls : List (List S67)} {tick : Int} (h : IsRing w base B F ts ls) (hs : ∀ xs, look tick ts ls = some xs → xs.length ≤ 1000) :
    Calls Try.prog 14 #[.pointer (some ⟨B, 0, none⟩), .int .i64 tick] w fun e w' => ∃ v, e = .returned (.tuple #[v, .bool (look tick ts ls).isSome]) ∧ Below w.heap.size w w' ∧ k67.R 67 w' w.heap.size (fun k => w.heap.size ≤ k) v ((look tick ts ls).getD []) := by
  obtain ⟨hr, hb, hf, ⟨M, tv, l, clock, h, e⟩ | ⟨e1, e2, tv, hB, hq⟩⟩ := h
  · have c1 : w.cell? ⟨B, 1, none⟩ = some (.map (some M)) := (blk_cell h.hB 1).trans rfl
    subst e
    rcases seek_look (k := tick) 0 h.hl with ⟨h1, h2⟩ | ⟨j, v, xs, h1, h2, h3⟩
    · rw [h2]
      have hlk := run_look_no Try.underlying70 Try.underlying3 (run_zero47 w) h.hM h1
      clear hs h h1 h2
      go_enter Try.func14, Try.ntmps14
      go_wp2_with (go_at_call 36; (with_reducible refine (clone_nil' 0 0 _).mono ?_); rintro e w9 ⟨rfl, hb9⟩)
      exact bodyPost_ret (v := .tuple #[.slice none 0 0, .bool false]) (by simp [results, Try.results14, go_sem]) rfl ⟨_, rfl, hb9, Kd.R_nil _ _ _ _ _⟩
    · rw [h2]
      have hlk := run_look Try.underlying70 Try.underlying3 h.hM h1
      have HV : Aside0 (Came w v xs) := ⟨came_of_R h3 (hs _ h2)⟩
      clear hs h h1 h2 h3
      go_enter Try.func14, Try.ntmps14
      go_wp2_with (go_at_call 36; (with_reducible refine (clone_any HV.out).mono ?_); rintro e w9 ⟨v9, rfl, hb9, hr9⟩)
      exact bodyPost_ret (v := .tuple #[v9, .bool true]) (by simp [results, Try.results14, go_sem]) rfl ⟨_, rfl, hb9, hr9⟩
  · have c1 : w.cell? ⟨B, 1, none⟩ = some (.map none) := (blk_cell hB 1).trans rfl
    have hlk := run_look_nil (k := tick) Try.underlying70 Try.underlying3 (run_zero47 w)
    subst e1
    clear hs hB hq
    go_enter Try.func14, Try.ntmps14
    go_wp2_with (go_at_call 36; (with_reducible refine (clone_nil' 0 0 _).mono ?_); rintro e w9 ⟨rfl, hb9⟩)
    exact bodyPost_ret (v := .tuple #[.slice none 0 0, .bool false]) (by simp [results, Try.results14, go_sem]) rfl ⟨_, rfl, hb9, Kd.R_nil _ _ _ _ _⟩
/-- A new ring. -/
theorem new_ring (w : World) {base : Nat} {F : Nat → Prop} (hb : base ≤ w.heap.size) (hf : F w.heap.size) : IsRing (w.alloc (.cells #[.slice none 0 0, .map none] 72 (0, 0))) base w.heap.size F [] [] :=
  ⟨⟨by simp, by simp, by simp⟩, hb, hf, .inr ⟨rfl, rfl, _, blk_new _ _, Kd.Q_nil _ _ _ _ _⟩⟩
end Go.Proofs.Ytcbmkhogmdkpdaa.Ring
