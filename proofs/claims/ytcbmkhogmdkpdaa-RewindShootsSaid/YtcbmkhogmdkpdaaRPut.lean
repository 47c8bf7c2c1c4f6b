import Derived.Test.YtcbmkhogmdkpdaaRMem
set_option linter.unusedVariables false
set_option linter.unusedSimpArgs false
namespace Go.Proofs.Ytcbmkhogmdkpdaa.Ring
open Go.RowKit Go.ChangeMaps Go.Proofs.YtcbmkhogmdkpdaaW.PrintWords Go.Proofs.YtcbmkhogmdkpdaaW.PrintLast Go.Proofs.YtcbmkhogmdkpdaaW.PrintMore Go.Proofs.Ytcbmkhogmdkpdaa.PRewindNone Go.Proofs.Ytcbmkhogmdkpdaa.MapI
theorem info3 : (Try.prog.info? 3).map (fun i => (i.zero, i.size, i.bytes)) = some (some (.int .i64 0), 1, 8) := by kernel_rfl
theorem below_block {base : Nat} {w W : World} (h : Below base w W) {M : Nat} (hM : base ≤ M) (o : Obj) : Below base w (setBlock W M o) :=
  ⟨h.os, h.tape, h.output, by simpa [setBlock] using h.size, fun k hk => by rw [← h.block k hk]; simp [setBlock]; rw [Array.getElem?_setIfInBounds_ne (by omega)]⟩
theorem block_ne (W : World) {M k : Nat} (o : Obj) (h : k ≠ M) : (setBlock W M o).heap[k]? = W.heap[k]? := by
  simp only [setBlock]
  rw [Array.getElem?_setIfInBounds_ne (by omega)]
theorem block_eq {W : World} {M : Nat} {o : Obj} (h : W.heap[M]? = some o) (o' : Obj) : (setBlock W M o').heap[M]? = some o' := by
  simp only [setBlock]
  rw [Array.getElem?_setIfInBounds_self_of_lt (blk_lt h)]
def Both {α β : Type} (p : α → β → Prop) : List α → List β → Prop
  | [], [] => True
  | a :: l, b :: m => p a b ∧ Both p l m
  | _, _ => False
theorem Both.imp {α β : Type} {p q : α → β → Prop} (hpq : ∀ a b, p a b → q a b) : ∀ {l : List α} {m : List β}, Both p l m → Both q l m
  | [], [], _ => trivial
  | a :: l, b :: m, h => ⟨hpq _ _ h.1, Both.imp hpq h.2⟩
  | [], _ :: _, h => h.elim
  | _ :: _, [], h => h.elim
theorem Both.snoc {α β : Type} {p : α → β → Prop} {a : α} {b : β} (hp : p a b) : ∀ {l : List α} {m : List β}, Both p l m → Both p (l ++ [a]) (m ++ [b])
  | [], [], _ => ⟨hp, trivial⟩
  | _ :: _, _ :: _, h => ⟨h.1, Both.snoc hp h.2⟩
  | [], _ :: _, h => h.elim
  | _ :: _, [], h => h.elim
theorem Both.len {α β : Type} {p : α → β → Prop} : ∀ {l : List α} {m : List β}, Both p l m → l.length = m.length
  | [], [], _ => rfl
  | _ :: _, _ :: _, h => by simp [Both.len h.2]
  | [], _ :: _, h => h.elim
  | _ :: _, [], h => h.elim
/-- A ring's parts: its block B, its map's block M. -/
structure RM (w : World) (base B M : Nat) (F : Nat → Prop) (tv : Value) (l : List (Int × Value × Nat)) (clock : Nat) (ts : List Int) (ls : List (List S67)) : Prop where
  hB : w.heap[B]? = some (.cells #[tv, .map (some M)] 72 (0, 0))
  hM : w.heap[M]? = some (.map (mk l).toArray clock)
  hq : (Kd.int .i64).Q 3 w base F tv ts
  hl : Both (fun x xs => k67.R 67 w base F x.2.1 xs) l ls
  bB : base ≤ B
  fB : F B
  bM : base ≤ M
  fM : F M
section
variable {w W w1 : World} {base B M clock clock' : Nat} {F F' : Nat → Prop} {tv v1 : Value} {l l' : List (Int × Value × Nat)} {ts ts1 : List Int} {ls ls' : List (List S67)}
/-- Rows of entities stand where the blocks of their type stand. -/
theorem R67_same {v : Value} {xs : List S67} (h : k67.R 67 w base F v xs) (hs : ∀ k cells, F k → w.heap[k]? = some (.cells cells 67 (0, 0)) → W.heap[k]? = w.heap[k]?) : k67.R 67 W base F v xs :=
  Kd.R_mono (Kd.R_step (Kd.R_bound h) (fun k hk _ => by
    obtain ⟨hf, _, _, q, hq, cells, hc⟩ := hk
    have hE : k67.E = [] := rfl
    rw [hE] at hq
    obtain rfl : q = 67 := by simpa using hq
    exact hs k cells hf hc)) (fun _ hk => hk.1)
theorem Q3_same {v : Value} {xs : List Int} (h : (Kd.int .i64).Q 3 w base F v xs) (hs : ∀ k cells, F k → w.heap[k]? = some (.cells cells 3 (0, 0)) → W.heap[k]? = w.heap[k]?) : (Kd.int .i64).Q 3 W base F v xs :=
  Kd.Q_mono (Kd.Q_step (Kd.Q_bound h) (fun k hk _ => by
    obtain ⟨hf, _, _, q, hq, cells, hc⟩ := hk
    obtain rfl : q = 3 := by simpa [Kd.int, Kd.scalar] using hq
    exact hs k cells hf hc)) (fun _ hk => hk.1)
theorem RM.move (h : RM w base B M F tv l clock ts ls) (hk : ∀ k, F k → k < w.heap.size → W.heap[k]? = w.heap[k]?) : RM W base B M F tv l clock ts ls :=
  ⟨(hk B h.fB (blk_lt h.hB)).trans h.hB, (hk M h.fM (blk_lt h.hM)).trans h.hM, Kd.Q_step h.hq hk, h.hl.imp fun _ _ hx => Kd.R_step hx hk, h.bB, h.fB, h.bM, h.fM⟩
theorem RM.below (h : RM w base B M F tv l clock ts ls) (hb : Below w.heap.size w W) : RM W base B M F tv l clock ts ls := h.move fun k _ hlt => hb.block k hlt
theorem RM.foot (h : RM w base B M F tv l clock ts ls) (hf : ∀ k, F k → F' k) : RM w base B M F' tv l clock ts ls :=
  ⟨h.hB, h.hM, Kd.Q_mono h.hq hf, h.hl.imp fun _ _ hx => Kd.R_mono hx hf, h.bB, hf _ h.fB, h.bM, hf _ h.fM⟩
theorem RM.at_ (h : RM w base B M F tv l clock ts ls) (hg : w.grownBy w1 tv.ownBlock) : w1.heap[B]? = some (.cells #[tv, .map (some M)] 72 (0, 0)) := by
  have ht := Kd.Q_typed h.hq
  refine (hg.block B (blk_lt h.hB) fun he => ?_).trans h.hB
  obtain ⟨cells, hc⟩ := ht B he.symm
  rw [h.hB] at hc
  simp at hc
theorem RM.ticks (h : RM w base B M F tv l clock ts ls) (hg : w.grownBy w1 tv.ownBlock) (hq1 : (Kd.int .i64).Q 3 w1 base F v1 ts1) : RM (w1.setCell ⟨B, 0, none⟩ v1) base B M F v1 l clock ts1 ls := by
  have ht := Kd.Q_typed h.hq
  have hB1 : w1.heap[B]? = some (.cells #[tv, .map (some M)] 72 (0, 0)) := by
    refine (hg.block B (blk_lt h.hB) fun he => ?_).trans h.hB
    obtain ⟨cells, hc⟩ := ht B he.symm
    rw [h.hB] at hc
    simp at hc
  have hM1 : w1.heap[M]? = some (.map (MapI.mk l).toArray clock) := by
    refine (hg.block M (blk_lt h.hM) fun he => ?_).trans h.hM
    obtain ⟨cells, hc⟩ := ht M he.symm
    rw [h.hM] at hc
    simp at hc
  have hne : M ≠ B := by
    rintro rfl
    rw [hB1] at hM1
    simp at hM1
  refine ⟨(blk_set hB1 0 v1).trans rfl, (Below.heap_setCell w1 ⟨B, 0, none⟩ v1 M hne).trans hM1, Q3_same hq1 fun k cells _ hc => Below.heap_setCell _ _ _ _ ?_, h.hl.imp fun x xs hx => R67_same hx fun k cells hf hc => ?_, h.bB, h.fB, h.bM, h.fM⟩
  · rintro rfl
    rw [hB1] at hc
    simp at hc
  · have hk : w1.heap[k]? = w.heap[k]? := hg.block k (blk_lt hc) fun he => by
      obtain ⟨cells', hc'⟩ := ht k he.symm
      rw [hc] at hc'
      simp at hc'
    rw [← hk]
    refine Below.heap_setCell _ _ _ _ ?_
    rintro rfl
    rw [← hk, hB1] at hc
    simp at hc
theorem RM.entries (h : RM w base B M F tv l clock ts ls) (hl : Both (fun x xs => k67.R 67 w base F x.2.1 xs) l' ls') : RM (setBlock w M (.map (MapI.mk l').toArray clock')) base B M F tv l' clock' ts ls' := by
  have hne : B ≠ M := by
    rintro rfl
    have := h.hB
    rw [h.hM] at this
    simp at this
  refine ⟨(block_ne w _ hne).trans h.hB, block_eq h.hM _, Q3_same h.hq fun k cells _ hc => block_ne _ _ ?_, hl.imp fun x xs hx => R67_same hx fun k cells hf hc => block_ne _ _ ?_, h.bB, h.fB, h.bM, h.fM⟩
  all_goals
    rintro rfl
    rw [h.hM] at hc
    simp at hc
end
theorem RM.cell_put {w : World} {base B M clock : Nat} {F : Nat → Prop} {tv : Value} {l : List (Int × Value × Nat)} {ts : List Int} {ls : List (List S67)} (h : RM w base B M F tv l clock ts ls) (o : Obj) : (setBlock w M o).cell? ⟨B, 1, none⟩ = some (.map (some M)) := by
  have hne : B ≠ M := by
    rintro rfl
    have := h.hB
    rw [h.hM] at this
    simp at this
  rw [World.cell?_of_block (w := w) (block_ne w o hne)]
  exact (blk_cell h.hB 1).trans rfl
theorem kept_block {w W : World} {F : Nat → Prop} {M : Nat} (h : Kept w W F) (hM : F M) (o : Obj) : Kept w (setBlock W M o) F :=
  ⟨by simpa [setBlock] using h.1, fun i hi hn => (block_ne W o (fun e => hn (by rw [e]; exact hM))).trans (h.2 i hi hn)⟩
theorem Came.below {w W : World} {v : Value} {xs : List S67} (h : Came w v xs) (hb : Below w.heap.size w W) : Came W v xs := by
  obtain ⟨A, n, c, e, hC, r⟩ := h
  exact ⟨A, n, c, e, Kd.C_below hC hb, r⟩
/-- The ring whose block is B and whose map's block is M keeps these lists under these ticks. -/
def RingM (w : World) (base B M : Nat) (F : Nat → Prop) (ts : List Int) (ls : List (List S67)) : Prop := ∃ tv l clock, RM w base B M F tv l clock ts ls ∧ l.map (·.1) = ts
def push {α : Type} (l : List α) (x : α) : List α := if l.length < 64 then l ++ [x] else (l ++ [x]).drop 1
theorem put_rm {w : World} {base B M clock : Nat} {F : Nat → Prop} {tv : Value} {l : List (Int × Value × Nat)} {ts : List Int} {ls : List (List S67)} {tick : Int}
    (h : RM w base B M F tv l clock ts ls) (h64 : ts.length ≤ 64) (hfresh : ∀ k, w.heap.size ≤ k → F k) (hbase : base ≤ w.heap.size) (hlt : lastOf ts < tick) (hkeys : l.map (·.1) = ts) (hs : seek tick l 0 = none) {v : Value} {xs : List S67} (hv : ∀ W, Kept w W F → Came W v xs) :
    Calls Try.prog 24 #[.pointer (some ⟨B, 0, none⟩), .int .i64 tick, v] w fun e w' => e = .returned (.int .i64 0) ∧ Below base w w' ∧ Kept w w' F ∧ RingM w' base B M F (push ts tick) (push ls xs) := by
  obtain ⟨A, c, rfl, hlc⟩ := Kd.Q_slice h.hq
  have c0 : w.cell? ⟨B, 0, none⟩ = some (.slice A ts.length c) := (blk_cell h.hB 0).trans rfl
  have c1 : w.cell? ⟨B, 1, none⟩ = some (.map (some M)) := (blk_cell h.hB 1).trans rfl
  have f0 : w.frozen? ⟨B, 0, none⟩ = false := blk_frozen h.hB 0
  have hmn := fun (W : World) (r : Option Nat) => run_eql_map_nil (P := Try.prog) W 70 3 47 r Try.underlying70
  have HT : Aside0 (HasTicks w base B F ts) := ⟨h64, _, _, h.hB, h.hq⟩
  have HR := Aside0.mk h
  have HF := Aside0.mk hfresh
  have HV := Aside0.mk hv
  clear hv
  clear h hfresh
  have ht1 : ¬ tick ≤ lastOf ts := by omega
  go_enter Try.func24, Try.ntmps24
  go_wp2_with (first | (go_at_call 17; (with_reducible refine (last_any HT.out).mono ?_); rintro e w1 ⟨he, hd⟩; subst he; obtain ⟨⟨n, hd⟩⟩ := hd; subst hd; generalize hw1 : w.drewN n = w1; have HR1 : Aside0 (RM w1 base B M F (.slice A ts.length c) l clock ts ls) := ⟨by rw [← hw1]; exact HR.out.below (pw_below_drewN (Below.refl _ _) n)⟩; have HK1 : Aside0 (Kept w w1 F) := ⟨by rw [← hw1]; exact (Kept.refl w F).drewN n⟩; have HF1 : Aside0 (∀ k, w1.heap.size ≤ k → F k) := ⟨by rw [← hw1]; exact HF.out⟩; have HB1 : Aside0 (Below base w w1) := ⟨by rw [← hw1]; exact pw_below_drewN (Below.refl _ _) n⟩; have HS1 : Aside0 (base ≤ w1.heap.size) := ⟨by rw [← hw1]; exact hbase⟩; clear hw1; have d1 : w1.cell? ⟨B, 1, none⟩ = some (.map (some M)) := (blk_cell HR1.out.hB 1).trans rfl; have d0 : w1.cell? ⟨B, 0, none⟩ = some (.slice A ts.length c) := (blk_cell HR1.out.hB 0).trans rfl; clear c0 c1 f0) | (at_builtin; refine Kd.Q_append (Kd.int .i64) (w0 := w) base rfl _ _ 69 3 (.int .i64 0) 8 rfl Try.underlying69 info3 rfl (by decide) (by decide) (.slice A ts.length c) ts tick [.int .i64 tick] F (fun _ => False) rfl rfl rfl (fun _ h => h.elim) HF1.out HR1.out.hq HB1.out HS1.out (by omega) ?_; intro v2 w2 h1 h2 h3 h4; obtain ⟨A2, c2, e2, hlc2⟩ := Kd.Q_slice h1; rw [List.length_append, List.length_singleton] at e2; subst e2; have e0 : w2.cell? ⟨B, 0, none⟩ = some (.slice A ts.length c) := (blk_cell (HR1.out.at_ h3) 0).trans rfl; have f0 : w2.frozen? ⟨B, 0, none⟩ = false := blk_frozen (HR1.out.at_ h3) 0; have HR2 : Aside0 (RM (w2.setCell ⟨B, 0, none⟩ (.slice A2 (ts.length + 1) c2)) base B M F (.slice A2 (ts.length + 1) c2) l clock (ts ++ [tick]) ls) := ⟨HR1.out.ticks h3 h1⟩; have HK2 : Aside0 (Kept w (w2.setCell ⟨B, 0, none⟩ (.slice A2 (ts.length + 1) c2)) F) := ⟨(Kept.of_grown h3 HK1.out (fun k hk => .inl (Kd.Q_ok HR1.out.hq k hk))).setCell (.inl HR1.out.fB) _⟩; have HB3 : Aside0 (Below base w (w2.setCell ⟨B, 0, none⟩ (.slice A2 (ts.length + 1) c2))) := ⟨h2.setCell HR1.out.bB _⟩; have HQ2 := Aside0.mk h1; have HB2 := Aside0.mk h2; clear h1 h2 h3 h4))
  have HF3 : Aside0 (∀ k, (w2.setCell ⟨B, 0, none⟩ (.slice A2 (ts.length + 1) c2)).heap.size ≤ k → F k) := ⟨fun k hk => HF.out k (Nat.le_trans HK2.out.1 hk)⟩
  clear e0 f0 HQ2 HB2 HR1 HK1 HF1 HB1 HS1 d0 d1
  generalize w2.setCell ⟨B, 0, none⟩ (.slice A2 (ts.length + 1) c2) = w3 at *
  have c1 : w3.cell? ⟨B, 1, none⟩ = some (.map (some M)) := (blk_cell HR2.out.hB 1).trans rfl
  have c0 : w3.cell? ⟨B, 0, none⟩ = some (.slice A2 (ts.length + 1) c2) := (blk_cell HR2.out.hB 0).trans rfl
  have HV3 : Aside0 (∀ W, Below w3.heap.size w3 W → Came W v xs) := ⟨fun W hW => HV.out W (HK2.out.below hW)⟩
  go_region_held3 (fun w' => w'.cell? ⟨B, 1, none⟩ = some (.map (some M))) (go_keep) (first | (go_at_call 36; (with_reducible refine (clone_any (HV3.out _ ?_)).mono ?_); (· (repeat (with_reducible first | exact Below.refl _ _ | apply below_drew | apply pw_below_drewN))); rintro e w9 ⟨v9, rfl, hb9, hr9⟩; have hb : Below w3.heap.size w3 w9 := ⟨hb9.os, hb9.tape, hb9.output, hb9.size, hb9.block⟩; have HR9 : Aside0 (RM w9 base B M F (.slice A2 (ts.length + 1) c2) l clock (ts ++ [tick]) ls) := ⟨HR2.out.below hb⟩; have HX9 := Aside0.mk hr9; have HB9 := Aside0.mk hb; clear hr9 hb9 hb; have c9 : w9.cell? ⟨B, 1, none⟩ = some (.map (some M)) := (blk_cell HR9.out.hB 1).trans rfl; have cput := HR9.out.cell_put (.map (MapI.mk (l ++ [(tick, v9, clock)])).toArray (clock + 1)); have hput := run_put (v := v9) Try.underlying70 Try.underlying3 HR9.out.hM hs))
  have hbs : base ≤ w3.heap.size := Nat.le_trans HR2.out.bB (Nat.le_of_lt (blk_lt HR2.out.hB))
  have hB9 : Below base w w9 := HB3.out.trans ⟨HB9.out.os, HB9.out.tape, HB9.out.output, HB9.out.size, fun k hk => HB9.out.block k (by omega)⟩
  have hK9 : Kept w w9 F := HK2.out.below HB9.out
  have hX9 : k67.R 67 w9 base F v9 xs := Kd.R_mono (Kd.R_lower HX9.out hbs) (fun k hk => HF3.out k hk)
  have HR4 : Aside0 (RM (setBlock w9 M (.map (mk (l ++ [(tick, v9, clock)])).toArray (clock + 1))) base B M F (.slice A2 (ts.length + 1) c2) (l ++ [(tick, v9, clock)]) (clock + 1) (ts ++ [tick]) (ls ++ [xs])) := ⟨HR9.out.entries (Both.snoc (p := fun (x : Int × Value × Nat) xs => k67.R 67 w9 base F x.2.1 xs) (a := (tick, v9, clock)) hX9 HR9.out.hl)⟩
  have HB4 : Aside0 (Below base w (setBlock w9 M (.map (mk (l ++ [(tick, v9, clock)])).toArray (clock + 1)))) := ⟨below_block hB9 HR9.out.bM _⟩
  have HK4 : Aside0 (Kept w (setBlock w9 M (.map (mk (l ++ [(tick, v9, clock)])).toArray (clock + 1))) F) := ⟨kept_block hK9 HR9.out.fM _⟩
  have hll : l.length = ls.length := Both.len HR.out.hl
  have hlt' : l.length = ts.length := by rw [← hkeys, List.length_map]
  clear hput cput c9 HX9 hX9 hB9 hK9 HB9 HR9 HV3 c0 c1 HF3 HB3 HK2 HR2 HT HF HV
  generalize setBlock w9 M (.map (mk (l ++ [(tick, v9, clock)])).toArray (clock + 1)) = w4 at *
  have c0 : w4.cell? ⟨B, 0, none⟩ = some (.slice A2 (ts.length + 1) c2) := (blk_cell HR4.out.hB 0).trans rfl
  have c1 : w4.cell? ⟨B, 1, none⟩ = some (.map (some M)) := (blk_cell HR4.out.hB 1).trans rfl
  by_cases h6 : ts.length < 64
  · have h6a : ¬ ((ts.length : Int) + 1 > 64) := by omega
    have h6b : ((ts.length : Int) + 1 ≤ 64) := by omega
    go_wp2
    go_ret
    refine ⟨rfl, HB4.out, HK4.out, .slice A2 (ts.length + 1) c2, l ++ [(tick, v9, clock)], clock + 1, ?_, ?_⟩
    · rw [push, push, if_pos h6, if_pos (by omega)]
      exact HR4.out
    · rw [push, if_pos h6, List.map_append, hkeys]
      rfl
  · have h6a : (64 : Int) < (ts.length : Int) + 1 := by omega
    obtain ⟨g, o, c3, e3, hFg, k0, _⟩ := q_cells HR4.out.hq (by simp)
    rw [List.length_append, List.length_singleton] at e3
    injection e3 with e3 _ e4
    subst e3
    subst e4
    obtain ⟨t0, v0, b0, l2, hl2⟩ : ∃ t0 v0 b0 l2, l ++ [(tick, v9, clock)] = (t0, v0, b0) :: l2 := by
      cases l with
      | nil => exact ⟨_, _, _, _, rfl⟩
      | cons x l => exact ⟨_, _, _, _, rfl⟩
    have hts : ts ++ [tick] = t0 :: l2.map (·.1) := by
      have := congrArg (List.map (·.1)) hl2
      rw [List.map_append, hkeys] at this
      exact this
    rw [show firstOf (ts ++ [tick]) = t0 by rw [hts]; rfl] at k0
    have hM4 : w4.drew.heap[M]? = some (.map (mk ((t0, v0, b0) :: l2)).toArray (clock + 1)) := by rw [← hl2]; exact HR4.out.hM
    have hdel := fun T2 => run_drop (T2 := T2) Try.underlying70 Try.underlying3 hM4
    have hRd : RM w4.drew base B M F (.slice (some ⟨g, o, none⟩) (ts.length + 1) c2) ((t0, v0, b0) :: l2) (clock + 1) (ts ++ [tick]) (ls ++ [xs]) := by rw [← hl2]; exact HR4.out.below (below_drew (Below.refl _ _))
    obtain ⟨x0, lr, hlr⟩ : ∃ x0 lr, ls ++ [xs] = x0 :: lr := by
      cases ls with
      | nil => exact ⟨_, _, rfl⟩
      | cons x l => exact ⟨_, _, rfl⟩
    have hl5 := hRd.hl
    rw [hlr] at hl5
    have HR5 : Aside0 (RM (setBlock w4.drew M (.map (mk l2).toArray (clock + 1))) base B M F (.slice (some ⟨g, o, none⟩) (ts.length + 1) c2) l2 (clock + 1) (ts ++ [tick]) lr) := ⟨hRd.entries hl5.2⟩
    have HB5 : Aside0 (Below base w (setBlock w4.drew M (.map (mk l2).toArray (clock + 1)))) := ⟨below_block (below_drew HB4.out) HR4.out.bM _⟩
    have HK5 : Aside0 (Kept w (setBlock w4.drew M (.map (mk l2).toArray (clock + 1))) F) := ⟨kept_block (HK4.out.drew) HR4.out.fM _⟩
    have p0 : (setBlock w4.drew M (.map (mk l2).toArray (clock + 1))).cell? ⟨B, 0, none⟩ = some (.slice (some ⟨g, o, none⟩) (ts.length + 1) c2) := (blk_cell HR5.out.hB 0).trans rfl
    have p1 : (setBlock w4.drew M (.map (mk l2).toArray (clock + 1))).cell? ⟨B, 1, none⟩ = some (.map (some M)) := (blk_cell HR5.out.hB 1).trans rfl
    have f0 : (setBlock w4.drew M (.map (mk l2).toArray (clock + 1))).frozen? ⟨B, 0, none⟩ = false := blk_frozen HR5.out.hB 0
    have p2 : (setBlock w4.drew M (.map (mk l2).toArray (clock + 1))).cell? ⟨g, o, none⟩ = some (.int .i64 t0) := by
      obtain ⟨g', o', c', e', _, k5, _⟩ := q_cells HR5.out.hq (by simp)
      injection e' with e' _ _
      injection e' with e'
      injection e' with e1 e2 _
      subst e1
      subst e2
      rw [k5, hts]
      rfl
    clear hM4 hRd hl5
    go_wp2_with fail
    go_region_held3 (fun w' => w'.cell? ⟨B, 1, none⟩ = some (.map (some M)) ∧ w'.cell? ⟨B, 0, none⟩ = some (.slice (some ⟨g, o, none⟩) (ts.length + 1) c2) ∧ w'.cell? ⟨g, o, none⟩ = some (.int .i64 t0)) (first | go_keep | (simp [*]; done)) (fail)
    generalize setBlock w4.drew M (.map (mk l2).toArray (clock + 1)) = w5 at *
    clear c0 c1 k0 HB4 HK4 HR4 hdel
    have hc2 : ¬ c2 = 1 := by
      rw [List.length_append, List.length_singleton] at hlc2
      omega
    have hq5 : (Kd.int .i64).Q 3 w5 base F (.slice (some ⟨g, o + 1, none⟩) ts.length (c2 - 1)) (l2.map (·.1)) := by
      have h := Kd.Q_drop (k := 1) HR5.out.hq (by rw [hts]; simp)
      rw [if_neg hc2, hts] at h
      exact h
    have HE : Aside0 (RM (w5.setCell ⟨B, 0, none⟩ (.slice (some ⟨g, o + 1, none⟩) ts.length (c2 - 1))) base B M F (.slice (some ⟨g, o + 1, none⟩) ts.length (c2 - 1)) l2 (clock + 1) (l2.map (·.1)) lr) := ⟨HR5.out.ticks (World.grownBy.refl _ _) hq5⟩
    clear hq5
    have hcut := cut_from 69 3 .i64 Try.underlying69 (info_parts info3).choose_spec.1 1 (info_parts info3).choose_spec.2.2.1 (some ⟨g, o, none⟩) (ts.length + 1) c2 1 (by omega) (by omega)
    go_wp2
    go_ret
    refine ⟨rfl, HB5.out.setCell HE.out.bB _, HK5.out.setCell (.inl HE.out.fB) _, .slice (some ⟨g, o + 1, none⟩) ts.length (c2 - 1), l2, clock + 1, ?_, ?_⟩
    · rw [push, push, if_neg h6, if_neg (by omega), hts, hlr]
      exact HE.out
    · rw [push, if_neg h6, hts]
      rfl
theorem made_map {w : World} {base B : Nat} {F : Nat → Prop} {tv : Value} {ts : List Int} (hB : w.heap[B]? = some (.cells #[tv, .map none] 72 (0, 0))) (hq : (Kd.int .i64).Q 3 w base F tv ts) (bB : base ≤ B) (fB : F B) (bM : base ≤ w.heap.size) (fM : F w.heap.size) :
    RM ((w.alloc (.map #[] 0)).setCell ⟨B, 1, none⟩ (.map (some w.heap.size))) base B w.heap.size F tv [] 0 ts [] := by
  have hne : w.heap.size ≠ B := by have := blk_lt hB; omega
  refine ⟨(blk_set (blk_alloc hB _) 1 _).trans rfl, (Below.heap_setCell _ ⟨B, 1, none⟩ _ _ hne).trans (blk_new w _), Q3_same (Kd.Q_alloc hq _) fun k cells _ hc => Below.heap_setCell _ _ _ _ ?_, trivial, bB, fB, bM, fM⟩
  rintro rfl
  rw [blk_alloc hB] at hc
  simp at hc
theorem put_nil {w : World} {base B clock : Nat} {F : Nat → Prop} {tv : Value} {l : List (Int × Value × Nat)} {ts : List Int} {ls : List (List S67)} {tick : Int}
    (hB : w.heap[B]? = some (.cells #[tv, .map none] 72 (0, 0))) (hq : (Kd.int .i64).Q 3 w base F tv ts) (hl0 : l = []) (ht0 : ts = []) (hs0 : ls = []) (hc0 : clock = 0) (bB : base ≤ B) (fB : F B)
    (h64 : ts.length ≤ 64) (hfresh : ∀ k, w.heap.size ≤ k → F k) (hbase : base ≤ w.heap.size) (hlt : lastOf ts < tick) {v : Value} {xs : List S67} (hv : ∀ W, Kept w W F → Came W v xs) :
    Calls Try.prog 24 #[.pointer (some ⟨B, 0, none⟩), .int .i64 tick, v] w fun e w' => e = .returned (.int .i64 0) ∧ Below base w w' ∧ Kept w w' F ∧ ∃ M, RingM w' base B M F (push ts tick) (push ls xs) := by
  have hkeys : l.map (·.1) = ts := by rw [hl0, ht0]; rfl
  have hs : seek tick l 0 = none := by rw [hl0]; rfl
  have hll0 : l.length = ls.length := by rw [hl0, hs0]; rfl
  have HL0 := Aside0.mk hl0
  have HS0 := Aside0.mk hs0
  have HC0 := Aside0.mk hc0
  clear hl0 ht0 hs0 hc0
  obtain ⟨A, c, rfl, hlc⟩ := Kd.Q_slice hq
  have c0 : w.cell? ⟨B, 0, none⟩ = some (.slice A ts.length c) := (blk_cell hB 0).trans rfl
  have c1 : w.cell? ⟨B, 1, none⟩ = some (.map none) := (blk_cell hB 1).trans rfl
  have f1 : w.frozen? ⟨B, 1, none⟩ = false := blk_frozen hB 1
  have hmn := fun (W : World) (r : Option Nat) => run_eql_map_nil (P := Try.prog) W 70 3 47 r Try.underlying70
  have HT : Aside0 (HasTicks w base B F ts) := ⟨h64, _, _, hB, hq⟩
  have HBB := Aside0.mk hB
  have HQQ := Aside0.mk hq
  have HF := Aside0.mk hfresh
  have HV := Aside0.mk hv
  clear hv
  clear hB hq hfresh
  have ht1 : ¬ tick ≤ lastOf ts := by omega
  go_enter Try.func24, Try.ntmps24
  go_upto_region 7 with (first | (go_at_call 17; (with_reducible refine (last_any HT.out).mono ?_); rintro e w1 ⟨he, hd⟩; subst he; obtain ⟨⟨n, hd⟩⟩ := hd; subst hd; generalize hw1 : w.drewN n = w1; obtain ⟨M, hM⟩ : ∃ M, w1.heap.size = M := ⟨_, rfl⟩; have hmm : ∀ t, (Instr.makeMap t none).run Try.prog w1 = .ok (.map (some M)) (w1.alloc (.map #[] 0)) := fun t => (by rw [← hM]; exact run_makeMap t w1); have HR1 : Aside0 (RM ((w1.alloc (.map #[] 0)).setCell ⟨B, 1, none⟩ (.map (some M))) base B M F (.slice A ts.length c) l clock ts ls) := ⟨by rw [← hM, HL0.out, HS0.out, HC0.out]; refine made_map (w := w1) ?_ ?_ bB fB ?_ ?_; (· rw [← hw1]; exact HBB.out); (· rw [← hw1]; exact Kd.Q_drewN HQQ.out n); (· rw [← hw1]; exact hbase); (· rw [← hw1]; exact HF.out _ (Nat.le_refl _))⟩; have HK1 : Aside0 (Kept w ((w1.alloc (.map #[] 0)).setCell ⟨B, 1, none⟩ (.map (some M))) F) := ⟨by rw [← hw1]; exact (((Kept.refl w F).drewN n).alloc _).setCell (.inl fB) _⟩; have HF1 : Aside0 (∀ k, ((w1.alloc (.map #[] 0)).setCell ⟨B, 1, none⟩ (.map (some M))).heap.size ≤ k → F k) := ⟨fun k hk => HF.out k (Nat.le_trans HK1.out.1 hk)⟩; have HB1 : Aside0 (Below base w ((w1.alloc (.map #[] 0)).setCell ⟨B, 1, none⟩ (.map (some M)))) := ⟨by rw [← hw1]; exact ((pw_below_drewN (Below.refl base w) n).alloc hbase _).setCell bB _⟩; have HS1 : Aside0 (base ≤ ((w1.alloc (.map #[] 0)).setCell ⟨B, 1, none⟩ (.map (some M))).heap.size) := ⟨Nat.le_trans hbase HK1.out.1⟩; have g0 : w1.cell? ⟨B, 0, none⟩ = some (.slice A ts.length c) := (by rw [← hw1]; exact c0); have g1 : w1.cell? ⟨B, 1, none⟩ = some (.map none) := (by rw [← hw1]; exact c1); have gf : (w1.alloc (.map #[] 0)).frozen? ⟨B, 1, none⟩ = false := (by rw [← hw1]; exact blk_frozen (blk_alloc (w := w.drewN n) HBB.out (.map #[] 0)) 1); have ga : (w1.alloc (.map #[] 0)).cell? ⟨B, 1, none⟩ = some (.map none) := (by rw [← hw1]; exact blk_cell (blk_alloc (w := w.drewN n) HBB.out (.map #[] 0)) 1); clear hw1 hM; have d1 : ((w1.alloc (.map #[] 0)).setCell ⟨B, 1, none⟩ (.map (some M))).cell? ⟨B, 1, none⟩ = some (.map (some M)) := (blk_cell HR1.out.hB 1).trans rfl; have d0 : ((w1.alloc (.map #[] 0)).setCell ⟨B, 1, none⟩ (.map (some M))).cell? ⟨B, 0, none⟩ = some (.slice A ts.length c) := (blk_cell HR1.out.hB 0).trans rfl; clear c0 c1 f1))
  generalize (w1.alloc (.map #[] 0)).setCell ⟨B, 1, none⟩ (.map (some M)) = w1m at *
  go_wp2_with (first | (at_builtin; refine Kd.Q_append (Kd.int .i64) (w0 := w) base rfl _ _ 69 3 (.int .i64 0) 8 rfl Try.underlying69 info3 rfl (by decide) (by decide) (.slice A ts.length c) ts tick [.int .i64 tick] F (fun _ => False) rfl rfl rfl (fun _ h => h.elim) HF1.out HR1.out.hq HB1.out HS1.out (by omega) ?_; intro v2 w2 h1 h2 h3 h4; obtain ⟨A2, c2, e2, hlc2⟩ := Kd.Q_slice h1; rw [List.length_append, List.length_singleton] at e2; subst e2; have e0 : w2.cell? ⟨B, 0, none⟩ = some (.slice A ts.length c) := (blk_cell (HR1.out.at_ h3) 0).trans rfl; have f0 : w2.frozen? ⟨B, 0, none⟩ = false := blk_frozen (HR1.out.at_ h3) 0; have HR2 : Aside0 (RM (w2.setCell ⟨B, 0, none⟩ (.slice A2 (ts.length + 1) c2)) base B M F (.slice A2 (ts.length + 1) c2) l clock (ts ++ [tick]) ls) := ⟨HR1.out.ticks h3 h1⟩; have HK2 : Aside0 (Kept w (w2.setCell ⟨B, 0, none⟩ (.slice A2 (ts.length + 1) c2)) F) := ⟨(Kept.of_grown h3 HK1.out (fun k hk => .inl (Kd.Q_ok HR1.out.hq k hk))).setCell (.inl HR1.out.fB) _⟩; have HB3 : Aside0 (Below base w (w2.setCell ⟨B, 0, none⟩ (.slice A2 (ts.length + 1) c2))) := ⟨h2.setCell HR1.out.bB _⟩; have HQ2 := Aside0.mk h1; have HB2 := Aside0.mk h2; clear h1 h2 h3 h4))
  have HF3 : Aside0 (∀ k, (w2.setCell ⟨B, 0, none⟩ (.slice A2 (ts.length + 1) c2)).heap.size ≤ k → F k) := ⟨fun k hk => HF.out k (Nat.le_trans HK2.out.1 hk)⟩
  clear e0 f0 HQ2 HB2 HR1 HK1 HF1 HB1 HS1 d0 d1
  generalize w2.setCell ⟨B, 0, none⟩ (.slice A2 (ts.length + 1) c2) = w3 at *
  have c1 : w3.cell? ⟨B, 1, none⟩ = some (.map (some M)) := (blk_cell HR2.out.hB 1).trans rfl
  have c0 : w3.cell? ⟨B, 0, none⟩ = some (.slice A2 (ts.length + 1) c2) := (blk_cell HR2.out.hB 0).trans rfl
  have HV3 : Aside0 (∀ W, Below w3.heap.size w3 W → Came W v xs) := ⟨fun W hW => HV.out W (HK2.out.below hW)⟩
  go_region_held3 (fun w' => w'.cell? ⟨B, 1, none⟩ = some (.map (some M))) (go_keep) (first | (go_at_call 36; (with_reducible refine (clone_any (HV3.out _ ?_)).mono ?_); (· (repeat (with_reducible first | exact Below.refl _ _ | apply below_drew | apply pw_below_drewN))); rintro e w9 ⟨v9, rfl, hb9, hr9⟩; have hb : Below w3.heap.size w3 w9 := ⟨hb9.os, hb9.tape, hb9.output, hb9.size, hb9.block⟩; have HR9 : Aside0 (RM w9 base B M F (.slice A2 (ts.length + 1) c2) l clock (ts ++ [tick]) ls) := ⟨HR2.out.below hb⟩; have HX9 := Aside0.mk hr9; have HB9 := Aside0.mk hb; clear hr9 hb9 hb; have c9 : w9.cell? ⟨B, 1, none⟩ = some (.map (some M)) := (blk_cell HR9.out.hB 1).trans rfl; have cput := HR9.out.cell_put (.map (MapI.mk (l ++ [(tick, v9, clock)])).toArray (clock + 1)); have hput := run_put (v := v9) Try.underlying70 Try.underlying3 HR9.out.hM hs))
  have hbs : base ≤ w3.heap.size := Nat.le_trans HR2.out.bB (Nat.le_of_lt (blk_lt HR2.out.hB))
  have hB9 : Below base w w9 := HB3.out.trans ⟨HB9.out.os, HB9.out.tape, HB9.out.output, HB9.out.size, fun k hk => HB9.out.block k (by omega)⟩
  have hK9 : Kept w w9 F := HK2.out.below HB9.out
  have hX9 : k67.R 67 w9 base F v9 xs := Kd.R_mono (Kd.R_lower HX9.out hbs) (fun k hk => HF3.out k hk)
  have HR4 : Aside0 (RM (setBlock w9 M (.map (mk (l ++ [(tick, v9, clock)])).toArray (clock + 1))) base B M F (.slice A2 (ts.length + 1) c2) (l ++ [(tick, v9, clock)]) (clock + 1) (ts ++ [tick]) (ls ++ [xs])) := ⟨HR9.out.entries (Both.snoc (p := fun (x : Int × Value × Nat) xs => k67.R 67 w9 base F x.2.1 xs) (a := (tick, v9, clock)) hX9 HR9.out.hl)⟩
  have HB4 : Aside0 (Below base w (setBlock w9 M (.map (mk (l ++ [(tick, v9, clock)])).toArray (clock + 1)))) := ⟨below_block hB9 HR9.out.bM _⟩
  have HK4 : Aside0 (Kept w (setBlock w9 M (.map (mk (l ++ [(tick, v9, clock)])).toArray (clock + 1))) F) := ⟨kept_block hK9 HR9.out.fM _⟩
  have hll : l.length = ls.length := hll0
  have hlt' : l.length = ts.length := by rw [← hkeys, List.length_map]
  clear hput cput c9 HX9 hX9 hB9 hK9 HB9 HR9 HV3 c0 c1 HF3 HB3 HK2 HR2 HT HF HV HBB HQQ
  generalize setBlock w9 M (.map (mk (l ++ [(tick, v9, clock)])).toArray (clock + 1)) = w4 at *
  have c0 : w4.cell? ⟨B, 0, none⟩ = some (.slice A2 (ts.length + 1) c2) := (blk_cell HR4.out.hB 0).trans rfl
  have c1 : w4.cell? ⟨B, 1, none⟩ = some (.map (some M)) := (blk_cell HR4.out.hB 1).trans rfl
  by_cases h6 : ts.length < 64
  · have h6a : ¬ ((ts.length : Int) + 1 > 64) := by omega
    have h6b : ((ts.length : Int) + 1 ≤ 64) := by omega
    go_wp2
    go_ret
    refine ⟨rfl, HB4.out, HK4.out, M, .slice A2 (ts.length + 1) c2, l ++ [(tick, v9, clock)], clock + 1, ?_, ?_⟩
    · rw [push, push, if_pos h6, if_pos (by omega)]
      exact HR4.out
    · rw [push, if_pos h6, List.map_append, hkeys]
      rfl
  · have h6a : (64 : Int) < (ts.length : Int) + 1 := by omega
    obtain ⟨g, o, c3, e3, hFg, k0, _⟩ := q_cells HR4.out.hq (by simp)
    rw [List.length_append, List.length_singleton] at e3
    injection e3 with e3 _ e4
    subst e3
    subst e4
    obtain ⟨t0, v0, b0, l2, hl2⟩ : ∃ t0 v0 b0 l2, l ++ [(tick, v9, clock)] = (t0, v0, b0) :: l2 := by
      cases l with
      | nil => exact ⟨_, _, _, _, rfl⟩
      | cons x l => exact ⟨_, _, _, _, rfl⟩
    have hts : ts ++ [tick] = t0 :: l2.map (·.1) := by
      have := congrArg (List.map (·.1)) hl2
      rw [List.map_append, hkeys] at this
      exact this
    rw [show firstOf (ts ++ [tick]) = t0 by rw [hts]; rfl] at k0
    have hM4 : w4.drew.heap[M]? = some (.map (mk ((t0, v0, b0) :: l2)).toArray (clock + 1)) := by rw [← hl2]; exact HR4.out.hM
    have hdel := fun T2 => run_drop (T2 := T2) Try.underlying70 Try.underlying3 hM4
    have hRd : RM w4.drew base B M F (.slice (some ⟨g, o, none⟩) (ts.length + 1) c2) ((t0, v0, b0) :: l2) (clock + 1) (ts ++ [tick]) (ls ++ [xs]) := by rw [← hl2]; exact HR4.out.below (below_drew (Below.refl _ _))
    obtain ⟨x0, lr, hlr⟩ : ∃ x0 lr, ls ++ [xs] = x0 :: lr := by
      cases ls with
      | nil => exact ⟨_, _, rfl⟩
      | cons x l => exact ⟨_, _, rfl⟩
    have hl5 := hRd.hl
    rw [hlr] at hl5
    have HR5 : Aside0 (RM (setBlock w4.drew M (.map (mk l2).toArray (clock + 1))) base B M F (.slice (some ⟨g, o, none⟩) (ts.length + 1) c2) l2 (clock + 1) (ts ++ [tick]) lr) := ⟨hRd.entries hl5.2⟩
    have HB5 : Aside0 (Below base w (setBlock w4.drew M (.map (mk l2).toArray (clock + 1)))) := ⟨below_block (below_drew HB4.out) HR4.out.bM _⟩
    have HK5 : Aside0 (Kept w (setBlock w4.drew M (.map (mk l2).toArray (clock + 1))) F) := ⟨kept_block (HK4.out.drew) HR4.out.fM _⟩
    have p0 : (setBlock w4.drew M (.map (mk l2).toArray (clock + 1))).cell? ⟨B, 0, none⟩ = some (.slice (some ⟨g, o, none⟩) (ts.length + 1) c2) := (blk_cell HR5.out.hB 0).trans rfl
    have p1 : (setBlock w4.drew M (.map (mk l2).toArray (clock + 1))).cell? ⟨B, 1, none⟩ = some (.map (some M)) := (blk_cell HR5.out.hB 1).trans rfl
    have f0 : (setBlock w4.drew M (.map (mk l2).toArray (clock + 1))).frozen? ⟨B, 0, none⟩ = false := blk_frozen HR5.out.hB 0
    have p2 : (setBlock w4.drew M (.map (mk l2).toArray (clock + 1))).cell? ⟨g, o, none⟩ = some (.int .i64 t0) := by
      obtain ⟨g', o', c', e', _, k5, _⟩ := q_cells HR5.out.hq (by simp)
      injection e' with e' _ _
      injection e' with e'
      injection e' with e1 e2 _
      subst e1
      subst e2
      rw [k5, hts]
      rfl
    clear hM4 hRd hl5
    go_wp2_with fail
    go_region_held3 (fun w' => w'.cell? ⟨B, 1, none⟩ = some (.map (some M)) ∧ w'.cell? ⟨B, 0, none⟩ = some (.slice (some ⟨g, o, none⟩) (ts.length + 1) c2) ∧ w'.cell? ⟨g, o, none⟩ = some (.int .i64 t0)) (first | go_keep | (simp [*]; done)) (fail)
    generalize setBlock w4.drew M (.map (mk l2).toArray (clock + 1)) = w5 at *
    clear c0 c1 k0 HB4 HK4 HR4 hdel
    have hc2 : ¬ c2 = 1 := by
      rw [List.length_append, List.length_singleton] at hlc2
      omega
    have hq5 : (Kd.int .i64).Q 3 w5 base F (.slice (some ⟨g, o + 1, none⟩) ts.length (c2 - 1)) (l2.map (·.1)) := by
      have h := Kd.Q_drop (k := 1) HR5.out.hq (by rw [hts]; simp)
      rw [if_neg hc2, hts] at h
      exact h
    have HE : Aside0 (RM (w5.setCell ⟨B, 0, none⟩ (.slice (some ⟨g, o + 1, none⟩) ts.length (c2 - 1))) base B M F (.slice (some ⟨g, o + 1, none⟩) ts.length (c2 - 1)) l2 (clock + 1) (l2.map (·.1)) lr) := ⟨HR5.out.ticks (World.grownBy.refl _ _) hq5⟩
    clear hq5
    have hcut := cut_from 69 3 .i64 Try.underlying69 (info_parts info3).choose_spec.1 1 (info_parts info3).choose_spec.2.2.1 (some ⟨g, o, none⟩) (ts.length + 1) c2 1 (by omega) (by omega)
    go_wp2
    go_ret
    refine ⟨rfl, HB5.out.setCell HE.out.bB _, HK5.out.setCell (.inl HE.out.fB) _, M, .slice (some ⟨g, o + 1, none⟩) ts.length (c2 - 1), l2, clock + 1, ?_, ?_⟩
    · rw [push, push, if_neg h6, if_neg (by omega), hts, hlr]
      exact HE.out
    · rw [push, if_neg h6, hts]
      rfl
end Go.Proofs.Ytcbmkhogmdkpdaa.Ring
