import Derived.Test.YtgppnfnbihngnaaTTextP
import Derived.Test.YtgppnfnbihngnaaTPlain
set_option linter.unusedVariables false
set_option linter.unusedSimpArgs false
namespace Go.Proofs.Ytgppnfnbihngnaa.Tiles
open Go.RowKit Go.Proofs.YtgppnfnbihngnaaW.PrintWords Go.Proofs.YtgppnfnbihngnaaW.PrintLast Go.Proofs.YtgppnfnbihngnaaW.PrintMore Go.Proofs.Ytgppnfnbihngnaa.PTilesFree

theorem spU_mem {W : Int} {ws : List Bool} {sp : List S39} {q : S39} : ∀ {N : Nat}, q ∈ spU W ws sp N → ∃ j, j < N ∧ q = midJ W j
  | 0, h => by cases h
  | N + 1, h => by
    have h' : q ∈ spU W ws sp N ++ (if sgn W ws sp N = 2 then [midJ W N] else []) := h
    rcases List.mem_append.1 h' with h | h
    · obtain ⟨j, hj, e⟩ := spU_mem h
      exact ⟨j, by omega, e⟩
    · split at h
      · exact ⟨N, by omega, by simpa using h⟩
      · cases h
theorem row_congr {W : Int} {ws ws' : List Bool} {sp sp' : List S39} {t t' : ByteArray} {base : Nat} (ht : t = t') : ∀ x, (∀ j, base ≤ j → j < base + x → sgn W ws sp j = sgn W ws' sp' j) → rowF W ws sp t base x = rowF W ws' sp' t' base x
  | 0, _ => ht
  | x + 1, h => by
    have ih := row_congr (W := W) (ws := ws) (ws' := ws') (sp := sp) (sp' := sp') (base := base) ht x (fun j a b => h j a (by omega))
    show rowF W ws sp t base x ++ _ = rowF W ws' sp' t' base x ++ _
    rw [ih, h (base + x) (by omega) (by omega)]
theorem text_congr {W : Int} {n : Nat} {ws ws' : List Bool} {sp sp' : List S39} : ∀ y, (∀ j, j < y * n → sgn W ws sp j = sgn W ws' sp' j) → textF W n ws sp y = textF W n ws' sp' y
  | 0, _ => rfl
  | y + 1, h => by
    have e : (y + 1) * n = y * n + n := by rw [Nat.add_mul, Nat.one_mul]
    have ih := text_congr (W := W) (n := n) (ws := ws) (ws' := ws') (sp := sp) (sp' := sp') y (fun j hj => h j (by omega))
    show rowF W ws sp (textF W n ws sp y) (y * n) n ++ sg 3 = rowF W ws' sp' (textF W n ws' sp' y) (y * n) n ++ sg 3
    rw [row_congr ih n (fun j _ hj => h j (by omega))]
theorem P_congr {W : Int} {n : Nat} {ws ws' : List Bool} {sp sp' : List S39} {y x : Nat} (h : ∀ j, j < y * n + x → sgn W ws sp j = sgn W ws' sp' j) : P W n ws sp y x = P W n ws' sp' y x :=
  row_congr (text_congr y (fun j hj => h j (by omega))) x (fun j _ hj => h j hj)
theorem spU_congr {W : Int} {ws ws' : List Bool} {sp sp' : List S39} : ∀ N, (∀ j, j < N → sgn W ws sp j = sgn W ws' sp' j) → spU W ws sp N = spU W ws' sp' N
  | 0, _ => rfl
  | N + 1, h => by
    have ih := spU_congr (W := W) (ws := ws) (ws' := ws') (sp := sp) (sp' := sp') N (fun j hj => h j (by omega))
    show spU W ws sp N ++ (if sgn W ws sp N = 2 then [midJ W N] else []) = spU W ws' sp' N ++ (if sgn W ws' sp' N = 2 then [midJ W N] else [])
    rw [ih, h N (by omega)]
theorem hit_take {s : ByteArray} {p k : Nat} (h : hit s p k = true) : s.data.toList.take p ++ (sg k).data.toList = s.data.toList.take (p + (sg k).size) := by
  unfold hit at h
  rw [Bool.and_eq_true, decide_eq_true_eq, decide_eq_true_eq] at h
  obtain ⟨h1, h2⟩ := h
  have e : (s.extract p (p + (sg k).size)).data.toList = (s.data.toList.drop p).take (p + (sg k).size - p) := Lib.extract_data s p (p + (sg k).size)
  rw [h2, show p + (sg k).size - p = (sg k).size by omega] at e
  rw [List.take_add, e]
/-- What has been read of s is the text of the tiles so far. -/
def Core (s : ByteArray) (pos n y xn : Nat) (m : TM) : Prop :=
  m.ws.length = y * n + xn ∧ (P (n : Int) n m.ws m.sp y xn).data.toList = s.data.toList.take pos ∧ spU (n : Int) m.ws m.sp m.ws.length = m.sp
theorem Core.tile {s : ByteArray} {pos n y xn k : Nat} {m : TM} (h : Core s pos n y xn m) (hn : n ≤ 32) (hx : xn < n) (hy : y < 32) (hH : m.H = (y : Int)) (hk : k ≤ 2) (hh : hit s pos k = true) :
    Core s (pos + (sg k).size) n y (xn + 1) { m with ws := m.ws ++ [k == 0], sp := if k = 2 then m.sp ++ [midF (xn : Int) m.H] else m.sp } := by
  obtain ⟨h1, h2, h3⟩ := h
  obtain ⟨J, hJ⟩ : ∃ J, m.ws.length = J := ⟨_, rfl⟩
  have hJ2 : J = y * n + xn := by rw [← hJ]; exact h1
  have hJs : J ≤ 1100 := by
    have : y * n ≤ 31 * 32 := Nat.mul_le_mul (by omega) hn
    omega
  have hmid : midJ (n : Int) J = midF (xn : Int) m.H := by rw [hJ2, hH]; exact mid_tile rfl hx
  have hold : ∀ j, j < J → midJ (n : Int) j ≠ midJ (n : Int) J := fun j hj e => by
    have := midJ_inj (n : Int) j J (by omega) (by omega) (by omega) hJs e
    omega
  have hnot : hasS m.sp (midJ (n : Int) J) = false := by
    cases hb : hasS m.sp (midJ (n : Int) J) with
    | false => rfl
    | true =>
      rw [hasS_iff, ← h3, hJ] at hb
      obtain ⟨j, hj, e⟩ := spU_mem hb
      exact absurd e.symm (hold j hj)
  have hsp' : (if k = 2 then m.sp ++ [midF (xn : Int) m.H] else m.sp) = m.sp ++ (if k = 2 then [midJ (n : Int) J] else []) := by
    rw [hmid]; split <;> simp
  rw [hsp']
  have hfr : ∀ j, j < J → sgn (n : Int) (m.ws ++ [k == 0]) (m.sp ++ (if k = 2 then [midJ (n : Int) J] else [])) j = sgn (n : Int) m.ws m.sp j := by
    intro j hj
    unfold sgn
    have e1 : (m.ws ++ [k == 0]).getD j false = m.ws.getD j false := by
      simp only [List.getD]
      rw [List.getElem?_append_left (by omega)]
    have e2 : hasS (m.sp ++ (if k = 2 then [midJ (n : Int) J] else [])) (midJ (n : Int) j) = hasS m.sp (midJ (n : Int) j) := by
      rw [Bool.eq_iff_iff, hasS_iff, hasS_iff, List.mem_append]
      constructor
      · rintro (h | h)
        · exact h
        · split at h
          · exact absurd (by simpa using h) (hold j hj)
          · cases h
      · exact .inl
    rw [e1, e2]
  have hnew : sgn (n : Int) (m.ws ++ [k == 0]) (m.sp ++ (if k = 2 then [midJ (n : Int) J] else [])) J = k := by
    unfold sgn
    have e1 : (m.ws ++ [k == 0]).getD J false = (k == 0) := by
      simp only [List.getD]
      rw [List.getElem?_append_right (by omega), hJ]
      simp
    rw [e1]
    match k, hk with
    | 0, _ => rfl
    | 1, _ =>
      rw [if_neg (by decide), if_neg (by rw [if_neg (by decide), List.append_nil, hnot]; decide)]
    | 2, _ =>
      rw [if_neg (by decide), if_pos (by rw [hasS_iff, if_pos rfl]; simp)]
  refine ⟨?_, ?_, ?_⟩
  · show (m.ws ++ [k == 0]).length = _
    rw [List.length_append, hJ, hJ2]; rfl
  · show (P (n : Int) n (m.ws ++ [k == 0]) _ y (xn + 1)).data.toList = _
    rw [P_succ, ← hJ2, hnew, P_congr (fun j hj => hfr j (by omega)), h2]
    exact hit_take hh
  · show spU (n : Int) (m.ws ++ [k == 0]) _ (m.ws ++ [k == 0]).length = _
    rw [List.length_append, hJ]
    show spU (n : Int) (m.ws ++ [k == 0]) _ J ++ (if sgn (n : Int) (m.ws ++ [k == 0]) _ J = 2 then [midJ (n : Int) J] else []) = _
    rw [hnew, spU_congr J hfr, ← hJ, h3]
theorem Core.line {s : ByteArray} {pos n y : Nat} {m : TM} {W' H' : Int} (h : Core s pos n y n m) (hh : hit s pos 3 = true) : Core s (pos + 1) n (y + 1) 0 { m with W := W', H := H' } := by
  obtain ⟨h1, h2, h3⟩ := h
  refine ⟨?_, ?_, h3⟩
  · show m.ws.length = _
    rw [h1, Nat.add_mul, Nat.one_mul, Nat.add_zero]
  · show (P (n : Int) n m.ws m.sp (y + 1) 0).data.toList = _
    rw [P_zero, text_succ, h2]
    exact hit_take hh
theorem tile_inv {k : Nat} {x x' : Int} {m m' : TM} (hk : k ≤ 2) (hs : stepF (cp k) x m = some (x', m')) :
    x' = x + 1 ∧ m' = { m with ws := m.ws ++ [k == 0], sp := if k = 2 then m.sp ++ [midF x m.H] else m.sp } ∧ m.H ≠ 32 ∧ x ≠ 32 ∧ ¬ (0 < m.H ∧ x = m.W) := by
  have hc : ¬ cp k = 10 := by match k, hk with | 0, _ => decide | 1, _ => decide | 2, _ => decide
  have hb : (cp k == 9608) = (k == 0) ∧ (cp k = 9678 ↔ k = 2) := by match k, hk with | 0, _ => decide | 1, _ => decide | 2, _ => decide
  unfold stepF at hs
  rw [if_neg hc] at hs
  split at hs
  · cases hs
  · rename_i hh
    simp only [Option.some.injEq, Prod.mk.injEq] at hs
    obtain ⟨rfl, rfl⟩ := hs
    refine ⟨rfl, ?_, fun e => hh (.inr (.inl e)), fun e => hh (.inr (.inr (.inl e))), fun e => hh (.inr (.inr (.inr e)))⟩
    rw [hb.1]
    by_cases h2 : k = 2
    · rw [if_pos (hb.2.2 h2), if_pos h2]
    · rw [if_neg (fun e => h2 (hb.2.1 e)), if_neg h2]
theorem line_inv {x x' : Int} {m m' : TM} (hs : stepF 10 x m = some (x', m')) : x' = 0 ∧ m' = { m with W := x, H := m.H + 1 } ∧ x ≠ 0 ∧ ¬ (x < m.W ∧ 0 < m.H) := by
  unfold stepF at hs
  rw [if_pos rfl] at hs
  split at hs
  · cases hs
  · rename_i hh
    simp only [Option.some.injEq, Prod.mk.injEq] at hs
    obtain ⟨rfl, rfl⟩ := hs
    exact ⟨rfl, rfl, fun e => hh (.inl e), fun e => hh (.inr e)⟩
def Bk (s : ByteArray) (pos : Nat) (x : Int) (m : TM) : Prop :=
  ∃ xn y : Nat, x = (xn : Int) ∧ m.H = (y : Int) ∧ ((y = 0 ∧ m.W = 0 ∧ ∀ n, 1 ≤ n → n ≤ 32 → xn ≤ n → Core s pos n 0 xn m) ∨ (0 < y ∧ ∃ n : Nat, m.W = (n : Int) ∧ 1 ≤ n ∧ n ≤ 32 ∧ xn ≤ n ∧ Core s pos n y xn m))
theorem Bk.tile {s : ByteArray} {pos k : Nat} {x x' : Int} {m m' : TM} (h : Bk s pos x m) (hx : x ≤ 32) (hH : m.H ≤ 32) (hk : k ≤ 2) (hh : hit s pos k = true) (hs : stepF (cp k) x m = some (x', m')) : Bk s (pos + (sg k).size) x' m' := by
  obtain ⟨xn, y, rfl, h2, h3⟩ := h
  obtain ⟨rfl, rfl, g1, g2, g3⟩ := tile_inv hk hs
  refine ⟨xn + 1, y, by omega, h2, ?_⟩
  rcases h3 with ⟨rfl, hW, hc⟩ | ⟨hy, n, hW, n1, n2, hxn, hc⟩
  · exact .inl ⟨rfl, hW, fun n n1 n2 hxn => (hc n n1 n2 (by omega)).tile n2 (by omega) (by decide) h2 hk hh⟩
  · exact .inr ⟨hy, n, hW, n1, n2, by omega, hc.tile n2 (by omega) (by omega) h2 hk hh⟩
theorem Bk.line {s : ByteArray} {pos : Nat} {x x' : Int} {m m' : TM} (h : Bk s pos x m) (hx : x ≤ 32) (hh : hit s pos 3 = true) (hs : stepF 10 x m = some (x', m')) : Bk s (pos + 1) x' m' := by
  obtain ⟨xn, y, rfl, h2, h3⟩ := h
  obtain ⟨rfl, rfl, g1, g2⟩ := line_inv hs
  refine ⟨0, y + 1, rfl, by show m.H + 1 = _; omega, .inr ⟨by omega, ?_⟩⟩
  rcases h3 with ⟨rfl, hW, hc⟩ | ⟨hy, n, hW, n1, n2, hxn, hc⟩
  · exact ⟨xn, rfl, by omega, by omega, by omega, (hc xn (by omega) (by omega) (Nat.le_refl _)).line hh⟩
  · have e : xn = n := by omega
    subst e
    exact ⟨xn, rfl, n1, n2, by omega, hc.line hh⟩
theorem Bk.start (s : ByteArray) : Bk s 0 0 TM.zero := ⟨0, 0, rfl, rfl, .inl ⟨rfl, rfl, fun n _ _ _ => ⟨by show (0 : Nat) = _; omega, rfl, rfl⟩⟩⟩
/-- What is read is a map, and its text is what was read. -/
def Done (s : ByteArray) (r : TM × Int × Int) : Prop := r.2.1 = 0 ∧ FormP r.1.W r.1.H r.1.ws r.1.sp ∧ textF r.1.W r.1.W.toNat r.1.ws r.1.sp r.1.H.toNat = s
theorem Bk.end {s : ByteArray} {x : Int} {m : TM} (h : Bk s s.size x m) (hH : m.H ≤ 32) (he : (endF s x m).2.2 = 0) : Done s (endF s x m) := by
  unfold endF at he ⊢
  split at he
  · simp at he
  · rename_i hh
    rw [if_neg hh]
    obtain ⟨xn, y, rfl, h2, h3⟩ := h
    have hx0 : xn = 0 := by omega
    subst hx0
    have hsp : ¬ m.sp = [] := fun e => hh (.inr (by rw [e]; rfl))
    rcases h3 with ⟨rfl, hW, hc⟩ | ⟨hy, n, hW, n1, n2, hxn, hc⟩
    · obtain ⟨c1, c2, c3⟩ := hc 1 (by decide) (by decide) (by decide)
      rw [c1] at c3
      exact absurd c3.symm hsp
    · obtain ⟨c1, c2, c3⟩ := hc
      have hy32 : y ≤ 32 := by omega
      have hl : m.ws.length ≤ 1024 := by
        have : y * n ≤ 32 * 32 := Nat.mul_le_mul hy32 n2
        omega
      have hlen : (m.ws.length : Int) = (n : Int) * (y : Int) := by
        rw [c1, Nat.add_zero, Nat.mul_comm]; norm_cast
      refine ⟨rfl, ?_, ?_⟩
      · show FormP m.W m.H m.ws m.sp
        rw [hW, h2]
        exact ⟨by omega, by omega, by omega, by omega, hlen, hsp, (spU_iff (by omega) (by omega) hl).1 c3⟩
      · show textF m.W m.W.toNat m.ws m.sp m.H.toNat = s
        rw [hW, h2]
        show textF (n : Int) n m.ws m.sp y = s
        apply bytes_eq
        rw [P_zero] at c2
        rw [c2, sz_list, List.take_length]
theorem back_ind (s : ByteArray) : ∀ (F pos : Nat) (x : Int) (m : TM), s.size ≤ pos + F → pos ≤ s.size → Fit pos x m → Bk s pos x m → (readF s F pos x m).2.2 = 0 → Done s (readF s F pos x m) := by
  intro F
  induction F with
  | zero =>
    intro pos x m h1 h2 hf hb he
    obtain rfl : pos = s.size := by omega
    exact hb.end hf.2.2.2.1 he
  | succ F ih =>
    intro pos x m h1 h2 hf hb he
    by_cases hp : pos < s.size
    · simp only [readF, if_pos hp] at he ⊢
      cases hst : stepF (Utf8.decode s pos).1 x m with
      | none => rw [hst] at he; simp at he
      | some r =>
        obtain ⟨x', m'⟩ := r
        rw [hst] at he
        dsimp only at he ⊢
        have hgo : ∀ n, 1 ≤ n → (Utf8.decode s pos).2 = n → pos + n ≤ s.size → Bk s (pos + n) x' m' → Done s (readF s F (pos + (Utf8.decode s pos).2) x' m') := by
          intro n hn e hpn hb'
          rw [e] at he ⊢
          exact ih (pos + n) x' m' (by omega) hpn (hf.step hn hst) hb' he
        rcases hit_of_step hp hst with h | h | h | h
        · have d := dec_hit0 h
          rw [d] at hst
          exact hgo 3 (by decide) (by rw [d]) ((hit0 s pos).1 h).1 (hb.tile (k := 0) hf.2.1 hf.2.2.2.1 (by decide) h hst)
        · have d := dec_hit1 h
          rw [d] at hst
          exact hgo 2 (by decide) (by rw [d]) ((hit1 s pos).1 h).1 (hb.tile (k := 1) hf.2.1 hf.2.2.2.1 (by decide) h hst)
        · have d := dec_hit2 h
          rw [d] at hst
          exact hgo 3 (by decide) (by rw [d]) ((hit2 s pos).1 h).1 (hb.tile (k := 2) hf.2.1 hf.2.2.2.1 (by decide) h hst)
        · have d := dec_hit3 h
          rw [d] at hst
          exact hgo 1 (by decide) (by rw [d]) ((hit3 s pos).1 h).1 (hb.line hf.2.1 h hst)
    · obtain rfl : pos = s.size := by omega
      simp only [readF, if_neg hp] at he ⊢
      exact hb.end hf.2.2.2.1 he
theorem tread_back (s : ByteArray) (he : (tread s).2.2 = 0) : Done s (tread s) := by
  unfold tread at he ⊢
  exact back_ind s s.size 0 0 TM.zero (by omega) (by omega) Fit.zero (Bk.start s) he
end Go.Proofs.Ytgppnfnbihngnaa.Tiles
