import Derived.Test.YtgppnfnbihngnaaTSignP
import Derived.Lib.Strings
set_option linter.unusedVariables false
set_option linter.unusedSimpArgs false
namespace Go.Proofs.Ytgppnfnbihngnaa.Tiles
open Go.RowKit Go.Proofs.YtgppnfnbihngnaaW.PrintWords Go.Proofs.YtgppnfnbihngnaaW.PrintLast Go.Proofs.YtgppnfnbihngnaaW.PrintMore Go.Proofs.Ytgppnfnbihngnaa.PTilesFree

theorem dec_hit0 {s : ByteArray} {p : Nat} (h : hit s p 0 = true) : Utf8.decode s p = (9608, 3) := by
  obtain ⟨a, b0, b1, b2⟩ := (hit0 s p).1 h
  simp [Utf8.decode, b0, b1, b2, show p + 1 < s.size by omega, show p + 2 < s.size by omega, Utf8.valid]
theorem dec_hit1 {s : ByteArray} {p : Nat} (h : hit s p 1 = true) : Utf8.decode s p = (183, 2) := by
  obtain ⟨a, b0, b1⟩ := (hit1 s p).1 h
  simp [Utf8.decode, b0, b1, show p + 1 < s.size by omega]
theorem dec_hit2 {s : ByteArray} {p : Nat} (h : hit s p 2 = true) : Utf8.decode s p = (9678, 3) := by
  obtain ⟨a, b0, b1, b2⟩ := (hit2 s p).1 h
  simp [Utf8.decode, b0, b1, b2, show p + 1 < s.size by omega, show p + 2 < s.size by omega, Utf8.valid]
theorem dec_hit3 {s : ByteArray} {p : Nat} (h : hit s p 3 = true) : Utf8.decode s p = (10, 1) := by
  obtain ⟨a, b0⟩ := (hit3 s p).1 h
  simp [Utf8.decode, b0]
/-- A sign that is taken is one of the four. -/
theorem hit_of_step {s : ByteArray} {p : Nat} {x : Int} {m : TM} {r : Int × TM} (h : p < s.size) (hs : stepF (Utf8.decode s p).1 x m = some r) :
    hit s p 0 = true ∨ hit s p 1 = true ∨ hit s p 2 = true ∨ hit s p 3 = true := by
  by_cases h0 : hit s p 0 = true
  · exact .inl h0
  by_cases h1 : hit s p 1 = true
  · exact .inr (.inl h1)
  by_cases h2 : hit s p 2 = true
  · exact .inr (.inr (.inl h2))
  by_cases h3 : hit s p 3 = true
  · exact .inr (.inr (.inr h3))
  exfalso
  have e : signFrom s p 4 0 = (0, 0) := by rw [signFrom_eq, if_neg h0, if_neg h1, if_neg h2, if_neg h3]
  rcases sign_cases s p h with ⟨_, _, g⟩ | ⟨_, _, g⟩ | ⟨_, _, g⟩ | ⟨_, _, g⟩ | ⟨g0, g1, g2, g3, _⟩
  · rw [e] at g; exact absurd g (by decide)
  · rw [e] at g; exact absurd g (by decide)
  · rw [e] at g; exact absurd g (by decide)
  · rw [e] at g; exact absurd g (by decide)
  · unfold stepF at hs
    rw [if_neg (by omega), if_pos (.inl ⟨by omega, by omega, by omega⟩)] at hs
    cases hs
theorem upto_size (s : ByteArray) (k : Nat) (h : k ≤ s.size) : (s.extract 0 k).size = k := by
  simp; omega
theorem upto_get (s : ByteArray) (k i : Nat) (h : k ≤ s.size) (hi : i < k) : (s.extract 0 k).get! i = s.get! i := by
  have h1 : i < (s.extract 0 k).data.toList.length := by rw [← sz_list, upto_size s k h]; exact hi
  rw [← get_list _ i h1]
  have h2 : i < s.data.toList.length := by rw [← sz_list]; omega
  rw [← get_list s i h2]
  have e : (s.extract 0 k).data.toList = (s.data.toList.drop 0).take (k - 0) := Lib.extract_data s 0 k
  simp only [e, List.drop_zero, List.getElem_take]
theorem hit_upto {s : ByteArray} {k p j : Nat} (h : k ≤ s.size) (hj : j = 0 ∨ j = 1 ∨ j = 2 ∨ j = 3) (hp : p + (sg j).size ≤ k) (hh : hit s p j = true) : hit (s.extract 0 k) p j = true := by
  rcases hj with rfl | rfl | rfl | rfl
  · have hp' : p + 3 ≤ k := hp
    obtain ⟨a, b0, b1, b2⟩ := (hit0 s p).1 hh
    exact (hit0 _ p).2 ⟨by rw [upto_size s k h]; exact hp', by rw [upto_get s k _ h (by omega)]; exact b0, by rw [upto_get s k _ h (by omega)]; exact b1, by rw [upto_get s k _ h (by omega)]; exact b2⟩
  · have hp' : p + 2 ≤ k := hp
    obtain ⟨a, b0, b1⟩ := (hit1 s p).1 hh
    exact (hit1 _ p).2 ⟨by rw [upto_size s k h]; exact hp', by rw [upto_get s k _ h (by omega)]; exact b0, by rw [upto_get s k _ h (by omega)]; exact b1⟩
  · have hp' : p + 3 ≤ k := hp
    obtain ⟨a, b0, b1, b2⟩ := (hit2 s p).1 hh
    exact (hit2 _ p).2 ⟨by rw [upto_size s k h]; exact hp', by rw [upto_get s k _ h (by omega)]; exact b0, by rw [upto_get s k _ h (by omega)]; exact b1, by rw [upto_get s k _ h (by omega)]; exact b2⟩
  · have hp' : p + 1 ≤ k := hp
    obtain ⟨a, b0⟩ := (hit3 s p).1 hh
    exact (hit3 _ p).2 ⟨by rw [upto_size s k h]; exact hp', by rw [upto_get s k _ h (by omega)]; exact b0⟩
theorem dec_cut3 (t : ByteArray) (p : Nat) (b : (t.get! p).toNat = 226) (h : t.size < p + 3) : Utf8.decode t p = (65533, 1) := by
  simp only [Utf8.decode, Nat.add_zero, b]
  by_cases h1 : p + 1 < t.size
  · simp [show ¬ p + 2 < t.size by omega, Utf8.runeError]
  · simp [h1, Utf8.runeError]
theorem dec_cut2 (t : ByteArray) (p : Nat) (b : (t.get! p).toNat = 194) (h : t.size < p + 2) : Utf8.decode t p = (65533, 1) := by
  simp [Utf8.decode, Nat.add_zero, b, show ¬ p + 1 < t.size by omega, Utf8.runeError]
theorem step_bad (x : Int) (m : TM) : stepF 65533 x m = none := by
  unfold stepF
  rw [if_neg (by decide), if_pos (.inl (by decide))]
/-- What is told of a text that is cut. -/
def CutOk (s : ByteArray) (k : Nat) (r : TM × Int × Int) : Prop :=
  (r.2.2 = 0 ∧ 0 < k ∧ (s.get! (k - 1)).toNat = 10) ∨ (r.2.2 = 2 ∧ (r.2.1 = (k : Int) ∨ (r.2.1 < (k : Int) ∧ (k : Int) - r.2.1 < 4)))
theorem cut_law (s : ByteArray) (k : Nat) (hk : k ≤ s.size) : ∀ (F G p : Nat) (x : Int) (m : TM), s.size ≤ p + F → k ≤ p + G → p ≤ k → 0 ≤ x → (readF s F p x m).2.2 = 0 →
    (p = 0 → m.sp = []) → (p = 0 ∨ 0 < x ∨ (s.get! (p - 1)).toNat = 10) → CutOk s k (readF (s.extract 0 k) G p x m) := by
  intro F
  induction F with
  | zero =>
    intro G p x m h1 h2 h3 h0 he hm hx
    have hpk : p = k := by omega
    subst hpk
    have e : readF (s.extract 0 p) G p x m = endF (s.extract 0 p) x m := by
      cases G with
      | zero => rfl
      | succ G => simp only [readF]; rw [if_neg (by rw [upto_size s p hk]; omega)]
    rw [e]
    unfold endF
    rw [upto_size s p hk]
    by_cases hq : 0 < x ∨ (m.sp.length : Int) = 0
    · rw [if_pos hq]; exact .inr ⟨rfl, .inl rfl⟩
    · rw [if_neg hq]
      have hp : p ≠ 0 := fun e => by have := hm e; simp [this] at hq
      exact .inl ⟨rfl, by omega, by rcases hx with h | h | h <;> first | exact h | omega⟩
  | succ F ih =>
    intro G p x m h1 h2 h3 h0 he hm hx
    by_cases hpk : p = k
    · subst hpk
      have e : readF (s.extract 0 p) G p x m = endF (s.extract 0 p) x m := by
        cases G with
        | zero => rfl
        | succ G => simp only [readF]; rw [if_neg (by rw [upto_size s p hk]; omega)]
      rw [e]
      unfold endF
      rw [upto_size s p hk]
      by_cases hq : 0 < x ∨ (m.sp.length : Int) = 0
      · rw [if_pos hq]; exact .inr ⟨rfl, .inl rfl⟩
      · rw [if_neg hq]
        have hp : p ≠ 0 := fun e => by have := hm e; simp [this] at hq
        exact .inl ⟨rfl, by omega, by rcases hx with h | h | h <;> first | exact h | omega⟩
    · have hps : p < s.size := by omega
      have hpt : p < (s.extract 0 k).size := by rw [upto_size s k hk]; omega
      obtain ⟨G, rfl⟩ : ∃ g, G = g + 1 := ⟨G - 1, by omega⟩
      simp only [readF, if_pos hps] at he
      cases hst : stepF (Utf8.decode s p).1 x m with
      | none => rw [hst] at he; simp at he
      | some r =>
        obtain ⟨x', m'⟩ := r
        rw [hst] at he
        dsimp only at he
        have hx' : 0 ≤ x' ∧ ((Utf8.decode s p).1 ≠ 10 → 0 < x') := by
          have hst' := hst
          unfold stepF at hst'
          split at hst'
          · rename_i hc
            split at hst'
            · cases hst'
            · simp only [Option.some.injEq, Prod.mk.injEq] at hst'
              obtain ⟨rfl, rfl⟩ := hst'
              exact ⟨Int.le_refl _, fun h => absurd hc (by omega)⟩
          · split at hst'
            · cases hst'
            · simp only [Option.some.injEq, Prod.mk.injEq] at hst'
              obtain ⟨rfl, rfl⟩ := hst'
              exact ⟨by omega, fun _ => by omega⟩
        have hgo : ∀ c n, 1 ≤ n → Utf8.decode s p = (c, n) → Utf8.decode (s.extract 0 k) p = (c, n) → p + n ≤ k → (c = 10 → n = 1 ∧ (s.get! p).toNat = 10) → CutOk s k (readF (s.extract 0 k) (G + 1) p x m) := by
          intro c n hn ds dt hpn hc
          simp only [readF, if_pos hpt, dt]
          rw [ds] at hst he hx'
          dsimp only at hst he hx' ⊢
          rw [hst]
          dsimp only
          refine ih G (p + n) x' m' (by omega) (by omega) hpn hx'.1 he (fun h => by omega) ?_
          by_cases h10 : c = 10
          · obtain ⟨rfl, h10'⟩ := hc h10
            exact .inr (.inr (by simpa using h10'))
          · exact .inr (.inl (hx'.2 h10))
        have hno : Utf8.decode (s.extract 0 k) p = (65533, 1) → k < p + 3 → CutOk s k (readF (s.extract 0 k) (G + 1) p x m) := by
          intro dt hc
          simp only [readF, if_pos hpt, dt]
          rw [show stepF ((65533 : Nat) : Int) x m = none from step_bad x m]
          exact .inr ⟨rfl, .inr ⟨by show (p : Int) < k; omega, by show (k : Int) - p < 4; omega⟩⟩
        rcases hit_of_step hps hst with h | h | h | h
        · by_cases hc : p + 3 ≤ k
          · exact hgo _ _ (by decide) (dec_hit0 h) (dec_hit0 (hit_upto hk (.inl rfl) hc h)) hc (fun e => absurd e (by decide))
          · have hb := ((hit0 s p).1 h).2.1
            exact hno (dec_cut3 _ p (by rw [upto_get s k p hk (by omega)]; exact hb) (by rw [upto_size s k hk]; omega)) (by omega)
        · by_cases hc : p + 2 ≤ k
          · exact hgo _ _ (by decide) (dec_hit1 h) (dec_hit1 (hit_upto hk (.inr (.inl rfl)) hc h)) hc (fun e => absurd e (by decide))
          · have hb := ((hit1 s p).1 h).2.1
            exact hno (dec_cut2 _ p (by rw [upto_get s k p hk (by omega)]; exact hb) (by rw [upto_size s k hk]; omega)) (by omega)
        · by_cases hc : p + 3 ≤ k
          · exact hgo _ _ (by decide) (dec_hit2 h) (dec_hit2 (hit_upto hk (.inr (.inr (.inl rfl))) hc h)) hc (fun e => absurd e (by decide))
          · have hb := ((hit2 s p).1 h).2.1
            exact hno (dec_cut3 _ p (by rw [upto_get s k p hk (by omega)]; exact hb) (by rw [upto_size s k hk]; omega)) (by omega)
        · exact hgo _ _ (by decide) (dec_hit3 h) (dec_hit3 (hit_upto hk (.inr (.inr (.inr rfl))) (by show p + 1 ≤ k; omega) h)) (by omega) (fun _ => ⟨rfl, ((hit3 s p).1 h).2⟩)
theorem tread_cut (s : ByteArray) (k : Nat) (hk : k ≤ s.size) (he : (tread s).2.2 = 0) : CutOk s k (tread (s.extract 0 k)) := by
  unfold tread at he
  unfold tread
  rw [upto_size s k hk]
  exact cut_law s k hk s.size k 0 0 TM.zero (by omega) (by omega) (by omega) (by decide) he (fun _ => rfl) (.inl rfl)
theorem tread_pos (s : ByteArray) (he : (tread s).2.2 = 0) : 0 < s.size := by
  apply Nat.pos_of_ne_zero
  intro h
  unfold tread at he
  rw [h] at he
  simp [readF, endF, TM.zero] at he
end Go.Proofs.Ytgppnfnbihngnaa.Tiles
