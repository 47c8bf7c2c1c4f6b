import Derived.Test.YtgppnfnbihngnaaTSign
set_option linter.unusedVariables false
set_option linter.unusedSimpArgs false
namespace Go.Proofs.Ytgppnfnbihngnaa.Tiles
open Go.RowKit Go.Proofs.YtgppnfnbihngnaaW.PrintWords Go.Proofs.YtgppnfnbihngnaaW.PrintLast Go.Proofs.YtgppnfnbihngnaaW.PrintMore Go.Proofs.Ytgppnfnbihngnaa.PTilesFree

theorem get_list (s : ByteArray) (i : Nat) (h : i < s.data.toList.length) : s.data.toList[i] = s.get! i := by
  obtain ⟨⟨l⟩⟩ := s
  have h' : i < l.length := h
  show l[i] = _
  simp [ByteArray.get!, h']
theorem ext_list (s : ByteArray) (a n : Nat) (l : List UInt8) : s.extract a (a + n) = ⟨⟨l⟩⟩ ↔ (s.data.toList.drop a).take n = l := by
  obtain ⟨⟨k⟩⟩ := s
  rw [ByteArray.extract_mk]
  simp
theorem sz_list (s : ByteArray) : s.size = s.data.toList.length := by
  simp only [Array.length_toList]
  rfl
theorem toNat_is (a : UInt8) (n : Nat) (hn : n < 256) : a = UInt8.ofNat n ↔ a.toNat = n := by
  constructor
  · rintro rfl; simp; omega
  · intro h; apply UInt8.toNat.inj; simp; omega
theorem take1 (s : ByteArray) (p : Nat) (h : p + 1 ≤ s.size) : (s.data.toList.drop p).take 1 = [s.get! p] := by
  rw [sz_list] at h
  rw [List.drop_eq_getElem_cons (by omega), get_list]; simp
theorem take2 (s : ByteArray) (p : Nat) (h : p + 2 ≤ s.size) : (s.data.toList.drop p).take 2 = [s.get! p, s.get! (p + 1)] := by
  rw [sz_list] at h
  rw [List.drop_eq_getElem_cons (by omega), get_list, List.drop_eq_getElem_cons (by omega), get_list]; simp
theorem take3 (s : ByteArray) (p : Nat) (h : p + 3 ≤ s.size) : (s.data.toList.drop p).take 3 = [s.get! p, s.get! (p + 1), s.get! (p + 2)] := by
  rw [sz_list] at h
  rw [List.drop_eq_getElem_cons (by omega), get_list, List.drop_eq_getElem_cons (by omega), get_list, List.drop_eq_getElem_cons (by omega), get_list]; simp
theorem hit0 (s : ByteArray) (p : Nat) : hit s p 0 = true ↔ p + 3 ≤ s.size ∧ (s.get! p).toNat = 226 ∧ (s.get! (p + 1)).toNat = 150 ∧ (s.get! (p + 2)).toNat = 136 := by
  unfold hit
  rw [show (sg 0).size = 3 from rfl, show sg 0 = ⟨⟨[226, 150, 136]⟩⟩ from rfl, Bool.and_eq_true, decide_eq_true_eq, decide_eq_true_eq, ext_list]
  refine ⟨fun ⟨h, e⟩ => ⟨h, ?_⟩, fun ⟨h, e⟩ => ⟨h, ?_⟩⟩
  · rw [take3 s p h] at e
    simp only [List.cons.injEq, and_true] at e
    obtain ⟨e1, e2, e3⟩ := e
    rw [e1, e2, e3]; decide
  · obtain ⟨e1, e2, e3⟩ := e
    rw [take3 s p h, (toNat_is _ 226 (by decide)).2 e1, (toNat_is _ 150 (by decide)).2 e2, (toNat_is _ 136 (by decide)).2 e3]; rfl
theorem hit1 (s : ByteArray) (p : Nat) : hit s p 1 = true ↔ p + 2 ≤ s.size ∧ (s.get! p).toNat = 194 ∧ (s.get! (p + 1)).toNat = 183 := by
  unfold hit
  rw [show (sg 1).size = 2 from rfl, show sg 1 = ⟨⟨[194, 183]⟩⟩ from rfl, Bool.and_eq_true, decide_eq_true_eq, decide_eq_true_eq, ext_list]
  refine ⟨fun ⟨h, e⟩ => ⟨h, ?_⟩, fun ⟨h, e⟩ => ⟨h, ?_⟩⟩
  · rw [take2 s p h] at e
    simp only [List.cons.injEq, and_true] at e
    obtain ⟨e1, e2⟩ := e
    rw [e1, e2]; decide
  · obtain ⟨e1, e2⟩ := e
    rw [take2 s p h, (toNat_is _ 194 (by decide)).2 e1, (toNat_is _ 183 (by decide)).2 e2]; rfl
theorem hit2 (s : ByteArray) (p : Nat) : hit s p 2 = true ↔ p + 3 ≤ s.size ∧ (s.get! p).toNat = 226 ∧ (s.get! (p + 1)).toNat = 151 ∧ (s.get! (p + 2)).toNat = 142 := by
  unfold hit
  rw [show (sg 2).size = 3 from rfl, show sg 2 = ⟨⟨[226, 151, 142]⟩⟩ from rfl, Bool.and_eq_true, decide_eq_true_eq, decide_eq_true_eq, ext_list]
  refine ⟨fun ⟨h, e⟩ => ⟨h, ?_⟩, fun ⟨h, e⟩ => ⟨h, ?_⟩⟩
  · rw [take3 s p h] at e
    simp only [List.cons.injEq, and_true] at e
    obtain ⟨e1, e2, e3⟩ := e
    rw [e1, e2, e3]; decide
  · obtain ⟨e1, e2, e3⟩ := e
    rw [take3 s p h, (toNat_is _ 226 (by decide)).2 e1, (toNat_is _ 151 (by decide)).2 e2, (toNat_is _ 142 (by decide)).2 e3]; rfl
theorem hit3 (s : ByteArray) (p : Nat) : hit s p 3 = true ↔ p + 1 ≤ s.size ∧ (s.get! p).toNat = 10 := by
  unfold hit
  rw [show (sg 3).size = 1 from rfl, show sg 3 = ⟨⟨[10]⟩⟩ from rfl, Bool.and_eq_true, decide_eq_true_eq, decide_eq_true_eq, ext_list]
  refine ⟨fun ⟨h, e⟩ => ⟨h, ?_⟩, fun ⟨h, e⟩ => ⟨h, ?_⟩⟩
  · rw [take1 s p h] at e
    simp only [List.cons.injEq, and_true] at e
    rw [e]; decide
  · rw [take1 s p h, (toNat_is _ 10 (by decide)).2 e]; rfl
theorem signFrom_eq (s : ByteArray) (p : Nat) : signFrom s p 4 0 = if hit s p 0 = true then (1, 3) else if hit s p 1 = true then (2, 2) else if hit s p 2 = true then (3, 3) else if hit s p 3 = true then (4, 1) else (0, 0) := rfl
set_option maxRecDepth 100000 in
/-- The reference's signs are the code points that the program looks for. -/
theorem sign_cases (s : ByteArray) (p : Nat) (h : p < s.size) :
    (Utf8.decode s p = (9608, 3) ∧ p + 3 ≤ s.size ∧ signFrom s p 4 0 = (1, 3)) ∨ (Utf8.decode s p = (183, 2) ∧ p + 2 ≤ s.size ∧ signFrom s p 4 0 = (2, 2)) ∨ (Utf8.decode s p = (9678, 3) ∧ p + 3 ≤ s.size ∧ signFrom s p 4 0 = (3, 3)) ∨
    (Utf8.decode s p = (10, 1) ∧ p + 1 ≤ s.size ∧ signFrom s p 4 0 = (4, 1)) ∨ ((Utf8.decode s p).1 ≠ 9608 ∧ (Utf8.decode s p).1 ≠ 183 ∧ (Utf8.decode s p).1 ≠ 9678 ∧ (Utf8.decode s p).1 ≠ 10 ∧ signFrom s p 4 0 = (0, 0)) := by
  rw [signFrom_eq]
  by_cases h0 : hit s p 0 = true
  · left
    rw [if_pos h0]
    obtain ⟨a, b0, b1, b2⟩ := (hit0 s p).1 h0
    exact ⟨by simp [Utf8.decode, b0, b1, b2, show p + 1 < s.size by omega, show p + 2 < s.size by omega, Utf8.valid], a, rfl⟩
  · rw [if_neg h0]
    by_cases h1 : hit s p 1 = true
    · right; left
      rw [if_pos h1]
      obtain ⟨a, b0, b1⟩ := (hit1 s p).1 h1
      exact ⟨by simp [Utf8.decode, b0, b1, show p + 1 < s.size by omega], a, rfl⟩
    · rw [if_neg h1]
      by_cases h2 : hit s p 2 = true
      · right; right; left
        rw [if_pos h2]
        obtain ⟨a, b0, b1, b2⟩ := (hit2 s p).1 h2
        exact ⟨by simp [Utf8.decode, b0, b1, b2, show p + 1 < s.size by omega, show p + 2 < s.size by omega, Utf8.valid], a, rfl⟩
      · rw [if_neg h2]
        by_cases h3 : hit s p 3 = true
        · right; right; right; left
          rw [if_pos h3]
          obtain ⟨a, b0⟩ := (hit3 s p).1 h3
          exact ⟨by simp [Utf8.decode, b0], a, rfl⟩
        · right; right; right; right
          rw [if_neg h3]
          rw [hit0] at h0; rw [hit1] at h1; rw [hit2] at h2; rw [hit3] at h3
          have hb : ∀ k, (s.get! (p + k)).toNat < 256 := fun k => (s.get! (p + k)).toNat_lt
          have g0 := hb 0; have g1 := hb 1; have g2 := hb 2; have g3 := hb 3
          clear hb
          simp only [Utf8.decode, Nat.add_zero] at g0 ⊢
          simp only [Bool.and_eq_true, beq_iff_eq, decide_eq_true_eq, Utf8.runeError]
          repeat' split
          all_goals (refine ⟨?_, ?_, ?_, ?_, trivial⟩ <;> (try dsimp only) <;> omega)
end Go.Proofs.Ytgppnfnbihngnaa.Tiles
