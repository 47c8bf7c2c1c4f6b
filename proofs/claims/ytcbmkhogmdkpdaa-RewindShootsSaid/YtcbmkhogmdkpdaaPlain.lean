/- Plain mathematics of numbers that are held, of quotients and roots rounded down, and of when a way meets a box. No Go and no program. -/
import Derived.Test.YtcbmkhogmdkpdaaWMore
namespace Go.Proofs.Ytcbmkhogmdkpdaa.Plain
open Go.RowKit Go.Proofs.YtcbmkhogmdkpdaaW.PrintWords
theorem sq_le {a b : Int} (ha : 0 ≤ a) (h : a ≤ b) : a * a ≤ b * b := Int.mul_le_mul h h ha (by omega)
/-- r is the root of x, rounded down. -/
def Root (r x : Int) : Prop := 0 ≤ r ∧ r * r ≤ x ∧ x < (r + 1) * (r + 1)
theorem Root.mono {r s x y : Int} (h1 : Root r x) (h2 : Root s y) (h : x ≤ y) : r ≤ s := by
  obtain ⟨a1, a2, a3⟩ := h1
  obtain ⟨b1, b2, b3⟩ := h2
  apply Int.not_lt.1
  intro hlt
  have := sq_le (a := s + 1) (b := r) (by omega) (by omega)
  omega
theorem Root.eq {r s x : Int} (h1 : Root r x) (h2 : Root s x) : r = s := by
  have := h1.mono h2 (by omega)
  have := h2.mono h1 (by omega)
  omega
/-- the product of two numbers within bounds lies within a bound. -/
theorem mul_bd {x y m n : Int} (hx : -m ≤ x) (hx' : x ≤ m) (hy : -n ≤ y) (hy' : y ≤ n) (hm : 0 ≤ m) (hn : 0 ≤ n) : -(m * n) ≤ x * y ∧ x * y ≤ m * n := by
  have key : (x * y).natAbs ≤ (m * n).natAbs := by
    rw [Int.natAbs_mul, Int.natAbs_mul]
    exact Nat.mul_le_mul (by omega) (by omega)
  have : 0 ≤ m * n := Int.mul_nonneg hm hn
  omega
def hold (x : Int) : Int := if x > 2147483647 then 2147483647 else if x < -2147483648 then -2147483648 else x
theorem hold_bd (x : Int) : -2147483648 ≤ hold x ∧ hold x ≤ 2147483647 := by unfold hold; omega
theorem floor_unique {a b q : Int} (hb : 0 < b) (h1 : q * b ≤ a) (h2 : a < (q + 1) * b) : a / b = q := by
  apply Int.le_antisymm
  · have := (Int.ediv_lt_iff_lt_mul hb).2 h2
    omega
  · exact (Int.le_ediv_iff_mul_le hb).2 h1
/-- A quotient to zero, lowered where it lies above: the quotient rounded down. -/
theorem tdiv_down {a b : Int} (hb : 0 < b) : (if a.tdiv b * b > a then a.tdiv b - 1 else a.tdiv b) = a / b := by
  by_cases ha : 0 ≤ a
  · rw [Int.tdiv_eq_ediv_of_nonneg ha]
    have := Int.ediv_mul_le a (show b ≠ 0 by omega)
    rw [if_neg (by omega)]
  · have e : a.tdiv b = -((-a) / b) := by
      have := Int.neg_tdiv (a := -a) (b := b)
      rw [Int.neg_neg] at this
      rw [this, Int.tdiv_eq_ediv_of_nonneg (by omega)]
    rw [e]
    have e1 := Int.ediv_mul_le (-a) (show b ≠ 0 by omega)
    have e2 := Int.lt_ediv_add_one_mul_self (-a) hb
    generalize (-a) / b = k at *
    have e3 : -k * b = -(k * b) := by grind
    have e4 : (k + 1) * b = k * b + b := by grind
    have e5 : (-k - 1) * b = -(k * b) - b := by grind
    have e6 : (-k - 1 + 1) * b = -(k * b) := by grind
    have e7 : (-k + 1) * b = -(k * b) + b := by grind
    split
    · exact (floor_unique hb (by omega) (by omega)).symm
    · exact (floor_unique hb (by omega) (by omega)).symm
theorem frac_trans {a b c d e f : Int} (hb : 1 ≤ b) (hd : 1 ≤ d) (hf : 1 ≤ f) (h1 : a * d ≤ c * b) (h2 : c * f ≤ e * d) : a * f ≤ e * b := by
  have h3 : (a * d) * f ≤ (c * b) * f := Int.mul_le_mul_of_nonneg_right h1 (by omega)
  have h4 : (c * f) * b ≤ (e * d) * b := Int.mul_le_mul_of_nonneg_right h2 (by omega)
  have h5 : (a * f) * d ≤ (e * b) * d := by
    have e1 : (a * d) * f = (a * f) * d := by grind
    have e2 : (c * b) * f = (c * f) * b := by grind
    have e3 : (e * d) * b = (e * b) * d := by grind
    omega
  exact Int.le_of_mul_le_mul_right h5 (by omega)
/-- The span of a number on its way that doesn't fall: from, till, whether at all. -/
def sp (f t l m : Int) : (Int × Int) × (Int × Int) × Bool :=
  if t - f = 0 then ((0, 1), (1, 1), decide (l ≤ f ∧ f ≤ m))
  else if t < l ∨ f > m then ((0, 0), (0, 0), false)
  else (if f < l then (l - f, t - f) else (0, 1), if t > m then (m - f, t - f) else (1, 1), true)
def spn (f t l m : Int) : (Int × Int) × (Int × Int) × Bool := if f > t then sp (-f) (-t) (-m) (-l) else sp f t l m
/-- Within the two at a time. -/
def Wi (f t l m N D : Int) : Prop := l * D ≤ f * D + (t - f) * N ∧ f * D + (t - f) * N ≤ m * D
theorem Wi_neg {f t l m N D : Int} : Wi (-f) (-t) (-m) (-l) N D ↔ Wi f t l m N D := by
  unfold Wi
  have e : -f * D + (-t - -f) * N = -(f * D + (t - f) * N) := by grind
  have e1 : -m * D = -(m * D) := by grind
  have e2 : -l * D = -(l * D) := by grind
  rw [e, e1, e2]
  omega
structure SpOk (f t l m : Int) (i o : Int × Int) : Prop where
  di : 1 ≤ i.2
  dib : i.2 ≤ 268435456
  do_ : 1 ≤ o.2
  dob : o.2 ≤ 268435456
  ni : 0 ≤ i.1
  nib : i.1 ≤ i.2
  no : 0 ≤ o.1
  nob : o.1 ≤ o.2
  io : i.1 * o.2 ≤ o.1 * i.2
  zero : i.1 = 0 ↔ l ≤ f ∧ f ≤ m
  one : i.1 = 0 → i = (0, 1)
  iff : ∀ N D : Int, 1 ≤ D → 0 ≤ N → N ≤ D → (Wi f t l m N D ↔ i.1 * D ≤ N * i.2 ∧ N * o.2 ≤ o.1 * D)
theorem sp_ok {f t l m : Int} (hlm : l ≤ m) (hft : f ≤ t) (hb : t - f ≤ 268435456) (h : (sp f t l m).2.2 = true) : SpOk f t l m (sp f t l m).1 (sp f t l m).2.1 := by
  unfold sp at h ⊢
  by_cases h0 : t - f = 0
  · rw [if_pos h0] at h ⊢
    simp at h
    refine ⟨by simp, by simp, by simp, by simp, by simp, by simp, by simp, by simp, by simp, by simp; omega, by simp, ?_⟩
    intro N D hD hN hND
    unfold Wi
    rw [h0]
    have e1 : l * D ≤ f * D := Int.mul_le_mul_of_nonneg_right h.1 (by omega)
    have e2 : f * D ≤ m * D := Int.mul_le_mul_of_nonneg_right h.2 (by omega)
    simp
    omega
  · rw [if_neg h0] at h ⊢
    by_cases h1 : t < l ∨ f > m
    · rw [if_pos h1] at h
      cases h
    · rw [if_neg h1] at h ⊢
      have key : ∀ N D : Int, 1 ≤ D → 0 ≤ N → N ≤ D → ((l * D ≤ f * D + (t - f) * N) ↔ (l - f) * D ≤ N * (t - f)) ∧ ((f * D + (t - f) * N ≤ m * D) ↔ N * (t - f) ≤ (m - f) * D) := by
        intro N D _ _ _
        have e1 : (l - f) * D = l * D - f * D := by grind
        have e2 : (m - f) * D = m * D - f * D := by grind
        have e3 : (t - f) * N = N * (t - f) := by grind
        omega
      have lowt : ¬ f < l → ∀ N D : Int, 1 ≤ D → 0 ≤ N → N ≤ D → (l - f) * D ≤ N * (t - f) := by
        intro hf N D hD hN _
        have e1 : (l - f) * D ≤ 0 := Int.mul_nonpos_of_nonpos_of_nonneg (by omega) (by omega)
        have e2 : 0 ≤ N * (t - f) := Int.mul_nonneg hN (by omega)
        omega
      have hight : ¬ t > m → ∀ N D : Int, 1 ≤ D → 0 ≤ N → N ≤ D → N * (t - f) ≤ (m - f) * D := by
        intro hf N D hD hN hND
        have e1 : N * (t - f) ≤ D * (t - f) := Int.mul_le_mul_of_nonneg_right hND (by omega)
        have e2 : D * (t - f) ≤ D * (m - f) := Int.mul_le_mul_of_nonneg_left (by omega) (by omega)
        have e3 : D * (m - f) = (m - f) * D := by grind
        omega
      by_cases hl : f < l <;> by_cases hm : t > m
      · rw [if_pos hl, if_pos hm]
        refine ⟨by simp; omega, by simp; omega, by simp; omega, by simp; omega, by simp; omega, by simp; omega, by simp; omega, by simp; omega, ?_, by simp; omega, by simp; omega, ?_⟩
        · simp
          exact Int.mul_le_mul_of_nonneg_right (by omega) (by omega)
        · intro N D hD hN hND
          unfold Wi
          simp only
          rw [(key N D hD hN hND).1, (key N D hD hN hND).2]
      · rw [if_pos hl, if_neg hm]
        refine ⟨by simp; omega, by simp; omega, by simp, by simp, by simp; omega, by simp; omega, by simp, by simp, by simp; omega, by simp; omega, by simp; omega, ?_⟩
        intro N D hD hN hND
        unfold Wi
        simp only
        rw [(key N D hD hN hND).1, (key N D hD hN hND).2]
        have := hight hm N D hD hN hND
        omega
      · rw [if_neg hl, if_pos hm]
        refine ⟨by simp, by simp, by simp; omega, by simp; omega, by simp, by simp, by simp; omega, by simp; omega, by simp; omega, by simp; omega, by simp, ?_⟩
        intro N D hD hN hND
        unfold Wi
        simp only
        rw [(key N D hD hN hND).1, (key N D hD hN hND).2]
        have := lowt hl N D hD hN hND
        omega
      · rw [if_neg hl, if_neg hm]
        refine ⟨by simp, by simp, by simp, by simp, by simp, by simp, by simp, by simp, by simp, by simp; omega, by simp, ?_⟩
        intro N D hD hN hND
        unfold Wi
        simp only
        rw [(key N D hD hN hND).1, (key N D hD hN hND).2]
        have := lowt hl N D hD hN hND
        have := hight hm N D hD hN hND
        omega
theorem sp_no {f t l m : Int} (hft : f ≤ t) (h : (sp f t l m).2.2 = false) : ∀ N D : Int, 1 ≤ D → 0 ≤ N → N ≤ D → ¬ Wi f t l m N D := by
  intro N D hD hN hND hw
  unfold Wi at hw
  unfold sp at h
  have out1 : t < l → False := by
    intro h1
    have e1 : (t - f) * N ≤ (t - f) * D := Int.mul_le_mul_of_nonneg_left hND (by omega)
    have e2 : t * D < l * D := Int.mul_lt_mul_of_pos_right h1 (by omega)
    have e3 : (t - f) * D = t * D - f * D := by grind
    omega
  have out2 : f > m → False := by
    intro h1
    have e1 : 0 ≤ (t - f) * N := Int.mul_nonneg (by omega) hN
    have e2 : m * D < f * D := Int.mul_lt_mul_of_pos_right h1 (by omega)
    omega
  by_cases h0 : t - f = 0
  · rw [if_pos h0] at h
    simp at h
    by_cases hl : l ≤ f
    · exact out2 (h hl)
    · exact out1 (by omega)
  · rw [if_neg h0] at h
    by_cases h1 : t < l ∨ f > m
    · rcases h1 with h1 | h1
      · exact out1 h1
      · exact out2 h1
    · rw [if_neg h1] at h
      cases h
theorem spn_ok {f t l m : Int} (hlm : l ≤ m) (hb : t - f ≤ 268435456) (hb' : f - t ≤ 268435456) (h : (spn f t l m).2.2 = true) : SpOk f t l m (spn f t l m).1 (spn f t l m).2.1 := by
  unfold spn at h ⊢
  by_cases hft : f > t
  · rw [if_pos hft] at h ⊢
    have g := sp_ok (f := -f) (t := -t) (l := -m) (m := -l) (by omega) (by omega) (by omega) h
    exact { g with
      zero := ⟨fun e => by have := g.zero.1 e; omega, fun e => g.zero.2 (by omega)⟩
      iff := fun N D a b c => Wi_neg.symm.trans (g.iff N D a b c) }
  · rw [if_neg hft] at h ⊢
    exact sp_ok hlm (by omega) (by omega) h
theorem spn_no {f t l m : Int} (h : (spn f t l m).2.2 = false) : ∀ N D : Int, 1 ≤ D → 0 ≤ N → N ≤ D → ¬ Wi f t l m N D := by
  unfold spn at h
  intro N D a b c hw
  by_cases hft : f > t
  · rw [if_pos hft] at h
    exact sp_no (by omega) h N D a b c (Wi_neg.2 hw)
  · rw [if_neg hft] at h
    exact sp_no (by omega) h N D a b c hw
def rght (p : Int × Int) : Bool := decide (1 ≤ p.2 ∧ p.2 ≤ 1073741824 ∧ 0 ≤ p.1 ∧ p.1 ≤ 1073741824)
def ahd (p q : Int × Int) : Bool := rght p && rght q && decide (p.1 * q.2 < q.1 * p.2)
theorem ahd_ok {p q : Int × Int} (hp : rght p = true) (hq : rght q = true) : ahd p q = decide (p.1 * q.2 < q.1 * p.2) := by
  unfold ahd
  rw [hp, hq]
  rfl
/-- The times that are told. -/
def met (fx fy tx ty lx ly mx my : Int) : (Int × Int) × Bool :=
  let a := spn fx tx lx mx
  let c := spn fy ty ly my
  if a.2.2 = true ∧ c.2.2 = true then
    let i := if ahd a.1 c.1 = true then c.1 else a.1
    let o := if ahd c.2.1 a.2.1 = true then c.2.1 else a.2.1
    if ahd o i = true then ((0, 0), false) else (i, true)
  else ((0, 0), false)
def Ins (fx fy tx ty lx ly mx my N D : Int) : Prop := Wi fx tx lx mx N D ∧ Wi fy ty ly my N D
structure MtYes (fx fy tx ty lx ly mx my : Int) (i : Int × Int) : Prop where
  d : 1 ≤ i.2
  db : i.2 ≤ 268435456
  n : 0 ≤ i.1
  nb : i.1 ≤ i.2
  ins : Ins fx fy tx ty lx ly mx my i.1 i.2
  least : ∀ N D : Int, 1 ≤ D → 0 ≤ N → N ≤ D → Ins fx fy tx ty lx ly mx my N D → i.1 * D ≤ N * i.2
  zero : i.1 = 0 ↔ (lx ≤ fx ∧ fx ≤ mx) ∧ (ly ≤ fy ∧ fy ≤ my)
  one : i.1 = 0 → i = (0, 1)
  from_ : i = (spn fx tx lx mx).1 ∨ i = (spn fy ty ly my).1
  first : i ≠ (spn fx tx lx mx).1 → ¬ Wi fy ty ly my (spn fx tx lx mx).1.1 (spn fx tx lx mx).1.2
theorem met_yes {fx fy tx ty lx ly mx my : Int} (hx : lx ≤ mx) (hy : ly ≤ my) (hbx : tx - fx ≤ 268435456) (hbx' : fx - tx ≤ 268435456) (hby : ty - fy ≤ 268435456) (hby' : fy - ty ≤ 268435456)
    (h : (met fx fy tx ty lx ly mx my).2 = true) : MtYes fx fy tx ty lx ly mx my (met fx fy tx ty lx ly mx my).1 := by
  unfold met at h ⊢
  by_cases hok : (spn fx tx lx mx).2.2 = true ∧ (spn fy ty ly my).2.2 = true
  · simp only [if_pos hok] at h ⊢
    have A := spn_ok hx hbx hbx' hok.1
    have C := spn_ok hy hby hby' hok.2
    generalize hia : (spn fx tx lx mx).1 = ia at *
    generalize hoa : (spn fx tx lx mx).2.1 = oa at *
    generalize hic : (spn fy ty ly my).1 = ic at *
    generalize hoc : (spn fy ty ly my).2.1 = oc at *
    have ra : rght ia = true := by unfold rght; have := A.di; have := A.dib; have := A.ni; have := A.nib; simp; omega
    have rc : rght ic = true := by unfold rght; have := C.di; have := C.dib; have := C.ni; have := C.nib; simp; omega
    have sa : rght oa = true := by unfold rght; have := A.do_; have := A.dob; have := A.no; have := A.nob; simp; omega
    have sc : rght oc = true := by unfold rght; have := C.do_; have := C.dob; have := C.no; have := C.nob; simp; omega
    have key : ∀ i : Int × Int, (i = ia ∨ i = ic) → ia.1 * i.2 ≤ i.1 * ia.2 → ic.1 * i.2 ≤ i.1 * ic.2 → (i ≠ ia → ia.1 * ic.2 < ic.1 * ia.2) → (if ahd (if ahd oc oa = true then oc else oa) i = true then ((0, 0), false) else (i, true) : (Int × Int) × Bool).2 = true → MtYes fx fy tx ty lx ly mx my (if ahd (if ahd oc oa = true then oc else oa) i = true then ((0, 0), false) else (i, true) : (Int × Int) × Bool).1 := by
      intro i hi h1 h2 h3 h4
      have ri : rght i = true := by rcases hi with rfl | rfl <;> assumption
      have di : 1 ≤ i.2 := by rcases hi with rfl | rfl; exact A.di; exact C.di
      have dib : i.2 ≤ 268435456 := by rcases hi with rfl | rfl; exact A.dib; exact C.dib
      have ni : 0 ≤ i.1 := by rcases hi with rfl | rfl; exact A.ni; exact C.ni
      have nib : i.1 ≤ i.2 := by rcases hi with rfl | rfl; exact A.nib; exact C.nib
      have ho : (i.1 * oa.2 ≤ oa.1 * i.2) ∧ (i.1 * oc.2 ≤ oc.1 * i.2) := by
        rw [ahd_ok sc sa] at h4
        by_cases hlt : oc.1 * oa.2 < oa.1 * oc.2
        · rw [decide_eq_true hlt] at h4
          simp only [if_true] at h4
          rw [ahd_ok sc ri] at h4
          by_cases h5 : oc.1 * i.2 < i.1 * oc.2
          · rw [decide_eq_true h5] at h4; simp at h4
          · have h6 : i.1 * oc.2 ≤ oc.1 * i.2 := by omega
            exact ⟨frac_trans di C.do_ A.do_ h6 (by omega), h6⟩
        · rw [decide_eq_false hlt] at h4
          simp only [Bool.false_eq_true, if_false] at h4
          rw [ahd_ok sa ri] at h4
          by_cases h5 : oa.1 * i.2 < i.1 * oa.2
          · rw [decide_eq_true h5] at h4; simp at h4
          · have h6 : i.1 * oa.2 ≤ oa.1 * i.2 := by omega
            exact ⟨h6, frac_trans di A.do_ C.do_ h6 (by omega)⟩
      have hnot : ¬ ahd (if ahd oc oa = true then oc else oa) i = true := by
        intro h5
        rw [if_pos h5] at h4
        cases h4
      rw [if_neg hnot]
      have zero : i.1 = 0 ↔ (lx ≤ fx ∧ fx ≤ mx) ∧ (ly ≤ fy ∧ fy ≤ my) := by
        rw [← A.zero, ← C.zero]
        constructor
        · intro h0
          rw [h0] at h1 h2
          have := A.ni; have := C.ni
          have e1 : ia.1 * i.2 ≤ 0 := by omega
          have e2 : ic.1 * i.2 ≤ 0 := by omega
          constructor
          · apply Int.le_antisymm _ (by omega)
            apply Int.not_lt.1; intro hl
            have := Int.mul_pos hl (show 0 < i.2 by omega)
            omega
          · apply Int.le_antisymm _ (by omega)
            apply Int.not_lt.1; intro hl
            have := Int.mul_pos hl (show 0 < i.2 by omega)
            omega
        · rintro ⟨e1, e2⟩
          rcases hi with rfl | rfl <;> assumption
      refine ⟨di, dib, ni, nib, ⟨(A.iff _ _ di ni nib).2 ⟨h1, ho.1⟩, (C.iff _ _ di ni nib).2 ⟨h2, ho.2⟩⟩, ?_, zero, ?_, ?_, ?_⟩
      · intro N D hD hN hND hI
        have := (A.iff N D hD hN hND).1 hI.1
        have := (C.iff N D hD hN hND).1 hI.2
        show i.1 * D ≤ N * i.2
        rcases hi with rfl | rfl <;> omega
      · intro h0
        rcases hi with rfl | rfl
        · exact A.one h0
        · exact C.one h0
      · rw [hia, hic]; exact hi
      · rw [hia]
        intro hne hw
        have e1 := h3 hne
        have e2 := (C.iff _ _ A.di A.ni A.nib).1 hw
        omega
    have e := ahd_ok ra rc
    by_cases hlt : ia.1 * ic.2 < ic.1 * ia.2
    · rw [decide_eq_true hlt] at e
      have hI : (if ahd ia ic = true then ic else ia) = ic := by rw [e]; rfl
      rw [hI] at h ⊢
      exact key ic (.inr rfl) (by omega) (Int.le_refl _) (fun _ => hlt) h
    · rw [decide_eq_false hlt] at e
      have hI : (if ahd ia ic = true then ic else ia) = ia := by rw [e]; rfl
      rw [hI] at h ⊢
      exact key ia (.inl rfl) (Int.le_refl _) (by omega) (fun h => absurd rfl h) h
  · simp only [if_neg hok] at h
    cases h
theorem met_no {fx fy tx ty lx ly mx my : Int} (hx : lx ≤ mx) (hy : ly ≤ my) (hbx : tx - fx ≤ 268435456) (hbx' : fx - tx ≤ 268435456) (hby : ty - fy ≤ 268435456) (hby' : fy - ty ≤ 268435456)
    (h : (met fx fy tx ty lx ly mx my).2 = false) : (met fx fy tx ty lx ly mx my).1 = (0, 0) ∧ ∀ N D : Int, 1 ≤ D → 0 ≤ N → N ≤ D → ¬ Ins fx fy tx ty lx ly mx my N D := by
  unfold met at h ⊢
  by_cases hok : (spn fx tx lx mx).2.2 = true ∧ (spn fy ty ly my).2.2 = true
  · simp only [if_pos hok] at h ⊢
    have A := spn_ok hx hbx hbx' hok.1
    have C := spn_ok hy hby hby' hok.2
    generalize hia : (spn fx tx lx mx).1 = ia at *
    generalize hoa : (spn fx tx lx mx).2.1 = oa at *
    generalize hic : (spn fy ty ly my).1 = ic at *
    generalize hoc : (spn fy ty ly my).2.1 = oc at *
    have ra : rght ia = true := by unfold rght; have := A.di; have := A.dib; have := A.ni; have := A.nib; simp; omega
    have rc : rght ic = true := by unfold rght; have := C.di; have := C.dib; have := C.ni; have := C.nib; simp; omega
    have sa : rght oa = true := by unfold rght; have := A.do_; have := A.dob; have := A.no; have := A.nob; simp; omega
    have sc : rght oc = true := by unfold rght; have := C.do_; have := C.dob; have := C.no; have := C.nob; simp; omega
    generalize hI : (if ahd ia ic = true then ic else ia) = i at *
    generalize hO : (if ahd oc oa = true then oc else oa) = o at *
    have hi : i = ia ∨ i = ic := by rw [← hI]; split <;> simp
    have ho : o = oa ∨ o = oc := by rw [← hO]; split <;> simp
    have ri : rght i = true := by rcases hi with rfl | rfl <;> assumption
    have ro : rght o = true := by rcases ho with rfl | rfl <;> assumption
    by_cases hh : ahd o i = true
    · rw [if_pos hh]
      refine ⟨rfl, ?_⟩
      rintro N D hD hN hND ⟨w1, w2⟩
      have a1 := (A.iff N D hD hN hND).1 w1
      have c1 := (C.iff N D hD hN hND).1 w2
      rw [ahd_ok ro ri] at hh
      have hlt := of_decide_eq_true hh
      have di : 1 ≤ i.2 := by rcases hi with rfl | rfl; exact A.di; exact C.di
      have do_ : 1 ≤ o.2 := by rcases ho with rfl | rfl; exact A.do_; exact C.do_
      have e1 : i.1 * D ≤ N * i.2 := by rcases hi with rfl | rfl <;> omega
      have e2 : N * o.2 ≤ o.1 * D := by rcases ho with rfl | rfl <;> omega
      have := frac_trans (a := i.1) (b := i.2) (c := N) (d := D) (e := o.1) (f := o.2) di hD do_ e1 e2
      omega
    · rw [if_neg hh] at h
      cases h
  · simp only [if_neg hok]
    refine ⟨trivial, ?_⟩
    rintro N D hD hN hND ⟨w1, w2⟩
    by_cases h1 : (spn fx tx lx mx).2.2 = true
    · exact spn_no (by simpa using fun h2 => hok ⟨h1, h2⟩) N D hD hN hND w2
    · exact spn_no (by simpa using h1) N D hD hN hND w1
def com (f t l m : Int) : (Int × Int) × Bool :=
  if f < l ∧ t ≥ l then ((l - f, t - f), true) else if f > m ∧ t ≤ m then ((f - m, f - t), true) else ((0, 0), false)
theorem com_yes {f t l m : Int} (hlm : l ≤ m) (h : (com f t l m).2 = true) : (com f t l m).1 = (spn f t l m).1 ∧ (spn f t l m).2.2 = true ∧ ¬ (l ≤ f ∧ f ≤ m) := by
  unfold com at h ⊢
  by_cases h1 : f < l ∧ t ≥ l
  · rw [if_pos h1]
    unfold spn sp
    rw [if_neg (show ¬ f > t by omega), if_neg (show ¬ t - f = 0 by omega), if_neg (show ¬ (t < l ∨ f > m) by omega), if_pos h1.1]
    exact ⟨rfl, rfl, by omega⟩
  · rw [if_neg h1] at h ⊢
    by_cases h2 : f > m ∧ t ≤ m
    · rw [if_pos h2]
      unfold spn sp
      rw [if_pos (show f > t by omega), if_neg (show ¬ (-t - -f = 0) by omega), if_neg (show ¬ (-t < -m ∨ -f > -l) by omega), if_pos (show -f < -m by omega)]
      refine ⟨?_, rfl, by omega⟩
      show (f - m, f - t) = (-m - -f, -t - -f)
      rw [show -m - -f = f - m by omega, show -t - -f = f - t by omega]
    · rw [if_neg h2] at h
      cases h
theorem com_no {f t l m : Int} (h : (com f t l m).2 = false) (hs : (spn f t l m).2.2 = true) : l ≤ f ∧ f ≤ m := by
  unfold com at h
  by_cases h1 : f < l ∧ t ≥ l
  · rw [if_pos h1] at h; cases h
  · rw [if_neg h1] at h
    by_cases h2 : f > m ∧ t ≤ m
    · rw [if_pos h2] at h; cases h
    · unfold spn sp at hs
      by_cases h3 : f > t
      · rw [if_pos h3] at hs
        rw [if_neg (show ¬ (-t - -f = 0) by omega)] at hs
        by_cases h4 : -t < -m ∨ -f > -l
        · rw [if_pos h4] at hs; cases hs
        · omega
      · rw [if_neg h3] at hs
        by_cases h5 : t - f = 0
        · rw [if_pos h5] at hs
          simpa using hs
        · rw [if_neg h5] at hs
          by_cases h4 : t < l ∨ f > m
          · rw [if_pos h4] at hs; cases hs
          · omega
instance (f t l m N D : Int) : Decidable (Wi f t l m N D) := by unfold Wi; infer_instance
instance (fx fy tx ty lx ly mx my N D : Int) : Decidable (Ins fx fy tx ty lx ly mx my N D) := by unfold Ins; infer_instance
/-- The document's times. -/
def rmet (fx fy tx ty lx ly mx my : Int) : (Int × Int) × Bool :=
  if (lx ≤ fx ∧ fx ≤ mx) ∧ (ly ≤ fy ∧ fy ≤ my) then ((0, 1), true)
  else if (com fx tx lx mx).2 = true ∧ Ins fx fy tx ty lx ly mx my (com fx tx lx mx).1.1 (com fx tx lx mx).1.2 then ((com fx tx lx mx).1, true)
  else if (com fy ty ly my).2 = true ∧ Ins fx fy tx ty lx ly mx my (com fy ty ly my).1.1 (com fy ty ly my).1.2 then ((com fy ty ly my).1, true)
  else ((0, 0), false)
theorem rmet_eq {fx fy tx ty lx ly mx my : Int} (hx : lx ≤ mx) (hy : ly ≤ my) (hbx : tx - fx ≤ 268435456) (hbx' : fx - tx ≤ 268435456) (hby : ty - fy ≤ 268435456) (hby' : fy - ty ≤ 268435456) :
    rmet fx fy tx ty lx ly mx my = met fx fy tx ty lx ly mx my := by
  have pair : ∀ (r : (Int × Int) × Bool) i b, r.1 = i → r.2 = b → (i, b) = r := by rintro ⟨a, b⟩ i c rfl rfl; rfl
  unfold rmet
  by_cases hm : (met fx fy tx ty lx ly mx my).2 = true
  · have M := met_yes hx hy hbx hbx' hby hby' hm
    by_cases h0 : (lx ≤ fx ∧ fx ≤ mx) ∧ (ly ≤ fy ∧ fy ≤ my)
    · rw [if_pos h0]
      exact pair _ _ _ (M.one (M.zero.2 h0)) hm
    · rw [if_neg h0]
      by_cases hi : (met fx fy tx ty lx ly mx my).1 = (spn fx tx lx mx).1
      · have hsp : (spn fx tx lx mx).2.2 = true := by
          apply Classical.byContradiction
          intro hn
          exact spn_no (by simpa using hn) _ _ M.d M.n M.nb M.ins.1
        have A := spn_ok hx hbx hbx' hsp
        have hc : (com fx tx lx mx).2 = true := by
          apply Classical.byContradiction
          intro hn
          have e1 := com_no (by simpa using hn) hsp
          have e2 := A.zero.2 e1
          rw [← hi] at e2
          exact h0 (M.zero.1 e2)
        have hcy := com_yes hx hc
        rw [hcy.1, ← hi, if_pos ⟨hc, M.ins⟩]
        exact pair _ _ _ rfl hm
      · have hiy : (met fx fy tx ty lx ly mx my).1 = (spn fy ty ly my).1 := M.from_.resolve_left hi
        have hno : ¬ ((com fx tx lx mx).2 = true ∧ Ins fx fy tx ty lx ly mx my (com fx tx lx mx).1.1 (com fx tx lx mx).1.2) := by
          rintro ⟨hc, hw⟩
          rw [(com_yes hx hc).1] at hw
          exact M.first hi hw.2
        rw [if_neg hno]
        have hsp : (spn fy ty ly my).2.2 = true := by
          apply Classical.byContradiction
          intro hn
          exact spn_no (by simpa using hn) _ _ M.d M.n M.nb M.ins.2
        have C := spn_ok hy hby hby' hsp
        have hc : (com fy ty ly my).2 = true := by
          apply Classical.byContradiction
          intro hn
          have e1 := com_no (by simpa using hn) hsp
          have e2 := C.zero.2 e1
          rw [← hiy] at e2
          exact h0 (M.zero.1 e2)
        have hcy := com_yes hy hc
        rw [hcy.1, ← hiy, if_pos ⟨hc, M.ins⟩]
        exact pair _ _ _ rfl hm
  · have hm' : (met fx fy tx ty lx ly mx my).2 = false := by simpa using hm
    have M := met_no hx hy hbx hbx' hby hby' hm'
    have h0 : ¬ ((lx ≤ fx ∧ fx ≤ mx) ∧ (ly ≤ fy ∧ fy ≤ my)) := by
      rintro ⟨h1, h2⟩
      refine M.2 0 1 (by omega) (by omega) (by omega) ⟨?_, ?_⟩ <;> unfold Wi <;> omega
    have h1 : ¬ ((com fx tx lx mx).2 = true ∧ Ins fx fy tx ty lx ly mx my (com fx tx lx mx).1.1 (com fx tx lx mx).1.2) := by
      rintro ⟨hc, hw⟩
      have hcy := com_yes hx hc
      have A := spn_ok hx hbx hbx' hcy.2.1
      rw [hcy.1] at hw
      exact M.2 _ _ A.di A.ni A.nib hw
    have h2 : ¬ ((com fy ty ly my).2 = true ∧ Ins fx fy tx ty lx ly mx my (com fy ty ly my).1.1 (com fy ty ly my).1.2) := by
      rintro ⟨hc, hw⟩
      have hcy := com_yes hy hc
      have A := spn_ok hy hby hby' hcy.2.1
      rw [hcy.1] at hw
      exact M.2 _ _ A.di A.ni A.nib hw
    rw [if_neg h0, if_neg h1, if_neg h2]
    exact pair _ _ _ M.1 hm'
theorem wrap64_id {x : Int} (h1 : -9223372036854775808 ≤ x) (h2 : x ≤ 9223372036854775807) : wrap64 x = x := by unfold wrap64; omega
theorem mnmx (x : Int) : mn (mx x (-2147483648)) 2147483647 = hold x := by unfold mn mx hold; omega
/-- A part of the way, held. -/
def btw (x y p : Int) : Int := hold (x + (y - x) * p / 256)
/-- A place that may be. -/
def fmd (a b : Int) : Bool := decide (-134217728 ≤ a ∧ a ≤ 134217728 ∧ -134217728 ≤ b ∧ b ≤ 134217728)
/-- A formed box. -/
def bfm (a b c d : Int) : Bool := fmd a b && fmd c d && decide (a ≤ c ∧ b ≤ d)
/-- A point in a box. -/
def binn (x y a b c d : Int) : Bool := fmd x y && bfm a b c d && decide (a ≤ x ∧ x ≤ c ∧ b ≤ y ∧ y ≤ d)
/-- When a way meets a box. -/
def mtt (fx fy tx ty lx ly ux uy : Int) : (Int × Int) × Bool :=
  if fmd fx fy = true ∧ fmd tx ty = true ∧ bfm lx ly ux uy = true then met fx fy tx ty lx ly ux uy else ((0, 0), false)
theorem ahd_iff {p q : Int × Int} : ahd p q = true ↔ rght p = true ∧ rght q = true ∧ p.1 * q.2 < q.1 * p.2 := by
  unfold ahd
  simp only [Bool.and_eq_true, decide_eq_true_eq]
  exact ⟨fun h => ⟨h.1.1, h.1.2, h.2⟩, fun h => ⟨⟨h.1, h.2.1⟩, h.2.2⟩⟩
theorem rght_iff {p : Int × Int} : rght p = true ↔ 1 ≤ p.2 ∧ p.2 ≤ 1073741824 ∧ 0 ≤ p.1 ∧ p.1 ≤ 1073741824 := by unfold rght; exact decide_eq_true_iff
theorem ahd_self (p : Int × Int) : ahd p p = false := by
  rw [← Bool.not_eq_true, ahd_iff]
  rintro ⟨_, _, h⟩
  omega
theorem ahd_not {p q : Int × Int} (h : ahd p q = true) : ahd q p = false := by
  rw [← Bool.not_eq_true, ahd_iff]
  rintro ⟨_, _, h2⟩
  have := (ahd_iff.1 h).2.2
  omega
theorem dec_t {P Q : Prop} [Decidable P] [Decidable Q] (h : P ↔ Q) : some (decide P) = some (decide Q) := by
  by_cases hp : P
  · rw [decide_eq_true hp, decide_eq_true (h.1 hp)]
  · rw [decide_eq_false hp, decide_eq_false (fun q => hp (h.2 q))]
theorem dec_f {Q : Prop} [Decidable Q] (h : ¬ Q) : some false = some (decide Q) := by rw [decide_eq_false h]
theorem met_def (fx fy tx ty lx ly ux uy : Int) : met fx fy tx ty lx ly ux uy = if (spn fx tx lx ux).2.2 = true ∧ (spn fy ty ly uy).2.2 = true then
    (if ahd (if ahd (spn fy ty ly uy).2.1 (spn fx tx lx ux).2.1 = true then (spn fy ty ly uy).2.1 else (spn fx tx lx ux).2.1) (if ahd (spn fx tx lx ux).1 (spn fy ty ly uy).1 = true then (spn fy ty ly uy).1 else (spn fx tx lx ux).1) = true then ((0, 0), false)
     else (if ahd (spn fx tx lx ux).1 (spn fy ty ly uy).1 = true then (spn fy ty ly uy).1 else (spn fx tx lx ux).1, true)) else ((0, 0), false) := rfl
end Go.Proofs.Ytcbmkhogmdkpdaa.Plain
