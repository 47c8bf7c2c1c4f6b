/- The law 'BoxMeets' returns true for all ways and boxes; without conditions. -/
import Derived.Test.YtjbeiingfcfdbaaMeetsY
import Derived.Test.YtjbeiingfcfdbaaPlain
set_option linter.unusedVariables false
set_option linter.unusedSimpArgs false
namespace Go.Proofs.Ytjbeiingfcfdbaa.Pure
open Go.RowKit Go.Proofs.Ytjbeiingfcfdbaa.PBoxMeets Go.Proofs.YtjbeiingfcfdbaaW.PrintWords Go.Proofs.YtjbeiingfcfdbaaW.PrintLast Go.Proofs.Ytjbeiingfcfdbaa.Plain
namespace BoxMeetsAid
theorem zFormed (a b : Int) : vec_Formed.f a b = some (fmd a b) := by
  unfold vec_Formed.f fmd
  by_cases h1 : a ≥ -134217728
  · rw [if_pos h1]
    by_cases h2 : a ≤ 134217728
    · rw [if_pos h2]
      by_cases h3 : b ≥ -134217728
      · rw [if_pos h3]; exact dec_t (by omega)
      · rw [if_neg h3]; exact dec_f (by omega)
    · rw [if_neg h2]; exact dec_f (by omega)
  · rw [if_neg h1]; exact dec_f (by omega)
theorem zbF (a b c d : Int) : box_Formed.f a b c d = some (bfm a b c d) := by
  unfold box_Formed.f bfm
  simp only [zFormed, Option.bind_some]
  cases fmd a b <;> cases fmd c d <;> simp only [Bool.true_and, Bool.false_and, Bool.false_eq_true, if_true, if_false]
  by_cases h1 : a ≤ c
  · rw [if_pos h1]; exact dec_t (by omega)
  · rw [if_neg h1]; exact dec_f (by omega)
theorem zIn (x y a b c d : Int) : box_In.f x y a b c d = some (binn x y a b c d) := by
  unfold box_In.f binn
  simp only [zFormed, zbF, Option.bind_some]
  cases fmd x y <;> cases bfm a b c d <;> simp only [Bool.true_and, Bool.false_and, Bool.false_eq_true, if_true, if_false]
  by_cases h1 : x ≥ a
  · rw [if_pos h1]
    by_cases h2 : x ≤ c
    · rw [if_pos h2]
      by_cases h3 : y ≥ b
      · rw [if_pos h3]; exact dec_t (by omega)
      · rw [if_neg h3]; exact dec_f (by omega)
    · rw [if_neg h2]; exact dec_f (by omega)
  · rw [if_neg h1]; exact dec_f (by omega)
theorem zawake : ricochetlaw03_awake.f = some true := by
  unfold ricochetlaw03_awake.f
  simp only [zbF, zIn, Option.bind_some]
  decide
theorem zplain (a b c d : Int) : ricochetlaw03_plain.f a b c d = some (a, b, c, d) := rfl
theorem zright (a b : Int) : box_right.f a b = some (rght (a, b)) := by
  unfold box_right.f rght
  by_cases h1 : b ≥ 1
  · rw [if_pos h1]
    by_cases h2 : b ≤ 1073741824
    · rw [if_pos h2]
      by_cases h3 : a ≥ 0
      · rw [if_pos h3]; exact dec_t (by omega)
      · rw [if_neg h3]; exact dec_f (by omega)
    · rw [if_neg h2]; exact dec_f (by omega)
  · rw [if_neg h1]; exact dec_f (by omega)
theorem zAhead (a b c d : Int) : box_Ahead.f a b c d = some (ahd (a, b) (c, d)) := by
  unfold box_Ahead.f
  simp only [zright, Option.bind_some]
  by_cases h1 : rght (a, b) = true
  · rw [if_pos h1]
    by_cases h2 : rght (c, d) = true
    · rw [if_pos h2, ahd_ok h1 h2]
      unfold rght at h1 h2
      simp only [decide_eq_true_eq] at h1 h2
      have e1 : -(1073741824 * 1073741824) ≤ a * d ∧ a * d ≤ 1073741824 * 1073741824 := mul_bd (by omega) (by omega) (by omega) (by omega) (by omega) (by omega)
      have e2 : -(1073741824 * 1073741824) ≤ c * b ∧ c * b ≤ 1073741824 * 1073741824 := mul_bd (by omega) (by omega) (by omega) (by omega) (by omega) (by omega)
      rw [wrap64_id (x := a * d) (by omega) (by omega), wrap64_id (x := c * b) (by omega) (by omega)]
    · rw [if_neg h2]
      unfold ahd
      simp [h2]
  · rw [if_neg h1]
    unfold ahd
    simp [h1]
theorem zspan {f t l m : Int} (f1 : -134217728 ≤ f) (f2 : f ≤ 134217728) (t1 : -134217728 ≤ t) (t2 : t ≤ 134217728) (l1 : -134217728 ≤ l) (l2 : l ≤ 134217728) (m1 : -134217728 ≤ m) (m2 : m ≤ 134217728) (k : Nat) :
    box_span.f (k + 2) f t l m = some ((spn f t l m).1.1, (spn f t l m).1.2, (spn f t l m).2.1.1, (spn f t l m).2.1.2, (spn f t l m).2.2) := by
  have core : ∀ f t l m : Int, -134217728 ≤ f → f ≤ 134217728 → -134217728 ≤ t → t ≤ 134217728 → -134217728 ≤ l → l ≤ 134217728 → -134217728 ≤ m → m ≤ 134217728 →
      box_span.j0 (k + 2) f t l m = some ((sp f t l m).1.1, (sp f t l m).1.2, (sp f t l m).2.1.1, (sp f t l m).2.1.2, (sp f t l m).2.2) := by
    intro f t l m f1 f2 t1 t2 l1 l2 m1 m2
    simp only [box_span.j0]
    unfold sp
    rw [wrap64_id (x := t - f) (by omega) (by omega)]
    by_cases h0 : t - f = 0
    · rw [if_pos h0, if_pos h0]
      by_cases h1 : f ≥ l
      · rw [if_pos h1]
        have e : decide (f ≤ m) = decide (l ≤ f ∧ f ≤ m) := by rw [decide_eq_decide]; omega
        rw [e]
      · rw [if_neg h1, decide_eq_false (show ¬ (l ≤ f ∧ f ≤ m) by omega)]
    · rw [if_neg h0, if_neg h0]
      by_cases h1 : t < l
      · rw [if_pos h1, if_pos (.inl h1)]
        simp only [box_span.j1, if_true]
      · rw [if_neg h1]
        by_cases h2 : f > m
        · rw [decide_eq_true h2, if_pos (.inr h2)]
          simp only [box_span.j1, if_true]
        · rw [decide_eq_false h2, if_neg (by omega)]
          simp only [box_span.j1, Bool.false_eq_true, if_false]
          rw [wrap64_id (x := l - f) (by omega) (by omega), wrap64_id (x := m - f) (by omega) (by omega)]
          by_cases h3 : f < l <;> by_cases h4 : t > m
          · rw [if_pos h3, if_pos h4, if_pos h3, if_pos h4]
          · rw [if_pos h3, if_neg h4, if_pos h3, if_neg h4]
          · rw [if_neg h3, if_pos h4, if_neg h3, if_pos h4]
          · rw [if_neg h3, if_neg h4, if_neg h3, if_neg h4]
  unfold box_span.f spn
  by_cases h : f > t
  · rw [if_pos h, if_pos h, wrap64_id (x := -f) (by omega) (by omega), wrap64_id (x := -t) (by omega) (by omega), wrap64_id (x := -m) (by omega) (by omega), wrap64_id (x := -l) (by omega) (by omega)]
    exact core _ _ _ _ (by omega) (by omega) (by omega) (by omega) (by omega) (by omega) (by omega) (by omega)
  · rw [if_neg h, if_neg h]
    exact core _ _ _ _ f1 f2 t1 t2 l1 l2 m1 m2
theorem fmd_of {a b : Int} (h : fmd a b = true) : -134217728 ≤ a ∧ a ≤ 134217728 ∧ -134217728 ≤ b ∧ b ≤ 134217728 := by unfold fmd at h; exact of_decide_eq_true h
theorem bfm_of {a b c d : Int} (h : bfm a b c d = true) : (-134217728 ≤ a ∧ a ≤ 134217728 ∧ -134217728 ≤ b ∧ b ≤ 134217728) ∧ (-134217728 ≤ c ∧ c ≤ 134217728 ∧ -134217728 ≤ d ∧ d ≤ 134217728) ∧ a ≤ c ∧ b ≤ d := by
  unfold bfm at h
  simp only [Bool.and_eq_true, decide_eq_true_eq] at h
  exact ⟨fmd_of h.1.1, fmd_of h.1.2, h.2.1, h.2.2⟩
theorem zMeet (fx fy tx ty lx ly ux uy : Int) (k : Nat) :
    box_Meet.f (k + 5) fx fy tx ty lx ly ux uy = some ((mtt fx fy tx ty lx ly ux uy).1.1, (mtt fx fy tx ty lx ly ux uy).1.2, (mtt fx fy tx ty lx ly ux uy).2) := by
  have no : ∀ a b c d e f g h : Int, box_Meet.j0 (k + 5) true a b c d e f g h = some (0, 0, false) := by
    intro a b c d e f g h
    simp only [box_Meet.j0, if_true]
  unfold box_Meet.f mtt
  simp only [zFormed, zbF, Option.bind_some]
  by_cases h1 : fmd fx fy = true
  · by_cases h2 : fmd tx ty = true
    · by_cases h3 : bfm lx ly ux uy = true
      · rw [if_pos h1, if_pos h2, h3, if_pos ⟨h1, h2, rfl⟩]
        obtain ⟨a1, a2, a3, a4⟩ := fmd_of h1
        obtain ⟨b1, b2, b3, b4⟩ := fmd_of h2
        obtain ⟨⟨c1, c2, c3, c4⟩, ⟨d1, d2, d3, d4⟩, _, _⟩ := bfm_of h3
        simp only [box_Meet.j0, Bool.not_true, Bool.false_eq_true, if_false]
        rw [zspan a1 a2 b1 b2 c1 c2 d1 d2 (k + 2), zspan a3 a4 b3 b4 c3 c4 d3 d4 (k + 2)]
        simp only [Option.bind_some]
        rw [met_def]
        by_cases o1 : (spn fx tx lx ux).2.2 = true
        · rw [if_pos o1]
          by_cases o2 : (spn fy ty ly uy).2.2 = true
          · rw [if_pos ⟨o1, o2⟩, o2]
            simp only [Bool.not_true, box_Meet.j1, box_Meet.j2, Bool.false_eq_true, if_false, zAhead, Option.bind_some]
            generalize (spn fx tx lx ux).1 = i
            generalize (spn fx tx lx ux).2.1 = o
            generalize (spn fy ty ly uy).1 = i'
            generalize (spn fy ty ly uy).2.1 = o'
            obtain ⟨i1, i2⟩ := i
            obtain ⟨o1, o2⟩ := o
            obtain ⟨j1, j2⟩ := i'
            obtain ⟨q1, q2⟩ := o'
            cases h : ahd (i1, i2) (j1, j2) <;> cases h' : ahd (q1, q2) (o1, o2) <;> simp only [Bool.false_eq_true, if_false, if_true] <;> split <;> rfl
          · rw [if_neg (fun h => o2 h.2)]
            simp only [o2, Bool.not_false, box_Meet.j1, if_true]
        · rw [if_neg o1, if_neg (fun h => o1 h.1)]
          simp only [box_Meet.j1, if_true]
      · rw [if_pos h1, if_pos h2, if_neg (fun h => h3 h.2.2)]
        simp only [Bool.not_eq_true] at h3
        rw [h3]
        exact no _ _ _ _ _ _ _ _
    · rw [if_pos h1, if_neg h2, if_neg (fun h => h2 h.2.1)]
      exact no _ _ _ _ _ _ _ _
  · rw [if_neg h1, if_neg (fun h => h1 h.1)]
    exact no _ _ _ _ _ _ _ _
theorem rFormed (a b : Int) : ricochetref02_Formed.f a b = some (fmd a b) := by
  unfold ricochetref02_Formed.f fmd
  by_cases h1 : a ≥ -134217728
  · rw [if_pos h1]
    by_cases h2 : a ≤ 134217728
    · rw [if_pos h2]
      by_cases h3 : b ≥ -134217728
      · rw [if_pos h3]; exact dec_t (by omega)
      · rw [if_neg h3]; exact dec_f (by omega)
    · rw [if_neg h2]; exact dec_f (by omega)
  · rw [if_neg h1]; exact dec_f (by omega)
theorem rbF (a b c d : Int) : ricochetref03_Formed.f a b c d = some (bfm a b c d) := by
  unfold ricochetref03_Formed.f bfm
  simp only [rFormed, Option.bind_some]
  cases fmd a b <;> cases fmd c d <;> simp only [Bool.true_and, Bool.false_and, Bool.false_eq_true, if_true, if_false]
  by_cases h1 : a ≤ c
  · rw [if_pos h1]; exact dec_t (by omega)
  · rw [if_neg h1]; exact dec_f (by omega)
theorem rIn (x y a b c d : Int) : ricochetref03_In.f x y a b c d = some (binn x y a b c d) := by
  unfold ricochetref03_In.f binn
  simp only [rFormed, rbF, Option.bind_some]
  cases fmd x y <;> cases bfm a b c d <;> simp only [Bool.true_and, Bool.false_and, Bool.false_eq_true, if_true, if_false]
  by_cases h1 : a ≤ x
  · rw [if_pos h1]
    by_cases h2 : x ≤ c
    · rw [if_pos h2]
      by_cases h3 : b ≤ y
      · rw [if_pos h3]; exact dec_t (by omega)
      · rw [if_neg h3]; exact dec_f (by omega)
    · rw [if_neg h2]; exact dec_f (by omega)
  · rw [if_neg h1]; exact dec_f (by omega)
theorem rcomes {f t l m : Int} (f1 : -134217728 ≤ f) (f2 : f ≤ 134217728) (t1 : -134217728 ≤ t) (t2 : t ≤ 134217728) (l1 : -134217728 ≤ l) (l2 : l ≤ 134217728) (m1 : -134217728 ≤ m) (m2 : m ≤ 134217728) (k : Nat) :
    ricochetref03_comes.f (k + 1) f t l m = some ((com f t l m).1.1, (com f t l m).1.2, (com f t l m).2) := by
  unfold ricochetref03_comes.f com
  by_cases h1 : f < l
  · rw [if_pos h1]
    by_cases h2 : t ≥ l
    · rw [decide_eq_true h2, if_pos ⟨h1, h2⟩]
      simp only [ricochetref03_comes.j0, if_true]
      rw [wrap64_id (x := l - f) (by omega) (by omega), wrap64_id (x := t - f) (by omega) (by omega)]
    · rw [decide_eq_false h2, if_neg (fun h => h2 h.2)]
      simp only [ricochetref03_comes.j0, Bool.false_eq_true, if_false]
      by_cases h3 : f > m
      · rw [if_pos h3]
        by_cases h4 : t ≤ m
        · rw [if_pos h4, if_pos ⟨h3, h4⟩, wrap64_id (x := f - m) (by omega) (by omega), wrap64_id (x := f - t) (by omega) (by omega)]
        · rw [if_neg h4, if_neg (fun h => h4 h.2)]
      · rw [if_neg h3, if_neg (fun h => h3 h.1)]
  · rw [if_neg h1, if_neg (fun h => h1 h.1)]
    simp only [ricochetref03_comes.j0, Bool.false_eq_true, if_false]
    by_cases h3 : f > m
    · rw [if_pos h3]
      by_cases h4 : t ≤ m
      · rw [if_pos h4, if_pos ⟨h3, h4⟩, wrap64_id (x := f - m) (by omega) (by omega), wrap64_id (x := f - t) (by omega) (by omega)]
      · rw [if_neg h4, if_neg (fun h => h4 h.2)]
    · rw [if_neg h3, if_neg (fun h => h3 h.1)]
theorem rat {f t l m n d : Int} (f1 : -134217728 ≤ f) (f2 : f ≤ 134217728) (t1 : -134217728 ≤ t) (t2 : t ≤ 134217728) (l1 : -134217728 ≤ l) (l2 : l ≤ 134217728) (m1 : -134217728 ≤ m) (m2 : m ≤ 134217728) (n1 : 0 ≤ n) (n2 : n ≤ 268435456) (d1 : 0 ≤ d) (d2 : d ≤ 268435456) :
    ricochetref03_at.f f t l m n d = some (decide (Wi f t l m n d)) := by
  have e1 : -(134217728 * 268435456) ≤ f * d ∧ f * d ≤ 134217728 * 268435456 := mul_bd (by omega) (by omega) (by omega) (by omega) (by omega) (by omega)
  have e2 : -(268435456 * 268435456) ≤ (t - f) * n ∧ (t - f) * n ≤ 268435456 * 268435456 := mul_bd (by omega) (by omega) (by omega) (by omega) (by omega) (by omega)
  have e3 : -(134217728 * 268435456) ≤ l * d ∧ l * d ≤ 134217728 * 268435456 := mul_bd (by omega) (by omega) (by omega) (by omega) (by omega) (by omega)
  have e4 : -(134217728 * 268435456) ≤ m * d ∧ m * d ≤ 134217728 * 268435456 := mul_bd (by omega) (by omega) (by omega) (by omega) (by omega) (by omega)
  unfold ricochetref03_at.f Wi
  rw [wrap64_id (x := t - f) (by omega) (by omega), wrap64_id (x := f * d) (by omega) (by omega), wrap64_id (x := (t - f) * n) (by omega) (by omega), wrap64_id (x := f * d + (t - f) * n) (by omega) (by omega), wrap64_id (x := l * d) (by omega) (by omega), wrap64_id (x := m * d) (by omega) (by omega)]
  by_cases h : l * d ≤ f * d + (t - f) * n
  · rw [if_pos h]; simp [h]
  · rw [if_neg h]; simp [h]
theorem rinside {fx fy tx ty lx ly ux uy n d : Int} (hf : fmd fx fy = true) (ht : fmd tx ty = true) (hb : bfm lx ly ux uy = true) (n1 : 0 ≤ n) (n2 : n ≤ 268435456) (d1 : 0 ≤ d) (d2 : d ≤ 268435456) :
    ricochetref03_inside.f fx fy tx ty lx ly ux uy n d = some (decide (Ins fx fy tx ty lx ly ux uy n d)) := by
  obtain ⟨a1, a2, a3, a4⟩ := fmd_of hf
  obtain ⟨b1, b2, b3, b4⟩ := fmd_of ht
  obtain ⟨⟨c1, c2, c3, c4⟩, ⟨e1, e2, e3, e4⟩, _, _⟩ := bfm_of hb
  unfold ricochetref03_inside.f Ins
  rw [rat a1 a2 b1 b2 c1 c2 e1 e2 n1 n2 d1 d2, rat a3 a4 b3 b4 c3 c4 e3 e4 n1 n2 d1 d2]
  simp only [Option.bind_some]
  by_cases h : Wi fx tx lx ux n d
  · simp [h]
  · simp [h]
theorem com_bd {f t l m : Int} (f1 : -134217728 ≤ f) (f2 : f ≤ 134217728) (t1 : -134217728 ≤ t) (t2 : t ≤ 134217728) (hlm : l ≤ m) (h : (com f t l m).2 = true) :
    0 ≤ (com f t l m).1.1 ∧ (com f t l m).1.1 ≤ 268435456 ∧ 0 ≤ (com f t l m).1.2 ∧ (com f t l m).1.2 ≤ 268435456 := by
  have c := com_yes hlm h
  have A := spn_ok hlm (by omega) (by omega) c.2.1
  have := A.di; have := A.dib; have := A.ni; have := A.nib
  rw [c.1]
  omega
theorem rMeet (fx fy tx ty lx ly ux uy : Int) (k : Nat) :
    ricochetref03_Meet.f (k + 5) fx fy tx ty lx ly ux uy = some ((mtt fx fy tx ty lx ly ux uy).1.1, (mtt fx fy tx ty lx ly ux uy).1.2, (mtt fx fy tx ty lx ly ux uy).2) := by
  have no : ∀ a b c d e f g h : Int, ricochetref03_Meet.j0 (k + 5) true a b c d e f g h = some (0, 0, false) := by
    intro a b c d e f g h
    simp only [ricochetref03_Meet.j0, if_true]
  unfold ricochetref03_Meet.f mtt
  simp only [rFormed, rbF, Option.bind_some]
  by_cases h1 : fmd fx fy = true
  · by_cases h2 : fmd tx ty = true
    · by_cases h3 : bfm lx ly ux uy = true
      · rw [if_pos h1, if_pos h2, h3, if_pos ⟨h1, h2, rfl⟩]
        obtain ⟨a1, a2, a3, a4⟩ := fmd_of h1
        obtain ⟨b1, b2, b3, b4⟩ := fmd_of h2
        obtain ⟨⟨c1, c2, c3, c4⟩, ⟨d1, d2, d3, d4⟩, hx, hy⟩ := bfm_of h3
        rw [← rmet_eq hx hy (by omega) (by omega) (by omega) (by omega)]
        have X := com_bd (f := fx) (t := tx) (l := lx) (m := ux) a1 a2 b1 b2 hx
        have Y := com_bd (f := fy) (t := ty) (l := ly) (m := uy) a3 a4 b3 b4 hy
        simp only [ricochetref03_Meet.j0, Bool.not_true, Bool.false_eq_true, if_false, rIn, Option.bind_some]
        rw [rcomes a1 a2 b1 b2 c1 c2 d1 d2 (k + 3), rcomes a3 a4 b3 b4 c3 c4 d3 d4 (k + 3)]
        simp only [Option.bind_some]
        unfold rmet binn
        rw [h1, h3]
        simp only [Bool.true_and]
        by_cases h0 : (lx ≤ fx ∧ fx ≤ ux) ∧ (ly ≤ fy ∧ fy ≤ uy)
        · rw [if_pos h0, if_pos (decide_eq_true ⟨h0.1.1, h0.1.2, h0.2.1, h0.2.2⟩)]
        · rw [if_neg h0, if_neg (by simp only [decide_eq_true_eq]; exact fun h => h0 ⟨⟨h.1, h.2.1⟩, ⟨h.2.2.1, h.2.2.2⟩⟩)]
          generalize com fx tx lx ux = cx at *
          generalize com fy ty ly uy = cy at *
          obtain ⟨⟨xn, xd⟩, xo⟩ := cx
          obtain ⟨⟨yn, yd⟩, yo⟩ := cy
          have ry : yo = true → ricochetref03_inside.f fx fy tx ty lx ly ux uy yn yd = some (decide (Ins fx fy tx ty lx ly ux uy yn yd)) := fun h => rinside h1 h2 h3 (Y h).1 (Y h).2.1 (Y h).2.2.1 (Y h).2.2.2
          have last : ∀ b : Bool, ricochetref03_Meet.j1 (k + 4) b yo fx fy tx ty lx ly ux uy xn xd yn yd = (if b = true then some (xn, xd, true) else if yo = true ∧ Ins fx fy tx ty lx ly ux uy yn yd then some (yn, yd, true) else some (0, 0, false)) := by
            intro b
            simp only [ricochetref03_Meet.j1, ricochetref03_Meet.j2]
            by_cases hyo : yo = true
            · rw [if_pos hyo, ry hyo]
              simp only [Option.bind_some, decide_eq_true_eq, hyo, true_and]
            · rw [if_neg hyo]
              by_cases hb : b = true
              · rw [if_pos hb, if_pos hb]
              · have ny : ¬ (yo = true ∧ Ins fx fy tx ty lx ly ux uy yn yd) := fun h => hyo h.1
                rw [if_neg hb, if_neg hb, if_neg ny]
                simp
          simp only
          by_cases hxo : xo = true
          · rw [if_pos hxo, rinside h1 h2 h3 (X hxo).1 (X hxo).2.1 (X hxo).2.2.1 (X hxo).2.2.2]
            simp only [Option.bind_some, last, decide_eq_true_eq, hxo, true_and]
            by_cases g1 : Ins fx fy tx ty lx ly ux uy xn xd
            · rw [if_pos g1, if_pos g1]
            · rw [if_neg g1, if_neg g1]
              by_cases g2 : yo = true ∧ Ins fx fy tx ty lx ly ux uy yn yd
              · rw [if_pos g2, if_pos g2]
              · rw [if_neg g2, if_neg g2]
          · rw [if_neg hxo, last]
            simp only [Bool.false_eq_true, if_false]
            have nx : ¬ (xo = true ∧ Ins fx fy tx ty lx ly ux uy xn xd) := fun h => hxo h.1
            rw [if_neg nx]
            by_cases g2 : yo = true ∧ Ins fx fy tx ty lx ly ux uy yn yd
            · rw [if_pos g2, if_pos g2]
            · rw [if_neg g2, if_neg g2]
      · rw [if_pos h1, if_pos h2, if_neg (fun h => h3 h.2.2)]
        simp only [Bool.not_eq_true] at h3
        rw [h3]
        exact no _ _ _ _ _ _ _ _
    · rw [if_pos h1, if_neg h2, if_neg (fun h => h2 h.2.1)]
      exact no _ _ _ _ _ _ _ _
  · rw [if_neg h1, if_neg (fun h => h1 h.1)]
    exact no _ _ _ _ _ _ _ _
end BoxMeetsAid
open BoxMeetsAid
end Go.Proofs.Ytjbeiingfcfdbaa.Pure
namespace Go.Proofs.Ytjbeiingfcfdbaa.PBoxMeets
open Go.RowKit Go.Proofs.YtjbeiingfcfdbaaW.PrintWords Go.Proofs.Ytjbeiingfcfdbaa.Plain Go.Proofs.Ytjbeiingfcfdbaa.Pure.BoxMeetsAid
theorem ricochetlaw03_BoxMeets.calls (a b c d e f g h : Int) (w : World) (_ : (Lit.int .i64 a).wf = true) (_ : (Lit.int .i64 b).wf = true) (_ : (Lit.int .i64 c).wf = true) (_ : (Lit.int .i64 d).wf = true) (_ : (Lit.int .i64 e).wf = true) (_ : (Lit.int .i64 f).wf = true) (_ : (Lit.int .i64 g).wf = true) (_ : (Lit.int .i64 h).wf = true) :
    Calls Try.prog 7 #[.agg #[.int .i64 a, .int .i64 b], .agg #[.int .i64 c, .int .i64 d], .agg #[.int .i64 e, .int .i64 f, .int .i64 g, .int .i64 h]] w fun e w' => e = .returned (.bool true) ∧ Below w.heap.size w w' :=
  meets_walk (0 + 5) a b c d e f g h _ _ _ w ⟨zMeet a b c d e f g h 0⟩ ⟨zplain e f g h⟩ ⟨rMeet a b c d e f g h 0⟩ ⟨zawake⟩
end Go.Proofs.Ytjbeiingfcfdbaa.PBoxMeets
namespace Go.Proofs.Ytjbeiingfcfdbaa.Pure
end Go.Proofs.Ytjbeiingfcfdbaa.Pure
