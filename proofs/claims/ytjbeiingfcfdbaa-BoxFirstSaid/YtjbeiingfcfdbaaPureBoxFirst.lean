/- The law 'BoxFirst' returns true for all ways and boxes; without conditions. -/
import Derived.Test.YtjbeiingfcfdbaaFirstY
import Derived.Test.YtjbeiingfcfdbaaPlain
set_option linter.unusedVariables false
set_option linter.unusedSimpArgs false
namespace Go.Proofs.Ytjbeiingfcfdbaa.Pure
open Go.RowKit Go.Proofs.Ytjbeiingfcfdbaa.PBoxFirst Go.Proofs.YtjbeiingfcfdbaaW.PrintWords Go.Proofs.YtjbeiingfcfdbaaW.PrintLast Go.Proofs.Ytjbeiingfcfdbaa.Plain
namespace BoxFirstAid
theorem zFormed (a b : Int) : vec_Formed.f a b = some (fmd a b) := by
  unfold vec_Formed.f fmd
  by_cases h1 : a ≥ -134217728
  · rw [if_pos h1]
    by_cases h2 : a ≤ 134217728
    · rw [if_pos h2]
      by_cases h3 : b ≥ -134217728
      · rw [if_pos h3]; exact dec_t (by omega)
      · rw [if_neg h3]; exact dec_f (by omega)
    · rw [if_neg h2]; exact dec_f (by omega)
  · rw [if_neg h1]; exact dec_f (by omega)
theorem zbF (a b c d : Int) : box_Formed.f a b c d = some (bfm a b c d) := by
  unfold box_Formed.f bfm
  simp only [zFormed, Option.bind_some]
  cases fmd a b <;> cases fmd c d <;> simp only [Bool.true_and, Bool.false_and, Bool.false_eq_true, if_true, if_false]
  by_cases h1 : a ≤ c
  · rw [if_pos h1]; exact dec_t (by omega)
  · rw [if_neg h1]; exact dec_f (by omega)
theorem zIn (x y a b c d : Int) : box_In.f x y a b c d = some (binn x y a b c d) := by
  unfold box_In.f binn
  simp only [zFormed, zbF, Option.bind_some]
  cases fmd x y <;> cases bfm a b c d <;> simp only [Bool.true_and, Bool.false_and, Bool.false_eq_true, if_true, if_false]
  by_cases h1 : x ≥ a
  · rw [if_pos h1]
    by_cases h2 : x ≤ c
    · rw [if_pos h2]
      by_cases h3 : y ≥ b
      · rw [if_pos h3]; exact dec_t (by omega)
      · rw [if_neg h3]; exact dec_f (by omega)
    · rw [if_neg h2]; exact dec_f (by omega)
  · rw [if_neg h1]; exact dec_f (by omega)
theorem zawake : ricochetlaw03_awake.f = some true := by
  unfold ricochetlaw03_awake.f
  simp only [zbF, zIn, Option.bind_some]
  decide
theorem zright (a b : Int) : box_right.f a b = some (rght (a, b)) := by
  unfold box_right.f rght
  by_cases h1 : b ≥ 1
  · rw [if_pos h1]
    by_cases h2 : b ≤ 1073741824
    · rw [if_pos h2]
      by_cases h3 : a ≥ 0
      · rw [if_pos h3]; exact dec_t (by omega)
      · rw [if_neg h3]; exact dec_f (by omega)
    · rw [if_neg h2]; exact dec_f (by omega)
  · rw [if_neg h1]; exact dec_f (by omega)
theorem zAhead (a b c d : Int) : box_Ahead.f a b c d = some (ahd (a, b) (c, d)) := by
  unfold box_Ahead.f
  simp only [zright, Option.bind_some]
  by_cases h1 : rght (a, b) = true
  · rw [if_pos h1]
    by_cases h2 : rght (c, d) = true
    · rw [if_pos h2, ahd_ok h1 h2]
      unfold rght at h1 h2
      simp only [decide_eq_true_eq] at h1 h2
      have e1 : -(1073741824 * 1073741824) ≤ a * d ∧ a * d ≤ 1073741824 * 1073741824 := mul_bd (by omega) (by omega) (by omega) (by omega) (by omega) (by omega)
      have e2 : -(1073741824 * 1073741824) ≤ c * b ∧ c * b ≤ 1073741824 * 1073741824 := mul_bd (by omega) (by omega) (by omega) (by omega) (by omega) (by omega)
      rw [wrap64_id (x := a * d) (by omega) (by omega), wrap64_id (x := c * b) (by omega) (by omega)]
    · rw [if_neg h2]
      unfold ahd
      simp [h2]
  · rw [if_neg h1]
    unfold ahd
    simp [h1]
theorem zspan {f t l m : Int} (f1 : -134217728 ≤ f) (f2 : f ≤ 134217728) (t1 : -134217728 ≤ t) (t2 : t ≤ 134217728) (l1 : -134217728 ≤ l) (l2 : l ≤ 134217728) (m1 : -134217728 ≤ m) (m2 : m ≤ 134217728) (k : Nat) :
    box_span.f (k + 2) f t l m = some ((spn f t l m).1.1, (spn f t l m).1.2, (spn f t l m).2.1.1, (spn f t l m).2.1.2, (spn f t l m).2.2) := by
  have core : ∀ f t l m : Int, -134217728 ≤ f → f ≤ 134217728 → -134217728 ≤ t → t ≤ 134217728 → -134217728 ≤ l → l ≤ 134217728 → -134217728 ≤ m → m ≤ 134217728 →
      box_span.j0 (k + 2) f t l m = some ((sp f t l m).1.1, (sp f t l m).1.2, (sp f t l m).2.1.1, (sp f t l m).2.1.2, (sp f t l m).2.2) := by
    intro f t l m f1 f2 t1 t2 l1 l2 m1 m2
    simp only [box_span.j0]
    unfold sp
    rw [wrap64_id (x := t - f) (by omega) (by omega)]
    by_cases h0 : t - f = 0
    · rw [if_pos h0, if_pos h0]
      by_cases h1 : f ≥ l
      · rw [if_pos h1]
        have e : decide (f ≤ m) = decide (l ≤ f ∧ f ≤ m) := by rw [decide_eq_decide]; omega
        rw [e]
      · rw [if_neg h1, decide_eq_false (show ¬ (l ≤ f ∧ f ≤ m) by omega)]
    · rw [if_neg h0, if_neg h0]
      by_cases h1 : t < l
      · rw [if_pos h1, if_pos (.inl h1)]
        simp only [box_span.j1, if_true]
      · rw [if_neg h1]
        by_cases h2 : f > m
        · rw [decide_eq_true h2, if_pos (.inr h2)]
          simp only [box_span.j1, if_true]
        · rw [decide_eq_false h2, if_neg (by omega)]
          simp only [box_span.j1, Bool.false_eq_true, if_false]
          rw [wrap64_id (x := l - f) (by omega) (by omega), wrap64_id (x := m - f) (by omega) (by omega)]
          by_cases h3 : f < l <;> by_cases h4 : t > m
          · rw [if_pos h3, if_pos h4, if_pos h3, if_pos h4]
          · rw [if_pos h3, if_neg h4, if_pos h3, if_neg h4]
          · rw [if_neg h3, if_pos h4, if_neg h3, if_pos h4]
          · rw [if_neg h3, if_neg h4, if_neg h3, if_neg h4]
  unfold box_span.f spn
  by_cases h : f > t
  · rw [if_pos h, if_pos h, wrap64_id (x := -f) (by omega) (by omega), wrap64_id (x := -t) (by omega) (by omega), wrap64_id (x := -m) (by omega) (by omega), wrap64_id (x := -l) (by omega) (by omega)]
    exact core _ _ _ _ (by omega) (by omega) (by omega) (by omega) (by omega) (by omega) (by omega) (by omega)
  · rw [if_neg h, if_neg h]
    exact core _ _ _ _ f1 f2 t1 t2 l1 l2 m1 m2
theorem fmd_of {a b : Int} (h : fmd a b = true) : -134217728 ≤ a ∧ a ≤ 134217728 ∧ -134217728 ≤ b ∧ b ≤ 134217728 := by unfold fmd at h; exact of_decide_eq_true h
theorem bfm_of {a b c d : Int} (h : bfm a b c d = true) : (-134217728 ≤ a ∧ a ≤ 134217728 ∧ -134217728 ≤ b ∧ b ≤ 134217728) ∧ (-134217728 ≤ c ∧ c ≤ 134217728 ∧ -134217728 ≤ d ∧ d ≤ 134217728) ∧ a ≤ c ∧ b ≤ d := by
  unfold bfm at h
  simp only [Bool.and_eq_true, decide_eq_true_eq] at h
  exact ⟨fmd_of h.1.1, fmd_of h.1.2, h.2.1, h.2.2⟩
theorem zMeet (fx fy tx ty lx ly ux uy : Int) (k : Nat) :
    box_Meet.f (k + 5) fx fy tx ty lx ly ux uy = some ((mtt fx fy tx ty lx ly ux uy).1.1, (mtt fx fy tx ty lx ly ux uy).1.2, (mtt fx fy tx ty lx ly ux uy).2) := by
  have no : ∀ a b c d e f g h : Int, box_Meet.j0 (k + 5) true a b c d e f g h = some (0, 0, false) := by
    intro a b c d e f g h
    simp only [box_Meet.j0, if_true]
  unfold box_Meet.f mtt
  simp only [zFormed, zbF, Option.bind_some]
  by_cases h1 : fmd fx fy = true
  · by_cases h2 : fmd tx ty = true
    · by_cases h3 : bfm lx ly ux uy = true
      · rw [if_pos h1, if_pos h2, h3, if_pos ⟨h1, h2, rfl⟩]
        obtain ⟨a1, a2, a3, a4⟩ := fmd_of h1
        obtain ⟨b1, b2, b3, b4⟩ := fmd_of h2
        obtain ⟨⟨c1, c2, c3, c4⟩, ⟨d1, d2, d3, d4⟩, _, _⟩ := bfm_of h3
        simp only [box_Meet.j0, Bool.not_true, Bool.false_eq_true, if_false]
        rw [zspan a1 a2 b1 b2 c1 c2 d1 d2 (k + 2), zspan a3 a4 b3 b4 c3 c4 d3 d4 (k + 2)]
        simp only [Option.bind_some]
        rw [met_def]
        by_cases o1 : (spn fx tx lx ux).2.2 = true
        · rw [if_pos o1]
          by_cases o2 : (spn fy ty ly uy).2.2 = true
          · rw [if_pos ⟨o1, o2⟩, o2]
            simp only [Bool.not_true, box_Meet.j1, box_Meet.j2, Bool.false_eq_true, if_false, zAhead, Option.bind_some]
            generalize (spn fx tx lx ux).1 = i
            generalize (spn fx tx lx ux).2.1 = o
            generalize (spn fy ty ly uy).1 = i'
            generalize (spn fy ty ly uy).2.1 = o'
            obtain ⟨i1, i2⟩ := i
            obtain ⟨o1, o2⟩ := o
            obtain ⟨j1, j2⟩ := i'
            obtain ⟨q1, q2⟩ := o'
            cases h : ahd (i1, i2) (j1, j2) <;> cases h' : ahd (q1, q2) (o1, o2) <;> simp only [Bool.false_eq_true, if_false, if_true] <;> split <;> rfl
          · rw [if_neg (fun h => o2 h.2)]
            simp only [o2, Bool.not_false, box_Meet.j1, if_true]
        · rw [if_neg o1, if_neg (fun h => o1 h.1)]
          simp only [box_Meet.j1, if_true]
      · rw [if_pos h1, if_pos h2, if_neg (fun h => h3 h.2.2)]
        simp only [Bool.not_eq_true] at h3
        rw [h3]
        exact no _ _ _ _ _ _ _ _
    · rw [if_pos h1, if_neg h2, if_neg (fun h => h2 h.2.1)]
      exact no _ _ _ _ _ _ _ _
  · rw [if_neg h1, if_neg (fun h => h1 h.1)]
    exact no _ _ _ _ _ _ _ _
theorem rFormed (a b : Int) : ricochetref02_Formed.f a b = some (fmd a b) := by
  unfold ricochetref02_Formed.f fmd
  by_cases h1 : a ≥ -134217728
  · rw [if_pos h1]
    by_cases h2 : a ≤ 134217728
    · rw [if_pos h2]
      by_cases h3 : b ≥ -134217728
      · rw [if_pos h3]; exact dec_t (by omega)
      · rw [if_neg h3]; exact dec_f (by omega)
    · rw [if_neg h2]; exact dec_f (by omega)
  · rw [if_neg h1]; exact dec_f (by omega)
theorem zsmall (a : Int) : ricochetlaw03_small.f a = some a := rfl
end BoxFirstAid
open BoxFirstAid
theorem first_true (a b c d e f g h : Int) : ricochetlaw03_BoxFirst.f 9 a b c d e f g h = some true := by
  unfold ricochetlaw03_BoxFirst.f
  rw [zMeet a b c d e f g h 4, zMeet c d a b e f g h 4]
  simp only [zawake, Option.bind_some, if_true]
  by_cases hF : fmd a b = true ∧ fmd c d = true ∧ bfm e f g h = true
  · obtain ⟨h0, h1, h2⟩ := hF
    obtain ⟨a1, a2, b1, b2⟩ := fmd_of h0
    obtain ⟨c1, c2, d1, d2⟩ := fmd_of h1
    obtain ⟨⟨e1, e2, f1, f2⟩, ⟨g1, g2, i1, i2⟩, hx, hy⟩ := bfm_of h2
    have q1 : mtt a b c d e f g h = met a b c d e f g h := if_pos ⟨h0, h1, h2⟩
    have q2 : mtt c d a b e f g h = met c d a b e f g h := if_pos ⟨h1, h0, h2⟩
    rw [q1, q2, met_rev (fx := a) (fy := b) (tx := c) (ty := d) hx hy (by omega) (by omega) (by omega) (by omega)]
    have Y := @met_yes a b c d e f g h hx hy (by omega) (by omega) (by omega) (by omega)
    have No := @met_no a b c d e f g h hx hy (by omega) (by omega) (by omega) (by omega)
    clear q1 q2
    generalize met a b c d e f g h = M at *
    obtain ⟨⟨n, D⟩, ok⟩ := M
    simp only [bne_self_eq_false]
    by_cases hok : ok = true
    · subst hok
      have M := Y rfl
      have m1 := M.d; have m2 := M.db; have m3 := M.n; have m4 := M.nb
      simp only at m1 m2 m3 m4
      obtain ⟨⟨w1, w2⟩, ⟨w3, w4⟩⟩ := M.ins
      simp only at w1 w2 w3 w4
      simp only [ricochetlaw03_BoxFirst.j0, Bool.false_eq_true, if_false, if_true]
      rw [if_neg (show ¬ D < 1 by omega), if_neg (show ¬ n < 0 by omega), decide_eq_false (show ¬ n > D by omega)]
      simp only [ricochetlaw03_BoxFirst.j1, Bool.false_eq_true, if_false, zsmall, Option.bind_some, zIn]
      have p1 : -(134217728 * 268435456) ≤ a * D ∧ a * D ≤ 134217728 * 268435456 := mul_bd (by omega) (by omega) (by omega) (by omega) (by omega) (by omega)
      have p2 : -(268435456 * 268435456) ≤ (c - a) * n ∧ (c - a) * n ≤ 268435456 * 268435456 := mul_bd (by omega) (by omega) (by omega) (by omega) (by omega) (by omega)
      have p3 : -(134217728 * 268435456) ≤ b * D ∧ b * D ≤ 134217728 * 268435456 := mul_bd (by omega) (by omega) (by omega) (by omega) (by omega) (by omega)
      have p4 : -(268435456 * 268435456) ≤ (d - b) * n ∧ (d - b) * n ≤ 268435456 * 268435456 := mul_bd (by omega) (by omega) (by omega) (by omega) (by omega) (by omega)
      have p5 : -(134217728 * 268435456) ≤ e * D ∧ e * D ≤ 134217728 * 268435456 := mul_bd (by omega) (by omega) (by omega) (by omega) (by omega) (by omega)
      have p6 : -(134217728 * 268435456) ≤ g * D ∧ g * D ≤ 134217728 * 268435456 := mul_bd (by omega) (by omega) (by omega) (by omega) (by omega) (by omega)
      have p7 : -(134217728 * 268435456) ≤ f * D ∧ f * D ≤ 134217728 * 268435456 := mul_bd (by omega) (by omega) (by omega) (by omega) (by omega) (by omega)
      have p8 : -(134217728 * 268435456) ≤ h * D ∧ h * D ≤ 134217728 * 268435456 := mul_bd (by omega) (by omega) (by omega) (by omega) (by omega) (by omega)
      rw [wrap64_id (x := c - a) (by omega) (by omega), wrap64_id (x := a * D) (by omega) (by omega), wrap64_id (x := (c - a) * n) (by omega) (by omega), wrap64_id (x := a * D + (c - a) * n) (by omega) (by omega),
        wrap64_id (x := d - b) (by omega) (by omega), wrap64_id (x := b * D) (by omega) (by omega), wrap64_id (x := (d - b) * n) (by omega) (by omega), wrap64_id (x := b * D + (d - b) * n) (by omega) (by omega),
        wrap64_id (x := e * D) (by omega) (by omega), wrap64_id (x := g * D) (by omega) (by omega), wrap64_id (x := f * D) (by omega) (by omega), wrap64_id (x := h * D) (by omega) (by omega)]
      rw [if_pos (show _ ≥ _ from w1), if_pos w2, if_pos (show _ ≥ _ from w3), if_pos w4]
      have z := M.zero
      simp only at z
      have q : binn a b e f g h = (n == 0) := by
        unfold binn
        rw [h0, h2, Bool.eq_iff_iff, beq_iff_eq, z]
        simp only [Bool.and_eq_true, decide_eq_true_eq, true_and]
        omega
      rw [q]
      simp
    · have hno : ok = false := by simpa using hok
      subst hno
      obtain ⟨q0, q1⟩ := No rfl
      simp only [Prod.mk.injEq] at q0
      obtain ⟨rfl, rfl⟩ := q0
      have i1 : binn a b e f g h = false := by
        rw [← Bool.not_eq_true]
        intro hb
        unfold binn at hb
        simp only [Bool.and_eq_true, decide_eq_true_eq] at hb
        refine q1 0 1 (by omega) (by omega) (by omega) ⟨?_, ?_⟩ <;> unfold Wi <;> omega
      have i2 : binn c d e f g h = false := by
        rw [← Bool.not_eq_true]
        intro hb
        unfold binn at hb
        simp only [Bool.and_eq_true, decide_eq_true_eq] at hb
        refine q1 1 1 (by omega) (by omega) (by omega) ⟨?_, ?_⟩ <;> unfold Wi <;> omega
      simp only [ricochetlaw03_BoxFirst.j0, Bool.false_eq_true, if_false, rFormed, zIn, Option.bind_some, i1, i2]
      rw [if_pos (by rfl), if_pos h0, if_pos h1]
      rfl
  · have q1 : mtt a b c d e f g h = ((0, 0), false) := if_neg hF
    have q2 : mtt c d a b e f g h = ((0, 0), false) := if_neg (fun x => hF ⟨x.2.1, x.1, x.2.2⟩)
    rw [q1, q2]
    simp only [bne_self_eq_false, ricochetlaw03_BoxFirst.j0, Bool.false_eq_true, if_false, rFormed, zIn, Option.bind_some]
    rw [if_pos (by rfl)]
    by_cases h0 : fmd a b = true
    · rw [if_pos h0]
      by_cases h1 : fmd c d = true
      · rw [if_pos h1]
        have hb : bfm e f g h = false := by
          rw [← Bool.not_eq_true]
          exact fun x => hF ⟨h0, h1, x⟩
        unfold binn
        rw [hb]
        simp
      · rw [if_neg h1]
    · rw [if_neg h0]
end Go.Proofs.Ytjbeiingfcfdbaa.Pure
namespace Go.Proofs.Ytjbeiingfcfdbaa.PBoxFirst
open Go.RowKit Go.Proofs.YtjbeiingfcfdbaaW.PrintWords
theorem ricochetlaw03_BoxFirst.calls (a b c d e f g h : Int) (w : World) (_ : (Lit.int .i64 a).wf = true) (_ : (Lit.int .i64 b).wf = true) (_ : (Lit.int .i64 c).wf = true) (_ : (Lit.int .i64 d).wf = true) (_ : (Lit.int .i64 e).wf = true) (_ : (Lit.int .i64 f).wf = true) (_ : (Lit.int .i64 g).wf = true) (_ : (Lit.int .i64 h).wf = true) :
    Calls Try.prog 8 #[.agg #[.int .i64 a, .int .i64 b], .agg #[.int .i64 c, .int .i64 d], .agg #[.int .i64 e, .int .i64 f, .int .i64 g, .int .i64 h]] w fun e w' => e = .returned (.bool true) ∧ Below w.heap.size w w' :=
  first_walk 9 a b c d e f g h true w (Pure.first_true a b c d e f g h) ⟨rfl⟩
end Go.Proofs.Ytjbeiingfcfdbaa.PBoxFirst
namespace Go.Proofs.Ytjbeiingfcfdbaa.Pure
end Go.Proofs.Ytjbeiingfcfdbaa.Pure
