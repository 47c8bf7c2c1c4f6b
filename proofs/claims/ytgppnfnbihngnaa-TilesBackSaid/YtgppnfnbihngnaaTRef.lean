import Derived.Test.YtgppnfnbihngnaaTSignP
import Derived.Test.YtgppnfnbihngnaaPTilesFreex2
import Derived.Deep.LoopGhost
set_option linter.unusedVariables false
set_option linter.unusedSimpArgs false
namespace Go.Proofs.Ytgppnfnbihngnaa.Tiles
open Go.RowKit Go.Proofs.YtgppnfnbihngnaaW.PrintWords Go.Proofs.YtgppnfnbihngnaaW.PrintLast Go.Proofs.YtgppnfnbihngnaaW.PrintMore Go.Proofs.Ytgppnfnbihngnaa.PTilesFree

theorem Rd.start2 (w : World) (ty : Nat) : Rd w w.heap.size (w.heap.size + 1) (w.heap.size + 2) ty TM.zero (.slice none 0 0) (.slice none 0 0) ((w.alloc (.cells #[.int .i64 0, .int .i64 0, .slice none 0 0, .slice none 0 0] ty (0, 0))).alloc (.cells #[.int .i64 0, .int .i64 0, .slice none 0 0, .slice none 0 0] ty (0, 0))) := by
  have h1 := blk_new (w.alloc (.cells #[.int .i64 0, .int .i64 0, .slice none 0 0, .slice none 0 0] ty (0, 0))) (.cells #[.int .i64 0, .int .i64 0, .slice none 0 0, .slice none 0 0] ty (0, 0))
  rw [show (w.alloc (.cells #[.int .i64 0, .int .i64 0, .slice none 0 0, .slice none 0 0] ty (0, 0))).heap.size = w.heap.size + 1 by simp] at h1
  exact ⟨⟨by omega, by omega, by omega⟩, by simp, below_alloc (below_alloc (Below.refl w.heap.size w) _) _, blk_alloc (blk_new w _) _, h1, Kd.R_nil _ _ _ _ _, Kd.R_nil _ _ _ _ _⟩
theorem Fit.wide {x x' c : Int} {m m' : TM} (hx : 0 ≤ x) (h : 0 < m.H → x ≤ m.W) (hs : stepF c x m = some (x', m')) : 0 < m'.H → x' ≤ m'.W := by
  unfold stepF at hs
  split at hs
  · split at hs
    · cases hs
    · simp only [Option.some.injEq, Prod.mk.injEq] at hs
      obtain ⟨rfl, rfl⟩ := hs
      intro _; exact hx
  · split at hs
    · cases hs
    · rename_i _ hh
      simp only [Option.some.injEq, Prod.mk.injEq] at hs
      obtain ⟨rfl, rfl⟩ := hs
      intro (hH : 0 < m.H)
      have := h hH
      show x + 1 ≤ m.W
      omega
set_option maxHeartbeats 8000000 in
set_option maxRecDepth 100000 in
theorem refread_any (s : ByteArray) (hs : s.size ≤ 1000000) (w : World) :
    Calls Try.prog 12 #[.string s] w fun e w' => ∃ vA vS, e = .returned (.tuple #[.agg #[.int .i64 (tread s).1.W, .int .i64 (tread s).1.H, vA, vS], .int .i64 (tread s).2.1, .int .i64 (tread s).2.2]) ∧ Below w.heap.size w w' ∧ Kd.R Kd.bool 4 w' w.heap.size (fun k => w.heap.size ≤ k) vA (tread s).1.ws ∧ Kd.R k39 39 w' w.heap.size (fun k => w.heap.size ≤ k) vS (tread s).1.sp := by
  have H0 := Aside0.mk (Rd.start2 w 30)
  have HS := Aside0.mk hs
  clear hs
  go_enter Try.func12, Try.ntmps12
  go_wp2_with fail
  generalize (w.alloc (.cells #[.int .i64 0, .int .i64 0, .slice none 0 0, .slice none 0 0] 30 (0, 0))).alloc (.cells #[.int .i64 0, .int .i64 0, .slice none 0 0, .slice none 0 0] 30 (0, 0)) = W1 at *
  obtain ⟨B, hBB⟩ : ∃ X, w.heap.size + 1 = X := ⟨_, rfl⟩
  rw [hBB] at H0
  rw [hBB]
  obtain ⟨I, hII⟩ : ∃ X, w.heap.size + 2 = X := ⟨_, rfl⟩
  rw [hII] at H0
  obtain ⟨S, hSS⟩ : ∃ X, w.heap.size = X := ⟨_, rfl⟩
  have HSS := Aside0.mk hSS
  have H1 : Aside0 (Rd w S B I 30 TM.zero (.slice none 0 0) (.slice none 0 0) W1) := ⟨by rw [← hSS]; exact H0.out⟩
  rw [hSS]
  clear hBB hSS H0 hII
  go_loopg [6, 7] s.size (fun kq v6 v7 w' => ∃ (pos : Nat) (x : Int) (m : TM) (vA vS : Value), v6 = .int .i64 x ∧ v7 = .int .i64 (pos : Int) ∧ Aside0 (s.size ≤ pos + kq) ∧ Aside0 (pos ≤ s.size) ∧ Aside0 (Fit pos x m) ∧ Aside0 (0 < m.H → x ≤ m.W) ∧ Aside0 (readF s kq pos x m = tread s) ∧ Aside0 (Rd w S B I 30 m vA vS w'))
  case atStart => exact ⟨0, 0, TM.zero, _, _, rfl, rfl, ⟨by omega⟩, ⟨by omega⟩, ⟨Fit.zero⟩, ⟨fun h => absurd h (by decide)⟩, ⟨rfl⟩, H1⟩
  case round =>
    obtain ⟨pos, x, m, vA, vS, rfl, rfl, HK, HP, HF, HX, HT, HR⟩ := hrel
    clear H1
    by_cases hp : (pos : Int) < (s.size : Int)
    · obtain ⟨k, rfl⟩ : ∃ k, gk = k + 1 := ⟨gk - 1, by have := HK.out; omega⟩
      have HT2 := HT.out
      have hps : pos < s.size := by omega
      simp only [readF, if_pos hps] at HT2
      have HT3 := Aside0.mk HT2
      clear HT2 HT
      have HSC := Aside0.mk (sign_cases s pos hps)
      go_upto_region 6 with (go_at_call 24; (with_reducible refine (sign_any s pos HS.out hps _).mono ?_); rintro e w1 ⟨he, hb1⟩; subst he; have HR1 : Aside0 (Rd w S B I 30 m vA vS w1) := ⟨HR.out.below hb1⟩; clear hb1)
      have n0 : w1.cell? ⟨S, 0, none⟩ = some (.int .i64 0) := (blk_cell HR1.out.h0 0).trans rfl
      have n1 : w1.cell? ⟨S, 1, none⟩ = some (.int .i64 0) := (blk_cell HR1.out.h0 1).trans rfl
      have n2 : w1.cell? ⟨S, 2, none⟩ = some (.slice none 0 0) := (blk_cell HR1.out.h0 2).trans rfl
      have n3 : w1.cell? ⟨S, 3, none⟩ = some (.slice none 0 0) := (blk_cell HR1.out.h0 3).trans rfl
      have g0 : w1.frozen? ⟨S, 0, none⟩ = false := blk_frozen HR1.out.h0 0
      have g1 : w1.frozen? ⟨S, 1, none⟩ = false := blk_frozen HR1.out.h0 1
      have g2 : w1.frozen? ⟨S, 2, none⟩ = false := blk_frozen HR1.out.h0 2
      have g3 : w1.frozen? ⟨S, 3, none⟩ = false := blk_frozen HR1.out.h0 3
      have c0 := HR1.out.cellW
      have c1 := HR1.out.cellH
      have f0 := HR1.out.froz 0
      have f1 := HR1.out.froz 1
      have hpb : pos ≤ 1000000 := by have := HP.out; have := HS.out; omega
      have hpb0 : (0 : Int) ≤ (pos : Int) := by omega
      obtain ⟨fx0, fx1, fx2, fx3, fx4, fx5, fx6, fx7, fx8⟩ := HF.out
      have HX0 := HX.out
      rcases HSC.out with ⟨hd, hl, hg⟩ | ⟨hd, hl, hg⟩ | ⟨hd, hl, hg⟩ | ⟨hd, hl, hg⟩ | ⟨hd1, hd2, hd3, hd4, hg⟩
      · rw [hg]
        clear HSC hg
        have HT4 := HT3.out
        rw [hd] at HT4
        change (match stepF 9608 x m with | none => (TM.zero, (pos : Int), (2 : Int)) | some (x', m') => readF s k (pos + 3) x' m') = tread s at HT4
        have hw : IntKind.i64.wrap ((pos : Int) + 3) = (pos : Int) + 3 := by rw [i64_w]; unfold wrap64; omega
        clear hd
        by_cases h32 : 32 ≤ m.H
        · have HE : Aside0 (tread s = (TM.zero, (pos : Int), 2)) := ⟨by rw [← HT4]; simp [stepF]; rw [if_pos (by omega)]⟩
          clear HT3 HT4
          (go_wp2_with fail; refine bodyPost_ret (results_ctt rfl _ _ S 30 #[.int .i64 0, .int .i64 0, .slice none 0 0, .slice none 0 0] (0, 0) _ rfl (put4 HR1.out.h0 _ _ _ _) Try.underlying30 rfl (by kernel_rfl)) rfl ?_; exact ⟨.slice none 0 0, .slice none 0 0, by rw [HE.out]; rfl, (HR1.out.out4 _ _ _ _).1, by rw [HE.out]; exact ⟨Kd.R_nil _ _ _ _ _, Kd.R_nil _ _ _ _ _⟩⟩)
        · by_cases hx32 : 32 ≤ x
          · have HE : Aside0 (tread s = (TM.zero, (pos : Int), 2)) := ⟨by rw [← HT4]; simp [stepF]; rw [if_pos (by omega)]⟩
            clear HT3 HT4
            (go_wp2_with fail; refine bodyPost_ret (results_ctt rfl _ _ S 30 #[.int .i64 0, .int .i64 0, .slice none 0 0, .slice none 0 0] (0, 0) _ rfl (put4 HR1.out.h0 _ _ _ _) Try.underlying30 rfl (by kernel_rfl)) rfl ?_; exact ⟨.slice none 0 0, .slice none 0 0, by rw [HE.out]; rfl, (HR1.out.out4 _ _ _ _).1, by rw [HE.out]; exact ⟨Kd.R_nil _ _ _ _ _, Kd.R_nil _ _ _ _ _⟩⟩)
          · by_cases hbad : 0 < m.H ∧ m.W ≤ x
            · have HE : Aside0 (tread s = (TM.zero, (pos : Int), 2)) := ⟨by rw [← HT4]; simp [stepF]; rw [if_pos (by have := HX0 hbad.1; omega)]⟩
              obtain ⟨hb1, hb2⟩ := hbad
              clear HT3 HT4
              (go_wp2_with fail; refine bodyPost_ret (results_ctt rfl _ _ S 30 #[.int .i64 0, .int .i64 0, .slice none 0 0, .slice none 0 0] (0, 0) _ rfl (put4 HR1.out.h0 _ _ _ _) Try.underlying30 rfl (by kernel_rfl)) rfl ?_; exact ⟨.slice none 0 0, .slice none 0 0, by rw [HE.out]; rfl, (HR1.out.out4 _ _ _ _).1, by rw [HE.out]; exact ⟨Kd.R_nil _ _ _ _ _, Kd.R_nil _ _ _ _ _⟩⟩)
            · have hs3 : stepF 9608 x m = some (x + 1, { m with ws := m.ws ++ [true] }) := by
                unfold stepF; rw [if_neg (by decide), if_neg (by omega)]; rfl
              have HE1 : Aside0 (readF s k (pos + 3) (x + 1) { m with ws := m.ws ++ [true] } = tread s) := ⟨by rw [← HT4, hs3]⟩
              have HF1 : Aside0 (Fit (pos + 3) (x + 1) { m with ws := m.ws ++ [true] }) := ⟨HF.out.step (by decide) hs3⟩
              have HX1 : Aside0 (0 < m.H → x + 1 ≤ m.W) := ⟨by have h := Fit.wide fx0 HX0 hs3; exact h⟩
              clear hs3 HT3 HT4
              have c2 := HR1.out.cellA
              have c3 := HR1.out.cellS
              have f2 := HR1.out.froz 2
              have f3 := HR1.out.froz 3
              obtain ⟨A2, cA, rfl, hlA, _⟩ := Kd.R_reads HR1.out.hA
              obtain ⟨A3, cS, rfl, hlS, _⟩ := Kd.R_reads HR1.out.hS
              have hH' : 0 < m.H ∨ ¬ 0 < m.H := by omega
              have hxW : 0 < m.H → ¬ m.W ≤ x := fun h e => hbad ⟨h, e⟩
              clear hbad HX0
              rcases hH' with hH | hH
              · replace hxW := hxW hH
                go_wp2_with (at_builtin; refine Kd.R_append Kd.bool (w0 := w) w.heap.size rfl _ _ 23 4 (.bool false) 1 rfl Try.underlying23 info4 rfl (by decide) (by decide) (.slice A2 m.ws.length cA) m.ws true [.bool true] (fun k => I ≤ k) (fun _ => False) rfl rfl rfl (fun _ h => h.elim) (fun k hk => Nat.le_trans HR1.out.hI hk) HR1.out.hA HR1.out.hB HR1.out.hB.size (by omega) ?_; intro v1 w2 h1 h2 h3 h4; have HR2 : Aside0 (Rd w S B I 30 { m with ws := m.ws ++ [true] } v1 (.slice A3 m.sp.length cS) (w2.setCell ⟨B, 2, none⟩ v1)) := ⟨HR1.out.addA (.inr rfl) h1 h2 h3⟩; have e2 : w2.cell? ⟨B, 2, none⟩ = some (.slice A2 m.ws.length cA) := (blk_cell ((h3.block B (blk_lt HR1.out.h1) (fun e => by have : I ≤ B := HR1.out.hA.1 B e.symm; have := HR1.out.hl; omega)).trans HR1.out.h1) 2).trans rfl; have d2 : w2.frozen? ⟨B, 2, none⟩ = false := blk_frozen ((h3.block B (blk_lt HR1.out.h1) (fun e => by have : I ≤ B := HR1.out.hA.1 B e.symm; have := HR1.out.hl; omega)).trans HR1.out.h1) 2; obtain ⟨A4, cA4, e4⟩ := Kd.R_slice h1; rw [List.length_append, List.length_singleton] at e4; subst e4; clear h1 h2 h3 h4)
                go_roundg k
                · exact ⟨pos + 3, x + 1, _, _, _, rfl, by simp, ⟨by have := HK.out; omega⟩, ⟨hl⟩, HF1, HX1, HE1, HR2⟩
                · omega
              · clear hxW
                go_wp2_with (at_builtin; refine Kd.R_append Kd.bool (w0 := w) w.heap.size rfl _ _ 23 4 (.bool false) 1 rfl Try.underlying23 info4 rfl (by decide) (by decide) (.slice A2 m.ws.length cA) m.ws true [.bool true] (fun k => I ≤ k) (fun _ => False) rfl rfl rfl (fun _ h => h.elim) (fun k hk => Nat.le_trans HR1.out.hI hk) HR1.out.hA HR1.out.hB HR1.out.hB.size (by omega) ?_; intro v1 w2 h1 h2 h3 h4; have HR2 : Aside0 (Rd w S B I 30 { m with ws := m.ws ++ [true] } v1 (.slice A3 m.sp.length cS) (w2.setCell ⟨B, 2, none⟩ v1)) := ⟨HR1.out.addA (.inr rfl) h1 h2 h3⟩; have e2 : w2.cell? ⟨B, 2, none⟩ = some (.slice A2 m.ws.length cA) := (blk_cell ((h3.block B (blk_lt HR1.out.h1) (fun e => by have : I ≤ B := HR1.out.hA.1 B e.symm; have := HR1.out.hl; omega)).trans HR1.out.h1) 2).trans rfl; have d2 : w2.frozen? ⟨B, 2, none⟩ = false := blk_frozen ((h3.block B (blk_lt HR1.out.h1) (fun e => by have : I ≤ B := HR1.out.hA.1 B e.symm; have := HR1.out.hl; omega)).trans HR1.out.h1) 2; obtain ⟨A4, cA4, e4⟩ := Kd.R_slice h1; rw [List.length_append, List.length_singleton] at e4; subst e4; clear h1 h2 h3 h4)
                go_roundg k
                · exact ⟨pos + 3, x + 1, _, _, _, rfl, by simp, ⟨by have := HK.out; omega⟩, ⟨hl⟩, HF1, HX1, HE1, HR2⟩
                · omega
      · rw [hg]
        clear HSC hg
        have HT4 := HT3.out
        rw [hd] at HT4
        change (match stepF 183 x m with | none => (TM.zero, (pos : Int), (2 : Int)) | some (x', m') => readF s k (pos + 2) x' m') = tread s at HT4
        have hw : IntKind.i64.wrap ((pos : Int) + 2) = (pos : Int) + 2 := by rw [i64_w]; unfold wrap64; omega
        clear hd
        by_cases h32 : 32 ≤ m.H
        · have HE : Aside0 (tread s = (TM.zero, (pos : Int), 2)) := ⟨by rw [← HT4]; simp [stepF]; rw [if_pos (by omega)]⟩
          clear HT3 HT4
          (go_wp2_with fail; refine bodyPost_ret (results_ctt rfl _ _ S 30 #[.int .i64 0, .int .i64 0, .slice none 0 0, .slice none 0 0] (0, 0) _ rfl (put4 HR1.out.h0 _ _ _ _) Try.underlying30 rfl (by kernel_rfl)) rfl ?_; exact ⟨.slice none 0 0, .slice none 0 0, by rw [HE.out]; rfl, (HR1.out.out4 _ _ _ _).1, by rw [HE.out]; exact ⟨Kd.R_nil _ _ _ _ _, Kd.R_nil _ _ _ _ _⟩⟩)
        · by_cases hx32 : 32 ≤ x
          · have HE : Aside0 (tread s = (TM.zero, (pos : Int), 2)) := ⟨by rw [← HT4]; simp [stepF]; rw [if_pos (by omega)]⟩
            clear HT3 HT4
            (go_wp2_with fail; refine bodyPost_ret (results_ctt rfl _ _ S 30 #[.int .i64 0, .int .i64 0, .slice none 0 0, .slice none 0 0] (0, 0) _ rfl (put4 HR1.out.h0 _ _ _ _) Try.underlying30 rfl (by kernel_rfl)) rfl ?_; exact ⟨.slice none 0 0, .slice none 0 0, by rw [HE.out]; rfl, (HR1.out.out4 _ _ _ _).1, by rw [HE.out]; exact ⟨Kd.R_nil _ _ _ _ _, Kd.R_nil _ _ _ _ _⟩⟩)
          · by_cases hbad : 0 < m.H ∧ m.W ≤ x
            · have HE : Aside0 (tread s = (TM.zero, (pos : Int), 2)) := ⟨by rw [← HT4]; simp [stepF]; rw [if_pos (by have := HX0 hbad.1; omega)]⟩
              obtain ⟨hb1, hb2⟩ := hbad
              clear HT3 HT4
              (go_wp2_with fail; refine bodyPost_ret (results_ctt rfl _ _ S 30 #[.int .i64 0, .int .i64 0, .slice none 0 0, .slice none 0 0] (0, 0) _ rfl (put4 HR1.out.h0 _ _ _ _) Try.underlying30 rfl (by kernel_rfl)) rfl ?_; exact ⟨.slice none 0 0, .slice none 0 0, by rw [HE.out]; rfl, (HR1.out.out4 _ _ _ _).1, by rw [HE.out]; exact ⟨Kd.R_nil _ _ _ _ _, Kd.R_nil _ _ _ _ _⟩⟩)
            · have hs3 : stepF 183 x m = some (x + 1, { m with ws := m.ws ++ [false] }) := by
                unfold stepF; rw [if_neg (by decide), if_neg (by omega)]; rfl
              have HE1 : Aside0 (readF s k (pos + 2) (x + 1) { m with ws := m.ws ++ [false] } = tread s) := ⟨by rw [← HT4, hs3]⟩
              have HF1 : Aside0 (Fit (pos + 2) (x + 1) { m with ws := m.ws ++ [false] }) := ⟨HF.out.step (by decide) hs3⟩
              have HX1 : Aside0 (0 < m.H → x + 1 ≤ m.W) := ⟨by have h := Fit.wide fx0 HX0 hs3; exact h⟩
              clear hs3 HT3 HT4
              have c2 := HR1.out.cellA
              have c3 := HR1.out.cellS
              have f2 := HR1.out.froz 2
              have f3 := HR1.out.froz 3
              obtain ⟨A2, cA, rfl, hlA, _⟩ := Kd.R_reads HR1.out.hA
              obtain ⟨A3, cS, rfl, hlS, _⟩ := Kd.R_reads HR1.out.hS
              have hH' : 0 < m.H ∨ ¬ 0 < m.H := by omega
              have hxW : 0 < m.H → ¬ m.W ≤ x := fun h e => hbad ⟨h, e⟩
              clear hbad HX0
              rcases hH' with hH | hH
              · replace hxW := hxW hH
                go_wp2_with (at_builtin; refine Kd.R_append Kd.bool (w0 := w) w.heap.size rfl _ _ 23 4 (.bool false) 1 rfl Try.underlying23 info4 rfl (by decide) (by decide) (.slice A2 m.ws.length cA) m.ws false [.bool false] (fun k => I ≤ k) (fun _ => False) rfl rfl rfl (fun _ h => h.elim) (fun k hk => Nat.le_trans HR1.out.hI hk) HR1.out.hA HR1.out.hB HR1.out.hB.size (by omega) ?_; intro v1 w2 h1 h2 h3 h4; have HR2 : Aside0 (Rd w S B I 30 { m with ws := m.ws ++ [false] } v1 (.slice A3 m.sp.length cS) (w2.setCell ⟨B, 2, none⟩ v1)) := ⟨HR1.out.addA (.inr rfl) h1 h2 h3⟩; have e2 : w2.cell? ⟨B, 2, none⟩ = some (.slice A2 m.ws.length cA) := (blk_cell ((h3.block B (blk_lt HR1.out.h1) (fun e => by have : I ≤ B := HR1.out.hA.1 B e.symm; have := HR1.out.hl; omega)).trans HR1.out.h1) 2).trans rfl; have d2 : w2.frozen? ⟨B, 2, none⟩ = false := blk_frozen ((h3.block B (blk_lt HR1.out.h1) (fun e => by have : I ≤ B := HR1.out.hA.1 B e.symm; have := HR1.out.hl; omega)).trans HR1.out.h1) 2; obtain ⟨A4, cA4, e4⟩ := Kd.R_slice h1; rw [List.length_append, List.length_singleton] at e4; subst e4; clear h1 h2 h3 h4)
                go_roundg k
                · exact ⟨pos + 2, x + 1, _, _, _, rfl, by simp, ⟨by have := HK.out; omega⟩, ⟨hl⟩, HF1, HX1, HE1, HR2⟩
                · omega
              · clear hxW
                go_wp2_with (at_builtin; refine Kd.R_append Kd.bool (w0 := w) w.heap.size rfl _ _ 23 4 (.bool false) 1 rfl Try.underlying23 info4 rfl (by decide) (by decide) (.slice A2 m.ws.length cA) m.ws false [.bool false] (fun k => I ≤ k) (fun _ => False) rfl rfl rfl (fun _ h => h.elim) (fun k hk => Nat.le_trans HR1.out.hI hk) HR1.out.hA HR1.out.hB HR1.out.hB.size (by omega) ?_; intro v1 w2 h1 h2 h3 h4; have HR2 : Aside0 (Rd w S B I 30 { m with ws := m.ws ++ [false] } v1 (.slice A3 m.sp.length cS) (w2.setCell ⟨B, 2, none⟩ v1)) := ⟨HR1.out.addA (.inr rfl) h1 h2 h3⟩; have e2 : w2.cell? ⟨B, 2, none⟩ = some (.slice A2 m.ws.length cA) := (blk_cell ((h3.block B (blk_lt HR1.out.h1) (fun e => by have : I ≤ B := HR1.out.hA.1 B e.symm; have := HR1.out.hl; omega)).trans HR1.out.h1) 2).trans rfl; have d2 : w2.frozen? ⟨B, 2, none⟩ = false := blk_frozen ((h3.block B (blk_lt HR1.out.h1) (fun e => by have : I ≤ B := HR1.out.hA.1 B e.symm; have := HR1.out.hl; omega)).trans HR1.out.h1) 2; obtain ⟨A4, cA4, e4⟩ := Kd.R_slice h1; rw [List.length_append, List.length_singleton] at e4; subst e4; clear h1 h2 h3 h4)
                go_roundg k
                · exact ⟨pos + 2, x + 1, _, _, _, rfl, by simp, ⟨by have := HK.out; omega⟩, ⟨hl⟩, HF1, HX1, HE1, HR2⟩
                · omega
      · rw [hg]
        clear HSC hg
        have HT4 := HT3.out
        rw [hd] at HT4
        change (match stepF 9678 x m with | none => (TM.zero, (pos : Int), (2 : Int)) | some (x', m') => readF s k (pos + 3) x' m') = tread s at HT4
        have hw : IntKind.i64.wrap ((pos : Int) + 3) = (pos : Int) + 3 := by rw [i64_w]; unfold wrap64; omega
        clear hd
        by_cases h32 : 32 ≤ m.H
        · have HE : Aside0 (tread s = (TM.zero, (pos : Int), 2)) := ⟨by rw [← HT4]; simp [stepF]; rw [if_pos (by omega)]⟩
          clear HT3 HT4
          (go_wp2_with fail; refine bodyPost_ret (results_ctt rfl _ _ S 30 #[.int .i64 0, .int .i64 0, .slice none 0 0, .slice none 0 0] (0, 0) _ rfl (put4 HR1.out.h0 _ _ _ _) Try.underlying30 rfl (by kernel_rfl)) rfl ?_; exact ⟨.slice none 0 0, .slice none 0 0, by rw [HE.out]; rfl, (HR1.out.out4 _ _ _ _).1, by rw [HE.out]; exact ⟨Kd.R_nil _ _ _ _ _, Kd.R_nil _ _ _ _ _⟩⟩)
        · by_cases hx32 : 32 ≤ x
          · have HE : Aside0 (tread s = (TM.zero, (pos : Int), 2)) := ⟨by rw [← HT4]; simp [stepF]; rw [if_pos (by omega)]⟩
            clear HT3 HT4
            (go_wp2_with fail; refine bodyPost_ret (results_ctt rfl _ _ S 30 #[.int .i64 0, .int .i64 0, .slice none 0 0, .slice none 0 0] (0, 0) _ rfl (put4 HR1.out.h0 _ _ _ _) Try.underlying30 rfl (by kernel_rfl)) rfl ?_; exact ⟨.slice none 0 0, .slice none 0 0, by rw [HE.out]; rfl, (HR1.out.out4 _ _ _ _).1, by rw [HE.out]; exact ⟨Kd.R_nil _ _ _ _ _, Kd.R_nil _ _ _ _ _⟩⟩)
          · by_cases hbad : 0 < m.H ∧ m.W ≤ x
            · have HE : Aside0 (tread s = (TM.zero, (pos : Int), 2)) := ⟨by rw [← HT4]; simp [stepF]; rw [if_pos (by have := HX0 hbad.1; omega)]⟩
              obtain ⟨hb1, hb2⟩ := hbad
              clear HT3 HT4
              (go_wp2_with fail; refine bodyPost_ret (results_ctt rfl _ _ S 30 #[.int .i64 0, .int .i64 0, .slice none 0 0, .slice none 0 0] (0, 0) _ rfl (put4 HR1.out.h0 _ _ _ _) Try.underlying30 rfl (by kernel_rfl)) rfl ?_; exact ⟨.slice none 0 0, .slice none 0 0, by rw [HE.out]; rfl, (HR1.out.out4 _ _ _ _).1, by rw [HE.out]; exact ⟨Kd.R_nil _ _ _ _ _, Kd.R_nil _ _ _ _ _⟩⟩)
            · have hs3 : stepF 9678 x m = some (x + 1, { m with ws := m.ws ++ [false], sp := m.sp ++ [midF x m.H] }) := by
                unfold stepF; rw [if_neg (by decide), if_neg (by omega)]; rfl
              have HE1 : Aside0 (readF s k (pos + 3) (x + 1) { m with ws := m.ws ++ [false], sp := m.sp ++ [midF x m.H] } = tread s) := ⟨by rw [← HT4, hs3]⟩
              have HF1 : Aside0 (Fit (pos + 3) (x + 1) { m with ws := m.ws ++ [false], sp := m.sp ++ [midF x m.H] }) := ⟨HF.out.step (by decide) hs3⟩
              have HX1 : Aside0 (0 < m.H → x + 1 ≤ m.W) := ⟨by have h := Fit.wide fx0 HX0 hs3; exact h⟩
              clear hs3 HT3 HT4
              have c2 := HR1.out.cellA
              have c3 := HR1.out.cellS
              have f2 := HR1.out.froz 2
              have f3 := HR1.out.froz 3
              obtain ⟨A2, cA, rfl, hlA, _⟩ := Kd.R_reads HR1.out.hA
              obtain ⟨A3, cS, rfl, hlS, _⟩ := Kd.R_reads HR1.out.hS
              have hH' : 0 < m.H ∨ ¬ 0 < m.H := by omega
              have hxW : 0 < m.H → ¬ m.W ≤ x := fun h e => hbad ⟨h, e⟩
              clear hbad HX0
              rcases hH' with hH | hH
              · replace hxW := hxW hH
                go_upto_region 16 with (at_builtin; refine Kd.R_append Kd.bool (w0 := w) w.heap.size rfl _ _ 23 4 (.bool false) 1 rfl Try.underlying23 info4 rfl (by decide) (by decide) (.slice A2 m.ws.length cA) m.ws false [.bool false] (fun k => I ≤ k) (fun _ => False) rfl rfl rfl (fun _ h => h.elim) (fun k hk => Nat.le_trans HR1.out.hI hk) HR1.out.hA HR1.out.hB HR1.out.hB.size (by omega) ?_; intro v1 w2 h1 h2 h3 h4; have HR2 : Aside0 (Rd w S B I 30 { m with ws := m.ws ++ [false] } v1 (.slice A3 m.sp.length cS) (w2.setCell ⟨B, 2, none⟩ v1)) := ⟨HR1.out.addA (.inr rfl) h1 h2 h3⟩; have e2 : w2.cell? ⟨B, 2, none⟩ = some (.slice A2 m.ws.length cA) := (blk_cell ((h3.block B (blk_lt HR1.out.h1) (fun e => by have : I ≤ B := HR1.out.hA.1 B e.symm; have := HR1.out.hl; omega)).trans HR1.out.h1) 2).trans rfl; have d2 : w2.frozen? ⟨B, 2, none⟩ = false := blk_frozen ((h3.block B (blk_lt HR1.out.h1) (fun e => by have : I ≤ B := HR1.out.hA.1 B e.symm; have := HR1.out.hl; omega)).trans HR1.out.h1) 2; obtain ⟨A4, cA4, e4⟩ := Kd.R_slice h1; rw [List.length_append, List.length_singleton] at e4; subst e4; have k1 : (w2.setCell ⟨B, 2, none⟩ (.slice A4 (m.ws.length + 1) cA4)).cell? ⟨B, 1, none⟩ = some (.int .i64 m.H) := HR2.out.cellH; have k3 : (w2.setCell ⟨B, 2, none⟩ (.slice A4 (m.ws.length + 1) cA4)).cell? ⟨B, 3, none⟩ = some (.slice A3 m.sp.length cS) := HR2.out.cellS; clear h1 h2 h3 h4)
                generalize w2.setCell ⟨B, 2, none⟩ (.slice A4 (m.ws.length + 1) cA4) = w3 at *
                refine start_ (n := 10) (S := fun w' => w'.cell? ⟨B, 1, none⟩ = some (.int .i64 m.H) ∧ w'.cell? ⟨B, 3, none⟩ = some (.slice A3 m.sp.length cS)) (ds := [9]) #[false, false, false, false, false, false, false, false, false, false] (by kernel_rfl) rfl rfl ⟨HR2.out.drew.cellH, HR2.out.drew.cellS⟩ (fun hHeld => ?_)
                refine pure_ (i := 0) (N := some 76) (v := ?_) (a' := ?_) #[true, false, false, false, false, false, false, false, false, false] rfl rfl (by kernel_rfl) (fun _ _ _ h => h) (Or.inl ⟨by rfl, ?_⟩) ?_ ?_
                rotate_left
                · intro w'
                  go_simp
                  with_reducible rfl
                rotate_left
                · simp only [Act.put, List.setIfInBounds_toArray, List.set_cons_zero, List.set_cons_succ, i64_w, i32_w]
                  rfl
                refine pure_ (i := 2) (N := some 78) (v := ?_) (a' := ?_) #[true, false, true, false, false, false, false, false, false, false] rfl rfl (by kernel_rfl) (fun _ _ _ h => h) (Or.inl ⟨by rfl, ?_⟩) ?_ ?_
                rotate_left
                · intro w'
                  go_simp
                  with_reducible rfl
                rotate_left
                · simp only [Act.put, List.setIfInBounds_toArray, List.set_cons_zero, List.set_cons_succ, i64_w, i32_w]
                  rfl
                refine pure_ (i := 3) (N := some 79) (v := ?_) (a' := ?_) #[true, false, true, true, false, false, false, false, false, false] rfl rfl (by kernel_rfl) (fun _ _ _ h => h) (Or.inl ⟨by rfl, ?_⟩) ?_ ?_
                rotate_left
                · intro w'
                  go_simp
                  with_reducible rfl
                rotate_left
                · simp only [Act.put, List.setIfInBounds_toArray, List.set_cons_zero, List.set_cons_succ, i64_w, i32_w]
                  rfl
                refine take_ (i := 1) (N := some 77) (v := ?_) (a' := ?_) #[true, true, true, true, false, false, false, false, false, false] rfl rfl (by kernel_rfl) (fun _ _ _ h => h) (Or.inl ⟨by rfl, ?_⟩) hHeld ?_ ?_
                rotate_left
                · rintro w' ⟨s0, s1⟩
                  go_simp
                  with_reducible rfl
                rotate_left
                · simp only [Act.put, List.setIfInBounds_toArray, List.set_cons_zero, List.set_cons_succ, i64_w, i32_w]
                  rfl
                refine take_ (i := 4) (N := some 80) (v := ?_) (a' := ?_) #[true, true, true, true, true, false, false, false, false, false] rfl rfl (by kernel_rfl) (fun _ _ _ h => h) (Or.inl ⟨by rfl, ?_⟩) hHeld ?_ ?_
                rotate_left
                · rintro w' ⟨s0, s1⟩
                  go_simp
                  with_reducible rfl
                rotate_left
                · simp only [Act.put, List.setIfInBounds_toArray, List.set_cons_zero, List.set_cons_succ, i64_w, i32_w]
                  rfl
                refine one_ (i := 5) (N := some 81) #[true, true, true, true, true, true, false, false, false, false] rfl rfl (by kernel_rfl) (by decide) (fun K hK => ?_)
                refine goes_ Try.func25 (by kernel_rfl) rfl #[.int .i64 x, .int .i64 m.H] (by rfl) rfl rfl (by simp only [List.map_toArray, List.map_cons, List.map_nil]; rfl) ?_
                with_reducible refine (ricochetref11_Middle.calls x m.H _ _ _ rfl).mono ?_
                rintro e w4 ⟨rfl, hb4⟩
                refine ⟨_, rfl, ?_⟩
                have HR4 := Aside0.mk (HR2.out.drew.below hb4)
                clear hb4
                refine hK.out _ _ ⟨HR4.out.cellH, HR4.out.cellS⟩ (fun hHeld => ?_)
                clear hK K
                refine norm_ (a' := ?_) ?_ ?_
                rotate_left
                · show Act.put _ (some 81) _ = _
                  simp only [Act.put, List.setIfInBounds_toArray, List.set_cons_zero, List.set_cons_succ, i64_w, i32_w]
                  rfl
                refine one_ (i := 6) (N := some 82) #[true, true, true, true, true, true, true, false, false, false] rfl rfl (by kernel_rfl) (by decide) (fun K hK => ?_)
                refine value_ (w1 := ?_) (v := ?_) (by rfl) rfl ?_ ?_
                rotate_left 2
                · go_simp
                  constructor
                  · rfl
                  · rfl
                refine hK.out _ _ ⟨(HR4.out.alloc _).cellH, (HR4.out.alloc _).cellS⟩ (fun hHeld => ?_)
                clear hK K
                refine norm_ (a' := ?_) ?_ ?_
                rotate_left
                · show Act.put _ (some 82) _ = _
                  simp only [Act.put, List.setIfInBounds_toArray, List.set_cons_zero, List.set_cons_succ, i64_w, i32_w]
                  rfl
                refine one_ (i := 7) (N := some 83) #[true, true, true, true, true, true, true, true, false, false] rfl rfl (by kernel_rfl) (by decide) (fun K hK => ?_)
                refine Kd.R_append_step k39 (w0 := w) w.heap.size (by rfl) (.tmp 77) (.tmp 82) 24 39 (.agg #[.int .i64 0, .int .i64 0]) 16 rfl Try.underlying24 info39 rfl (by decide) (by decide) (.slice A3 m.sp.length cS) m.sp (midF x m.H) [.int .i64 (midF x m.H).f0, .int .i64 (midF x m.H).f1] (fun k => I ≤ k) (fun _ => False) rfl rfl (k39_mkM _ _ _ _) (fun _ h => h.elim) (fun k hk => Nat.le_trans HR4.out.hI hk) HR4.out.hS HR4.out.hB HR4.out.hB.size (by omega) ?_
                intro v1 w5 h1 h2 h3 h4
                have hB5 := (h3.block B (blk_lt HR4.out.h1) (fun e => by have : I ≤ B := HR4.out.hS.1 B e.symm; have := HR4.out.hl; omega)).trans HR4.out.h1
                have HR5 : Aside0 (Rd w S B I 30 { m with ws := m.ws ++ [false], sp := m.sp ++ [midF x m.H] } (.slice A4 (m.ws.length + 1) cA4) v1 (w5.setCell ⟨B, 3, none⟩ v1)) := ⟨HR4.out.addS (.inr rfl) h1 h2 h3⟩
                have d5 : w5.frozen? ⟨B, 3, none⟩ = false := blk_frozen hB5 3
                have e5 : w5.cell? ⟨B, 3, none⟩ = some (.slice A3 m.sp.length cS) := (blk_cell hB5 3).trans rfl
                obtain ⟨A6, cA6, e6⟩ := Kd.R_slice h1
                rw [List.length_append, List.length_singleton] at e6
                subst e6
                clear h1 h2 h3 h4
                refine hK.out _ _ ⟨((blk_cell hB5 1).trans rfl), ((blk_cell hB5 3).trans rfl)⟩ (fun hHeld => ?_)
                clear hK K
                refine norm_ (a' := ?_) ?_ ?_
                rotate_left
                · show Act.put _ (some 83) _ = _
                  simp only [Act.put, List.setIfInBounds_toArray, List.set_cons_zero, List.set_cons_succ, i64_w, i32_w]
                  rfl
                refine pure_ (i := 8) (N := some 84) (v := ?_) (a' := ?_) #[true, true, true, true, true, true, true, true, true, false] rfl rfl (by kernel_rfl) (fun _ _ _ h => h) (Or.inl ⟨by rfl, ?_⟩) ?_ ?_
                rotate_left
                · intro w'
                  go_simp
                  with_reducible rfl
                rotate_left
                · simp only [Act.put, List.setIfInBounds_toArray, List.set_cons_zero, List.set_cons_succ, i64_w, i32_w]
                  rfl
                refine last_ (i := 9) (N := none) #[true, true, true, true, true, true, true, true, true, true] rfl rfl (by kernel_rfl) (by decide) (fun K hK => ?_)
                refine skip_ (w1 := ?_) (by rfl) rfl ?_ ?_
                rotate_left
                · go_simp
                  rfl
                refine hK.out _ _ ?_
                clear hK K
                refine done_ (by kernel_rfl) ?_
                go_wp2_with fail
                go_roundg k
                · exact ⟨pos + 3, x + 1, _, _, _, rfl, by simp, ⟨by have := HK.out; omega⟩, ⟨hl⟩, HF1, HX1, HE1, HR5⟩
                · omega
              · clear hxW
                go_upto_region 16 with (at_builtin; refine Kd.R_append Kd.bool (w0 := w) w.heap.size rfl _ _ 23 4 (.bool false) 1 rfl Try.underlying23 info4 rfl (by decide) (by decide) (.slice A2 m.ws.length cA) m.ws false [.bool false] (fun k => I ≤ k) (fun _ => False) rfl rfl rfl (fun _ h => h.elim) (fun k hk => Nat.le_trans HR1.out.hI hk) HR1.out.hA HR1.out.hB HR1.out.hB.size (by omega) ?_; intro v1 w2 h1 h2 h3 h4; have HR2 : Aside0 (Rd w S B I 30 { m with ws := m.ws ++ [false] } v1 (.slice A3 m.sp.length cS) (w2.setCell ⟨B, 2, none⟩ v1)) := ⟨HR1.out.addA (.inr rfl) h1 h2 h3⟩; have e2 : w2.cell? ⟨B, 2, none⟩ = some (.slice A2 m.ws.length cA) := (blk_cell ((h3.block B (blk_lt HR1.out.h1) (fun e => by have : I ≤ B := HR1.out.hA.1 B e.symm; have := HR1.out.hl; omega)).trans HR1.out.h1) 2).trans rfl; have d2 : w2.frozen? ⟨B, 2, none⟩ = false := blk_frozen ((h3.block B (blk_lt HR1.out.h1) (fun e => by have : I ≤ B := HR1.out.hA.1 B e.symm; have := HR1.out.hl; omega)).trans HR1.out.h1) 2; obtain ⟨A4, cA4, e4⟩ := Kd.R_slice h1; rw [List.length_append, List.length_singleton] at e4; subst e4; have k1 : (w2.setCell ⟨B, 2, none⟩ (.slice A4 (m.ws.length + 1) cA4)).cell? ⟨B, 1, none⟩ = some (.int .i64 m.H) := HR2.out.cellH; have k3 : (w2.setCell ⟨B, 2, none⟩ (.slice A4 (m.ws.length + 1) cA4)).cell? ⟨B, 3, none⟩ = some (.slice A3 m.sp.length cS) := HR2.out.cellS; clear h1 h2 h3 h4)
                generalize w2.setCell ⟨B, 2, none⟩ (.slice A4 (m.ws.length + 1) cA4) = w3 at *
                refine start_ (n := 10) (S := fun w' => w'.cell? ⟨B, 1, none⟩ = some (.int .i64 m.H) ∧ w'.cell? ⟨B, 3, none⟩ = some (.slice A3 m.sp.length cS)) (ds := [9]) #[false, false, false, false, false, false, false, false, false, false] (by kernel_rfl) rfl rfl ⟨HR2.out.drew.cellH, HR2.out.drew.cellS⟩ (fun hHeld => ?_)
                refine pure_ (i := 0) (N := some 76) (v := ?_) (a' := ?_) #[true, false, false, false, false, false, false, false, false, false] rfl rfl (by kernel_rfl) (fun _ _ _ h => h) (Or.inl ⟨by rfl, ?_⟩) ?_ ?_
                rotate_left
                · intro w'
                  go_simp
                  with_reducible rfl
                rotate_left
                · simp only [Act.put, List.setIfInBounds_toArray, List.set_cons_zero, List.set_cons_succ, i64_w, i32_w]
                  rfl
                refine pure_ (i := 2) (N := some 78) (v := ?_) (a' := ?_) #[true, false, true, false, false, false, false, false, false, false] rfl rfl (by kernel_rfl) (fun _ _ _ h => h) (Or.inl ⟨by rfl, ?_⟩) ?_ ?_
                rotate_left
                · intro w'
                  go_simp
                  with_reducible rfl
                rotate_left
                · simp only [Act.put, List.setIfInBounds_toArray, List.set_cons_zero, List.set_cons_succ, i64_w, i32_w]
                  rfl
                refine pure_ (i := 3) (N := some 79) (v := ?_) (a' := ?_) #[true, false, true, true, false, false, false, false, false, false] rfl rfl (by kernel_rfl) (fun _ _ _ h => h) (Or.inl ⟨by rfl, ?_⟩) ?_ ?_
                rotate_left
                · intro w'
                  go_simp
                  with_reducible rfl
                rotate_left
                · simp only [Act.put, List.setIfInBounds_toArray, List.set_cons_zero, List.set_cons_succ, i64_w, i32_w]
                  rfl
                refine take_ (i := 1) (N := some 77) (v := ?_) (a' := ?_) #[true, true, true, true, false, false, false, false, false, false] rfl rfl (by kernel_rfl) (fun _ _ _ h => h) (Or.inl ⟨by rfl, ?_⟩) hHeld ?_ ?_
                rotate_left
                · rintro w' ⟨s0, s1⟩
                  go_simp
                  with_reducible rfl
                rotate_left
                · simp only [Act.put, List.setIfInBounds_toArray, List.set_cons_zero, List.set_cons_succ, i64_w, i32_w]
                  rfl
                refine take_ (i := 4) (N := some 80) (v := ?_) (a' := ?_) #[true, true, true, true, true, false, false, false, false, false] rfl rfl (by kernel_rfl) (fun _ _ _ h => h) (Or.inl ⟨by rfl, ?_⟩) hHeld ?_ ?_
                rotate_left
                · rintro w' ⟨s0, s1⟩
                  go_simp
                  with_reducible rfl
                rotate_left
                · simp only [Act.put, List.setIfInBounds_toArray, List.set_cons_zero, List.set_cons_succ, i64_w, i32_w]
                  rfl
                refine one_ (i := 5) (N := some 81) #[true, true, true, true, true, true, false, false, false, false] rfl rfl (by kernel_rfl) (by decide) (fun K hK => ?_)
                refine goes_ Try.func25 (by kernel_rfl) rfl #[.int .i64 x, .int .i64 m.H] (by rfl) rfl rfl (by simp only [List.map_toArray, List.map_cons, List.map_nil]; rfl) ?_
                with_reducible refine (ricochetref11_Middle.calls x m.H _ _ _ rfl).mono ?_
                rintro e w4 ⟨rfl, hb4⟩
                refine ⟨_, rfl, ?_⟩
                have HR4 := Aside0.mk (HR2.out.drew.below hb4)
                clear hb4
                refine hK.out _ _ ⟨HR4.out.cellH, HR4.out.cellS⟩ (fun hHeld => ?_)
                clear hK K
                refine norm_ (a' := ?_) ?_ ?_
                rotate_left
                · show Act.put _ (some 81) _ = _
                  simp only [Act.put, List.setIfInBounds_toArray, List.set_cons_zero, List.set_cons_succ, i64_w, i32_w]
                  rfl
                refine one_ (i := 6) (N := some 82) #[true, true, true, true, true, true, true, false, false, false] rfl rfl (by kernel_rfl) (by decide) (fun K hK => ?_)
                refine value_ (w1 := ?_) (v := ?_) (by rfl) rfl ?_ ?_
                rotate_left 2
                · go_simp
                  constructor
                  · rfl
                  · rfl
                refine hK.out _ _ ⟨(HR4.out.alloc _).cellH, (HR4.out.alloc _).cellS⟩ (fun hHeld => ?_)
                clear hK K
                refine norm_ (a' := ?_) ?_ ?_
                rotate_left
                · show Act.put _ (some 82) _ = _
                  simp only [Act.put, List.setIfInBounds_toArray, List.set_cons_zero, List.set_cons_succ, i64_w, i32_w]
                  rfl
                refine one_ (i := 7) (N := some 83) #[true, true, true, true, true, true, true, true, false, false] rfl rfl (by kernel_rfl) (by decide) (fun K hK => ?_)
                refine Kd.R_append_step k39 (w0 := w) w.heap.size (by rfl) (.tmp 77) (.tmp 82) 24 39 (.agg #[.int .i64 0, .int .i64 0]) 16 rfl Try.underlying24 info39 rfl (by decide) (by decide) (.slice A3 m.sp.length cS) m.sp (midF x m.H) [.int .i64 (midF x m.H).f0, .int .i64 (midF x m.H).f1] (fun k => I ≤ k) (fun _ => False) rfl rfl (k39_mkM _ _ _ _) (fun _ h => h.elim) (fun k hk => Nat.le_trans HR4.out.hI hk) HR4.out.hS HR4.out.hB HR4.out.hB.size (by omega) ?_
                intro v1 w5 h1 h2 h3 h4
                have hB5 := (h3.block B (blk_lt HR4.out.h1) (fun e => by have : I ≤ B := HR4.out.hS.1 B e.symm; have := HR4.out.hl; omega)).trans HR4.out.h1
                have HR5 : Aside0 (Rd w S B I 30 { m with ws := m.ws ++ [false], sp := m.sp ++ [midF x m.H] } (.slice A4 (m.ws.length + 1) cA4) v1 (w5.setCell ⟨B, 3, none⟩ v1)) := ⟨HR4.out.addS (.inr rfl) h1 h2 h3⟩
                have d5 : w5.frozen? ⟨B, 3, none⟩ = false := blk_frozen hB5 3
                have e5 : w5.cell? ⟨B, 3, none⟩ = some (.slice A3 m.sp.length cS) := (blk_cell hB5 3).trans rfl
                obtain ⟨A6, cA6, e6⟩ := Kd.R_slice h1
                rw [List.length_append, List.length_singleton] at e6
                subst e6
                clear h1 h2 h3 h4
                refine hK.out _ _ ⟨((blk_cell hB5 1).trans rfl), ((blk_cell hB5 3).trans rfl)⟩ (fun hHeld => ?_)
                clear hK K
                refine norm_ (a' := ?_) ?_ ?_
                rotate_left
                · show Act.put _ (some 83) _ = _
                  simp only [Act.put, List.setIfInBounds_toArray, List.set_cons_zero, List.set_cons_succ, i64_w, i32_w]
                  rfl
                refine pure_ (i := 8) (N := some 84) (v := ?_) (a' := ?_) #[true, true, true, true, true, true, true, true, true, false] rfl rfl (by kernel_rfl) (fun _ _ _ h => h) (Or.inl ⟨by rfl, ?_⟩) ?_ ?_
                rotate_left
                · intro w'
                  go_simp
                  with_reducible rfl
                rotate_left
                · simp only [Act.put, List.setIfInBounds_toArray, List.set_cons_zero, List.set_cons_succ, i64_w, i32_w]
                  rfl
                refine last_ (i := 9) (N := none) #[true, true, true, true, true, true, true, true, true, true] rfl rfl (by kernel_rfl) (by decide) (fun K hK => ?_)
                refine skip_ (w1 := ?_) (by rfl) rfl ?_ ?_
                rotate_left
                · go_simp
                  rfl
                refine hK.out _ _ ?_
                clear hK K
                refine done_ (by kernel_rfl) ?_
                go_wp2_with fail
                go_roundg k
                · exact ⟨pos + 3, x + 1, _, _, _, rfl, by simp, ⟨by have := HK.out; omega⟩, ⟨hl⟩, HF1, HX1, HE1, HR5⟩
                · omega
      · rw [hg]
        clear HSC hg
        have HT4 := HT3.out
        rw [hd] at HT4
        change (match stepF 10 x m with | none => (TM.zero, (pos : Int), (2 : Int)) | some (x', m') => readF s k (pos + 1) x' m') = tread s at HT4
        have hw : IntKind.i64.wrap ((pos : Int) + 1) = (pos : Int) + 1 := by rw [i64_w]; unfold wrap64; omega
        clear hd
        by_cases hx0 : x = 0
        · have HE : Aside0 (tread s = (TM.zero, (pos : Int), 2)) := ⟨by rw [← HT4]; simp [stepF, hx0]⟩
          clear HT3 HT4
          (go_wp2_with fail; refine bodyPost_ret (results_ctt rfl _ _ S 30 #[.int .i64 0, .int .i64 0, .slice none 0 0, .slice none 0 0] (0, 0) _ rfl (put4 HR1.out.h0 _ _ _ _) Try.underlying30 rfl (by kernel_rfl)) rfl ?_; exact ⟨.slice none 0 0, .slice none 0 0, by rw [HE.out]; rfl, (HR1.out.out4 _ _ _ _).1, by rw [HE.out]; exact ⟨Kd.R_nil _ _ _ _ _, Kd.R_nil _ _ _ _ _⟩⟩)
        · by_cases hH : 0 < m.H
          · have hX1 := HX0 hH
            by_cases hxW : x = m.W
            · have hs3 : stepF 10 x m = some (0, { m with W := x, H := m.H + 1 }) := by unfold stepF; rw [if_pos rfl, if_neg (by omega)]
              have HE1 : Aside0 (readF s k (pos + 1) 0 { m with W := x, H := m.H + 1 } = tread s) := ⟨by rw [← HT4, hs3]⟩
              have HF1 : Aside0 (Fit (pos + 1) 0 { m with W := x, H := m.H + 1 }) := ⟨HF.out.step (by decide) hs3⟩
              clear hs3 HT3 HT4
              go_wp2_with fail
              go_roundg k
              · exact ⟨pos + 1, 0, { m with W := x, H := m.H + 1 }, vA, vS, rfl, by simp, ⟨by have := HK.out; omega⟩, ⟨hl⟩, HF1, ⟨fun _ => fx0⟩, HE1, ⟨by first | exact (HR1.out.putW (.inr rfl) x).putH (.inr rfl) (m.H + 1) | (have h := (HR1.out.putW (.inr rfl) x).putH (.inr rfl) (m.H + 1); rw [hxW] at h ⊢; exact h)⟩⟩
              · omega
            · have HE : Aside0 (tread s = (TM.zero, (pos : Int), 2)) := ⟨by rw [← HT4]; simp [stepF, hx0]; rw [if_pos (by omega)]⟩
              have q1 : (x != m.W) = true := by simpa using hxW
              clear HT3 HT4
              (go_wp2_with fail; refine bodyPost_ret (results_ctt rfl _ _ S 30 #[.int .i64 0, .int .i64 0, .slice none 0 0, .slice none 0 0] (0, 0) _ rfl (put4 HR1.out.h0 _ _ _ _) Try.underlying30 rfl (by kernel_rfl)) rfl ?_; exact ⟨.slice none 0 0, .slice none 0 0, by rw [HE.out]; rfl, (HR1.out.out4 _ _ _ _).1, by rw [HE.out]; exact ⟨Kd.R_nil _ _ _ _ _, Kd.R_nil _ _ _ _ _⟩⟩)
          · have hs3 : stepF 10 x m = some (0, { m with W := x, H := m.H + 1 }) := by unfold stepF; rw [if_pos rfl, if_neg (by omega)]
            have HE1 : Aside0 (readF s k (pos + 1) 0 { m with W := x, H := m.H + 1 } = tread s) := ⟨by rw [← HT4, hs3]⟩
            have HF1 : Aside0 (Fit (pos + 1) 0 { m with W := x, H := m.H + 1 }) := ⟨HF.out.step (by decide) hs3⟩
            clear hs3 HT3 HT4
            go_wp2_with fail
            go_roundg k
            · exact ⟨pos + 1, 0, { m with W := x, H := m.H + 1 }, vA, vS, rfl, by simp, ⟨by have := HK.out; omega⟩, ⟨hl⟩, HF1, ⟨fun _ => fx0⟩, HE1, ⟨by first | exact (HR1.out.putW (.inr rfl) x).putH (.inr rfl) (m.H + 1) | (have h := (HR1.out.putW (.inr rfl) x).putH (.inr rfl) (m.H + 1); rw [hxW] at h ⊢; exact h)⟩⟩
            · omega
      · rw [hg]
        clear HSC hg
        have HE : Aside0 (tread s = (TM.zero, (pos : Int), 2)) := ⟨by rw [← HT3.out, show stepF ((Utf8.decode s pos).1 : Int) x m = none by unfold stepF; rw [if_neg (by omega), if_pos (.inl ⟨by omega, by omega, by omega⟩)]]⟩
        clear hd1 hd2 hd3 hd4 HT3
        (go_wp2_with fail; refine bodyPost_ret (results_ctt rfl _ _ S 30 #[.int .i64 0, .int .i64 0, .slice none 0 0, .slice none 0 0] (0, 0) _ rfl (put4 HR1.out.h0 _ _ _ _) Try.underlying30 rfl (by kernel_rfl)) rfl ?_; exact ⟨.slice none 0 0, .slice none 0 0, by rw [HE.out]; rfl, (HR1.out.out4 _ _ _ _).1, by rw [HE.out]; exact ⟨Kd.R_nil _ _ _ _ _, Kd.R_nil _ _ _ _ _⟩⟩)
    · have HE : Aside0 (tread s = endF s x m) := ⟨by have := HT.out; rw [← this]; cases gk <;> simp [readF, show ¬ pos < s.size by omega]⟩
      clear HT
      obtain ⟨A, cS, rfl, hlS, hCS⟩ := Kd.R_reads HR.out.hS
      obtain ⟨A2, cA, rfl, hlA, hCA⟩ := Kd.R_reads HR.out.hA
      have c0 := HR.out.cellW
      have c1 := HR.out.cellH
      have c2 := HR.out.cellA
      have c3 := HR.out.cellS
      clear hlS hCS hlA hCA
      have n0 : wr.cell? ⟨S, 0, none⟩ = some (.int .i64 0) := (blk_cell HR.out.h0 0).trans rfl
      have n1 : wr.cell? ⟨S, 1, none⟩ = some (.int .i64 0) := (blk_cell HR.out.h0 1).trans rfl
      have n2 : wr.cell? ⟨S, 2, none⟩ = some (.slice none 0 0) := (blk_cell HR.out.h0 2).trans rfl
      have n3 : wr.cell? ⟨S, 3, none⟩ = some (.slice none 0 0) := (blk_cell HR.out.h0 3).trans rfl
      have g0 : wr.frozen? ⟨S, 0, none⟩ = false := blk_frozen HR.out.h0 0
      have g1 : wr.frozen? ⟨S, 1, none⟩ = false := blk_frozen HR.out.h0 1
      have g2 : wr.frozen? ⟨S, 2, none⟩ = false := blk_frozen HR.out.h0 2
      have g3 : wr.frozen? ⟨S, 3, none⟩ = false := blk_frozen HR.out.h0 3
      by_cases h1 : 0 < x
      · go_wp2_with fail
        refine bodyPost_ret (results_ctt rfl _ _ S 30 #[.int .i64 0, .int .i64 0, .slice none 0 0, .slice none 0 0] (0, 0) _ rfl (put4 HR.out.h0 _ _ _ _) Try.underlying30 rfl (by kernel_rfl)) rfl ?_
        refine ⟨.slice none 0 0, .slice none 0 0, ?_, (HR.out.out4 _ _ _ _).1, ?_⟩
        · rw [HE.out]; unfold endF; rw [if_pos (.inl h1)]; rfl
        · rw [HE.out]; unfold endF; rw [if_pos (.inl h1)]; exact ⟨Kd.R_nil _ _ _ _ _, Kd.R_nil _ _ _ _ _⟩
      · by_cases h2 : (m.sp.length : Int) = 0
        · go_wp2_with fail
          refine bodyPost_ret (results_ctt rfl _ _ S 30 #[.int .i64 0, .int .i64 0, .slice none 0 0, .slice none 0 0] (0, 0) _ rfl (put4 HR.out.h0 _ _ _ _) Try.underlying30 rfl (by kernel_rfl)) rfl ?_
          refine ⟨.slice none 0 0, .slice none 0 0, ?_, (HR.out.out4 _ _ _ _).1, ?_⟩
          · rw [HE.out]; unfold endF; rw [if_pos (.inr h2)]; rfl
          · rw [HE.out]; unfold endF; rw [if_pos (.inr h2)]; exact ⟨Kd.R_nil _ _ _ _ _, Kd.R_nil _ _ _ _ _⟩
        · go_wp2_with fail
          refine bodyPost_ret (results_ctt rfl _ _ S 30 #[.int .i64 m.W, .int .i64 m.H, .slice A2 m.ws.length cA, .slice A m.sp.length cS] (0, 0) _ rfl (put4 HR.out.h0 _ _ _ _) Try.underlying30 rfl (by kernel_rfl)) rfl ?_
          refine ⟨.slice A2 m.ws.length cA, .slice A m.sp.length cS, ?_, (HR.out.out4 _ _ _ _).1, ?_⟩
          · rw [HE.out]; unfold endF; rw [if_neg (by omega)]; rfl
          · rw [HE.out]; unfold endF; rw [if_neg (by omega)]; exact (HR.out.out4 _ _ _ _).2
end Go.Proofs.Ytgppnfnbihngnaa.Tiles
