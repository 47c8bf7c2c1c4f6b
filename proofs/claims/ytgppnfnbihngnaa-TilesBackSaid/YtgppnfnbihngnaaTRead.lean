import Derived.Test.YtgppnfnbihngnaaTPlain
import Derived.Test.YtgppnfnbihngnaaPTilesFreex2
import Derived.Deep.LoopGhost
set_option linter.unusedVariables false
set_option linter.unusedSimpArgs false
namespace Go.Proofs.Ytgppnfnbihngnaa.Tiles
open Go.RowKit Go.Proofs.YtgppnfnbihngnaaW.PrintWords Go.Proofs.YtgppnfnbihngnaaW.PrintLast Go.Proofs.YtgppnfnbihngnaaW.PrintMore Go.Proofs.Ytgppnfnbihngnaa.PTilesFree

theorem Rd.start (w : World) (ty : Nat) (o : Obj) : Rd w w.heap.size (w.heap.size + 1) (w.heap.size + 2) ty TM.zero (.slice none 0 0) (.slice none 0 0) (((w.alloc (.cells #[.int .i64 0, .int .i64 0, .slice none 0 0, .slice none 0 0] ty (0, 0))).alloc (.cells #[.int .i64 0, .int .i64 0, .slice none 0 0, .slice none 0 0] ty (0, 0))).alloc o) := by
  have h1 := blk_new (w.alloc (.cells #[.int .i64 0, .int .i64 0, .slice none 0 0, .slice none 0 0] ty (0, 0))) (.cells #[.int .i64 0, .int .i64 0, .slice none 0 0, .slice none 0 0] ty (0, 0))
  rw [show (w.alloc (.cells #[.int .i64 0, .int .i64 0, .slice none 0 0, .slice none 0 0] ty (0, 0))).heap.size = w.heap.size + 1 by simp] at h1
  exact ⟨⟨by omega, by omega, by omega⟩, by simp, below_alloc (below_alloc (below_alloc (Below.refl w.heap.size w) _) _) _, blk_alloc (blk_alloc (blk_new w _) _) _, blk_alloc h1 _, Kd.R_nil _ _ _ _ _, Kd.R_nil _ _ _ _ _⟩
set_option maxHeartbeats 8000000 in
set_option maxRecDepth 100000 in
theorem read_any (s : ByteArray) (hs : s.size ≤ 1000000) (w : World) :
    Calls Try.prog 11 #[.string s] w fun e w' => ∃ vA vS, e = .returned (.tuple #[.agg #[.int .i64 (tread s).1.W, .int .i64 (tread s).1.H, vA, vS], .int .i64 (tread s).2.1, .int .i64 (tread s).2.2]) ∧ Below w.heap.size w w' ∧ Kd.R Kd.bool 4 w' w.heap.size (fun k => w.heap.size ≤ k) vA (tread s).1.ws ∧ Kd.R k39 39 w' w.heap.size (fun k => w.heap.size ≤ k) vS (tread s).1.sp := by
  have e2 : ((w.alloc (.cells #[.int .i64 0, .int .i64 0, .slice none 0 0, .slice none 0 0] 26 (0, 0))).alloc (.cells #[.int .i64 0, .int .i64 0, .slice none 0 0, .slice none 0 0] 26 (0, 0))).heap.size = w.heap.size + 2 := by simp
  have H0 : Aside0 (Rd w w.heap.size (w.heap.size + 1) ((w.alloc (.cells #[.int .i64 0, .int .i64 0, .slice none 0 0, .slice none 0 0] 26 (0, 0))).alloc (.cells #[.int .i64 0, .int .i64 0, .slice none 0 0, .slice none 0 0] 26 (0, 0))).heap.size 26 TM.zero (.slice none 0 0) (.slice none 0 0) (((w.alloc (.cells #[.int .i64 0, .int .i64 0, .slice none 0 0, .slice none 0 0] 26 (0, 0))).alloc (.cells #[.int .i64 0, .int .i64 0, .slice none 0 0, .slice none 0 0] 26 (0, 0))).iter s 0)) := ⟨by rw [e2]; exact Rd.start w 26 (.stringIter s 0)⟩
  have HS := Aside0.mk hs
  have HI := Aside0.mk (World.iter_heap ((w.alloc (.cells #[.int .i64 0, .int .i64 0, .slice none 0 0, .slice none 0 0] 26 (0, 0))).alloc (.cells #[.int .i64 0, .int .i64 0, .slice none 0 0, .slice none 0 0] 26 (0, 0))) s 0)
  clear hs e2
  go_enter Try.func11, Try.ntmps11
  go_upto_region 3 with fail
  generalize (w.alloc (.cells #[.int .i64 0, .int .i64 0, .slice none 0 0, .slice none 0 0] 26 (0, 0))).alloc (.cells #[.int .i64 0, .int .i64 0, .slice none 0 0, .slice none 0 0] 26 (0, 0)) = W1 at *
  obtain ⟨B, hBB⟩ : ∃ X, w.heap.size + 1 = X := ⟨_, rfl⟩
  rw [hBB] at H0
  rw [hBB]
  obtain ⟨S, hSS⟩ : ∃ X, w.heap.size = X := ⟨_, rfl⟩
  have HSS := Aside0.mk hSS
  have H1 : Aside0 (Rd w S B W1.heap.size 26 TM.zero (.slice none 0 0) (.slice none 0 0) (W1.iter s 0)) := ⟨by rw [← hSS]; exact H0.out⟩
  rw [hSS]
  clear hBB hSS H0
  go_wp2_with fail
  generalize W1.iter s 0 = W2 at *
  generalize W1.heap.size = I at *
  go_loopg [6] s.size (fun kq v6 w' => ∃ (pos : Nat) (x : Int) (m : TM) (vA vS : Value), v6 = .int .i64 x ∧ Aside0 (s.size ≤ pos + kq) ∧ Aside0 (Fit pos x m) ∧ Aside0 (readF s kq pos x m = tread s) ∧ Aside0 (w'.heap[I]? = some (.stringIter s pos)) ∧ Aside0 (Rd w S B I 26 m vA vS w'))
  case atStart => exact ⟨0, 0, TM.zero, _, _, rfl, ⟨by omega⟩, ⟨Fit.zero⟩, ⟨rfl⟩, HI, H1⟩
  case round =>
    obtain ⟨pos, x, m, vA, vS, rfl, HK, HF, HT, HIT, HR⟩ := hrel
    clear H1 HI
    by_cases hp : pos < s.size
    · have hwd := width_pos s pos hp
      obtain ⟨k, rfl⟩ : ∃ k, gk = k + 1 := ⟨gk - 1, by have := HK.out; omega⟩
      have HT2 := HT.out
      unfold readF at HT2
      rw [if_pos hp] at HT2
      have HP := Aside0.mk hp
      have HR1 := Aside0.mk (HR.out.iter (q := pos + (Utf8.decode s pos).2) HIT.out)
      have HI1 := Aside0.mk (Lib.iterAt_heap wr I s pos (pos + (Utf8.decode s pos).2) HIT.out)
      have hcl : ((Utf8.decode s pos).1 : Int) ≤ 2147483647 := by have := decode_le s pos; omega
      have hnx : ∀ ty, (Instr.next (.pointer (some ⟨I, 0, none⟩)) true ty).run Try.prog wr = _ := fun ty => Lib.run_next_any_at wr I s pos ty HIT.out hp
      have HW : Aside0 (1 ≤ (Utf8.decode s pos).2) := ⟨hwd⟩
      have HFs : Aside0 (∀ x' m', stepF (Utf8.decode s pos).1 x m = some (x', m') → Fit (pos + (Utf8.decode s pos).2) x' m') := ⟨fun x' m' h => HF.out.step hwd h⟩
      have HK2 : Aside0 (s.size ≤ (pos + (Utf8.decode s pos).2) + k) := ⟨by have := HK.out; omega⟩
      clear hwd
      go_upto_region 6 with fail
      clear hnx hp HT
      generalize wr.iterAt I s (pos + (Utf8.decode s pos).2) = w1 at *
      generalize pos + (Utf8.decode s pos).2 = pos' at *
      generalize ((Utf8.decode s pos).1 : Int) = c at *
      have HT3 := Aside0.mk HT2
      clear HT2
      have n0 : w1.cell? ⟨S, 0, none⟩ = some (.int .i64 0) := (blk_cell HR1.out.h0 0).trans rfl
      have n1 : w1.cell? ⟨S, 1, none⟩ = some (.int .i64 0) := (blk_cell HR1.out.h0 1).trans rfl
      have n2 : w1.cell? ⟨S, 2, none⟩ = some (.slice none 0 0) := (blk_cell HR1.out.h0 2).trans rfl
      have n3 : w1.cell? ⟨S, 3, none⟩ = some (.slice none 0 0) := (blk_cell HR1.out.h0 3).trans rfl
      have g0 : w1.frozen? ⟨S, 0, none⟩ = false := blk_frozen HR1.out.h0 0
      have g1 : w1.frozen? ⟨S, 1, none⟩ = false := blk_frozen HR1.out.h0 1
      have g2 : w1.frozen? ⟨S, 2, none⟩ = false := blk_frozen HR1.out.h0 2
      have g3 : w1.frozen? ⟨S, 3, none⟩ = false := blk_frozen HR1.out.h0 3
      have c0 := HR1.out.cellW
      have c1 := HR1.out.cellH
      have f0 := HR1.out.froz 0
      have f1 := HR1.out.froz 1
      have hpb : pos ≤ 1000000 := by have := HP.out; have := HS.out; omega
      obtain ⟨fx0, fx1, fx2, fx3, fx4, fx5, fx6, fx7, fx8⟩ := HF.out
      by_cases hc : c = 10
      · subst hc
        by_cases hx0 : x = 0
        · have HE : Aside0 (tread s = (TM.zero, (pos : Int), 2)) := ⟨by rw [← HT3.out]; simp [stepF, hx0]⟩
          (go_wp2_with fail; refine bodyPost_ret (results_ctt rfl _ _ S 26 #[.int .i64 0, .int .i64 0, .slice none 0 0, .slice none 0 0] (0, 0) _ rfl (put4 HR1.out.h0 _ _ _ _) Try.underlying26 rfl (by kernel_rfl)) rfl ?_; exact ⟨.slice none 0 0, .slice none 0 0, by rw [HE.out]; rfl, (HR1.out.out4 _ _ _ _).1, by rw [HE.out]; exact ⟨Kd.R_nil _ _ _ _ _, Kd.R_nil _ _ _ _ _⟩⟩)
        · by_cases hx1 : x < m.W
          · by_cases hx2 : 0 < m.H
            · have HE : Aside0 (tread s = (TM.zero, (pos : Int), 2)) := ⟨by rw [← HT3.out]; simp [stepF, hx0, hx1, hx2]⟩
              (go_wp2_with fail; refine bodyPost_ret (results_ctt rfl _ _ S 26 #[.int .i64 0, .int .i64 0, .slice none 0 0, .slice none 0 0] (0, 0) _ rfl (put4 HR1.out.h0 _ _ _ _) Try.underlying26 rfl (by kernel_rfl)) rfl ?_; exact ⟨.slice none 0 0, .slice none 0 0, by rw [HE.out]; rfl, (HR1.out.out4 _ _ _ _).1, by rw [HE.out]; exact ⟨Kd.R_nil _ _ _ _ _, Kd.R_nil _ _ _ _ _⟩⟩)
            · have HE : Aside0 (readF s k pos' 0 { m with W := x, H := m.H + 1 } = tread s) := ⟨by rw [← HT3.out]; simp [stepF, hx0, hx1, hx2]⟩
              go_wp2_with fail
              go_roundg k
              · exact ⟨pos', 0, { m with W := x, H := m.H + 1 }, vA, vS, rfl, HK2, ⟨HFs.out _ _ (by simp [stepF, hx0, hx1, show ¬ 0 < m.H by omega])⟩, HE, ⟨by rw [Below.heap_setCell _ _ _ _ (by have := HR1.out.hl; show I ≠ B; omega), Below.heap_setCell _ _ _ _ (by have := HR1.out.hl; show I ≠ B; omega)]; exact HI1.out⟩, ⟨(HR1.out.putW (.inl rfl) x).putH (.inl rfl) (m.H + 1)⟩⟩
              · omega
          · have HE : Aside0 (readF s k pos' 0 { m with W := x, H := m.H + 1 } = tread s) := ⟨by rw [← HT3.out]; simp [stepF, hx0, hx1]⟩
            go_wp2_with fail
            go_roundg k
            · exact ⟨pos', 0, { m with W := x, H := m.H + 1 }, vA, vS, rfl, HK2, ⟨HFs.out _ _ (by simp [stepF, hx0, show ¬ x < m.W by omega])⟩, HE, ⟨by rw [Below.heap_setCell _ _ _ _ (by have := HR1.out.hl; show I ≠ B; omega), Below.heap_setCell _ _ _ _ (by have := HR1.out.hl; show I ≠ B; omega)]; exact HI1.out⟩, ⟨(HR1.out.putW (.inl rfl) x).putH (.inl rfl) (m.H + 1)⟩⟩
            · omega
      · have c2 := HR1.out.cellA
        have c3 := HR1.out.cellS
        have f2 := HR1.out.froz 2
        have f3 := HR1.out.froz 3
        obtain ⟨A2, cA, rfl, hlA, _⟩ := Kd.R_reads HR1.out.hA
        obtain ⟨A3, cS, rfl, hlS, _⟩ := Kd.R_reads HR1.out.hS
        by_cases hs : ¬ c = 9608 ∧ ¬ c = 183 ∧ ¬ c = 9678
        · have HE : Aside0 (tread s = (TM.zero, (pos : Int), 2)) := ⟨by rw [← HT3.out]; simp [stepF, hc, hs]⟩
          obtain ⟨hs1, hs2, hs3⟩ := hs
          have q1 : (c != 9608) = true := by simpa using hs1
          have q2 : (c != 183) = true := by simpa using hs2
          have q3 : (c != 9678) = true := by simpa using hs3
          (go_wp2_with fail; refine bodyPost_ret (results_ctt rfl _ _ S 26 #[.int .i64 0, .int .i64 0, .slice none 0 0, .slice none 0 0] (0, 0) _ rfl (put4 HR1.out.h0 _ _ _ _) Try.underlying26 rfl (by kernel_rfl)) rfl ?_; exact ⟨.slice none 0 0, .slice none 0 0, by rw [HE.out]; rfl, (HR1.out.out4 _ _ _ _).1, by rw [HE.out]; exact ⟨Kd.R_nil _ _ _ _ _, Kd.R_nil _ _ _ _ _⟩⟩)
        · have hs' : c = 9608 ∨ c = 183 ∨ c = 9678 := by omega
          clear hs
          by_cases h32 : m.H = 32
          · have HE : Aside0 (tread s = (TM.zero, (pos : Int), 2)) := ⟨by rw [← HT3.out]; simp [stepF, hc, h32]⟩
            rcases hs' with rfl | rfl | rfl
            all_goals (go_wp2_with fail; refine bodyPost_ret (results_ctt rfl _ _ S 26 #[.int .i64 0, .int .i64 0, .slice none 0 0, .slice none 0 0] (0, 0) _ rfl (put4 HR1.out.h0 _ _ _ _) Try.underlying26 rfl (by kernel_rfl)) rfl ?_; exact ⟨.slice none 0 0, .slice none 0 0, by rw [HE.out]; rfl, (HR1.out.out4 _ _ _ _).1, by rw [HE.out]; exact ⟨Kd.R_nil _ _ _ _ _, Kd.R_nil _ _ _ _ _⟩⟩)
          · by_cases hx32 : x = 32
            · have HE : Aside0 (tread s = (TM.zero, (pos : Int), 2)) := ⟨by rw [← HT3.out]; simp [stepF, hc, hx32]⟩
              rcases hs' with rfl | rfl | rfl
              all_goals (go_wp2_with fail; refine bodyPost_ret (results_ctt rfl _ _ S 26 #[.int .i64 0, .int .i64 0, .slice none 0 0, .slice none 0 0] (0, 0) _ rfl (put4 HR1.out.h0 _ _ _ _) Try.underlying26 rfl (by kernel_rfl)) rfl ?_; exact ⟨.slice none 0 0, .slice none 0 0, by rw [HE.out]; rfl, (HR1.out.out4 _ _ _ _).1, by rw [HE.out]; exact ⟨Kd.R_nil _ _ _ _ _, Kd.R_nil _ _ _ _ _⟩⟩)
            · by_cases hbad : 0 < m.H ∧ x = m.W
              · have HE : Aside0 (tread s = (TM.zero, (pos : Int), 2)) := ⟨by rw [← HT3.out]; simp [stepF, hc, hbad]⟩
                obtain ⟨hb1, hb2⟩ := hbad
                rcases hs' with rfl | rfl | rfl
                all_goals (go_wp2_with fail; refine bodyPost_ret (results_ctt rfl _ _ S 26 #[.int .i64 0, .int .i64 0, .slice none 0 0, .slice none 0 0] (0, 0) _ rfl (put4 HR1.out.h0 _ _ _ _) Try.underlying26 rfl (by kernel_rfl)) rfl ?_; exact ⟨.slice none 0 0, .slice none 0 0, by rw [HE.out]; rfl, (HR1.out.out4 _ _ _ _).1, by rw [HE.out]; exact ⟨Kd.R_nil _ _ _ _ _, Kd.R_nil _ _ _ _ _⟩⟩)
              · have hs3 : stepF c x m = some (x + 1, { m with ws := m.ws ++ [c == 9608], sp := if c = 9678 then m.sp ++ [midF x m.H] else m.sp }) := by
                  unfold stepF; rw [if_neg hc, if_neg (by omega)]
                have HE : Aside0 (readF s k pos' (x + 1) { m with ws := m.ws ++ [c == 9608], sp := if c = 9678 then m.sp ++ [midF x m.H] else m.sp } = tread s) := ⟨by rw [← HT3.out, hs3]⟩
                have HFN := Aside0.mk (HFs.out _ _ hs3)
                clear hs3 HT3 HFs
                rcases hs' with rfl | rfl | rfl
                · have HE1 : Aside0 (readF s k pos' (x + 1) { m with ws := m.ws ++ [true] } = tread s) := ⟨HE.out⟩
                  have HF1 : Aside0 (Fit pos' (x + 1) { m with ws := m.ws ++ [true] }) := ⟨HFN.out⟩
                  clear HE HFN
                  have hH' : 0 < m.H ∨ ¬ 0 < m.H := by omega
                  have hxW : 0 < m.H → ¬ x = m.W := fun h e => hbad ⟨h, e⟩
                  clear hbad
                  rcases hH' with hH | hH
                  · replace hxW := hxW hH
                    go_wp2_with (at_builtin; refine Kd.R_append Kd.bool (w0 := w) w.heap.size rfl _ _ 23 4 (.bool false) 1 rfl Try.underlying23 info4 rfl (by decide) (by decide) (.slice A2 m.ws.length cA) m.ws true [.bool true] (fun k => I ≤ k) (fun _ => False) rfl rfl rfl (fun _ h => h.elim) (fun k hk => Nat.le_trans HR1.out.hI hk) HR1.out.hA HR1.out.hB HR1.out.hB.size (by omega) ?_; intro v1 w2 h1 h2 h3 h4; have HR2 : Aside0 (Rd w S B I 26 { m with ws := m.ws ++ [true] } v1 (.slice A3 m.sp.length cS) (w2.setCell ⟨B, 2, none⟩ v1)) := ⟨HR1.out.addA (.inl rfl) h1 h2 h3⟩; have HI2 : Aside0 ((w2.setCell ⟨B, 2, none⟩ v1).heap[I]? = some (.stringIter s pos')) := ⟨by rw [Below.heap_setCell _ _ _ _ (by have := HR1.out.hl; show I ≠ B; omega)]; exact (h3.block I (blk_lt HI1.out) (fun e => Rd.ne_iter HR1.out.hA HI1.out e.symm)).trans HI1.out⟩; have e2 : w2.cell? ⟨B, 2, none⟩ = some (.slice A2 m.ws.length cA) := (blk_cell ((h3.block B (blk_lt HR1.out.h1) (fun e => by have : I ≤ B := HR1.out.hA.1 B e.symm; have := HR1.out.hl; omega)).trans HR1.out.h1) 2).trans rfl; have d2 : w2.frozen? ⟨B, 2, none⟩ = false := blk_frozen ((h3.block B (blk_lt HR1.out.h1) (fun e => by have : I ≤ B := HR1.out.hA.1 B e.symm; have := HR1.out.hl; omega)).trans HR1.out.h1) 2; obtain ⟨A4, cA4, e4⟩ := Kd.R_slice h1; rw [List.length_append, List.length_singleton] at e4; subst e4; clear h1 h2 h3 h4)
                    go_roundg k
                    · exact ⟨pos', x + 1, _, _, _, rfl, HK2, HF1, HE1, HI2, HR2⟩
                    · omega
                  · clear hxW
                    go_wp2_with (at_builtin; refine Kd.R_append Kd.bool (w0 := w) w.heap.size rfl _ _ 23 4 (.bool false) 1 rfl Try.underlying23 info4 rfl (by decide) (by decide) (.slice A2 m.ws.length cA) m.ws true [.bool true] (fun k => I ≤ k) (fun _ => False) rfl rfl rfl (fun _ h => h.elim) (fun k hk => Nat.le_trans HR1.out.hI hk) HR1.out.hA HR1.out.hB HR1.out.hB.size (by omega) ?_; intro v1 w2 h1 h2 h3 h4; have HR2 : Aside0 (Rd w S B I 26 { m with ws := m.ws ++ [true] } v1 (.slice A3 m.sp.length cS) (w2.setCell ⟨B, 2, none⟩ v1)) := ⟨HR1.out.addA (.inl rfl) h1 h2 h3⟩; have HI2 : Aside0 ((w2.setCell ⟨B, 2, none⟩ v1).heap[I]? = some (.stringIter s pos')) := ⟨by rw [Below.heap_setCell _ _ _ _ (by have := HR1.out.hl; show I ≠ B; omega)]; exact (h3.block I (blk_lt HI1.out) (fun e => Rd.ne_iter HR1.out.hA HI1.out e.symm)).trans HI1.out⟩; have e2 : w2.cell? ⟨B, 2, none⟩ = some (.slice A2 m.ws.length cA) := (blk_cell ((h3.block B (blk_lt HR1.out.h1) (fun e => by have : I ≤ B := HR1.out.hA.1 B e.symm; have := HR1.out.hl; omega)).trans HR1.out.h1) 2).trans rfl; have d2 : w2.frozen? ⟨B, 2, none⟩ = false := blk_frozen ((h3.block B (blk_lt HR1.out.h1) (fun e => by have : I ≤ B := HR1.out.hA.1 B e.symm; have := HR1.out.hl; omega)).trans HR1.out.h1) 2; obtain ⟨A4, cA4, e4⟩ := Kd.R_slice h1; rw [List.length_append, List.length_singleton] at e4; subst e4; clear h1 h2 h3 h4)
                    go_roundg k
                    · exact ⟨pos', x + 1, _, _, _, rfl, HK2, HF1, HE1, HI2, HR2⟩
                    · omega
                · have HE1 : Aside0 (readF s k pos' (x + 1) { m with ws := m.ws ++ [false] } = tread s) := ⟨HE.out⟩
                  have HF1 : Aside0 (Fit pos' (x + 1) { m with ws := m.ws ++ [false] }) := ⟨HFN.out⟩
                  clear HE HFN
                  have hH' : 0 < m.H ∨ ¬ 0 < m.H := by omega
                  have hxW : 0 < m.H → ¬ x = m.W := fun h e => hbad ⟨h, e⟩
                  clear hbad
                  rcases hH' with hH | hH
                  · replace hxW := hxW hH
                    go_wp2_with (at_builtin; refine Kd.R_append Kd.bool (w0 := w) w.heap.size rfl _ _ 23 4 (.bool false) 1 rfl Try.underlying23 info4 rfl (by decide) (by decide) (.slice A2 m.ws.length cA) m.ws false [.bool false] (fun k => I ≤ k) (fun _ => False) rfl rfl rfl (fun _ h => h.elim) (fun k hk => Nat.le_trans HR1.out.hI hk) HR1.out.hA HR1.out.hB HR1.out.hB.size (by omega) ?_; intro v1 w2 h1 h2 h3 h4; have HR2 : Aside0 (Rd w S B I 26 { m with ws := m.ws ++ [false] } v1 (.slice A3 m.sp.length cS) (w2.setCell ⟨B, 2, none⟩ v1)) := ⟨HR1.out.addA (.inl rfl) h1 h2 h3⟩; have HI2 : Aside0 ((w2.setCell ⟨B, 2, none⟩ v1).heap[I]? = some (.stringIter s pos')) := ⟨by rw [Below.heap_setCell _ _ _ _ (by have := HR1.out.hl; show I ≠ B; omega)]; exact (h3.block I (blk_lt HI1.out) (fun e => Rd.ne_iter HR1.out.hA HI1.out e.symm)).trans HI1.out⟩; have e2 : w2.cell? ⟨B, 2, none⟩ = some (.slice A2 m.ws.length cA) := (blk_cell ((h3.block B (blk_lt HR1.out.h1) (fun e => by have : I ≤ B := HR1.out.hA.1 B e.symm; have := HR1.out.hl; omega)).trans HR1.out.h1) 2).trans rfl; have d2 : w2.frozen? ⟨B, 2, none⟩ = false := blk_frozen ((h3.block B (blk_lt HR1.out.h1) (fun e => by have : I ≤ B := HR1.out.hA.1 B e.symm; have := HR1.out.hl; omega)).trans HR1.out.h1) 2; obtain ⟨A4, cA4, e4⟩ := Kd.R_slice h1; rw [List.length_append, List.length_singleton] at e4; subst e4; clear h1 h2 h3 h4)
                    go_roundg k
                    · exact ⟨pos', x + 1, _, _, _, rfl, HK2, HF1, HE1, HI2, HR2⟩
                    · omega
                  · clear hxW
                    go_wp2_with (at_builtin; refine Kd.R_append Kd.bool (w0 := w) w.heap.size rfl _ _ 23 4 (.bool false) 1 rfl Try.underlying23 info4 rfl (by decide) (by decide) (.slice A2 m.ws.length cA) m.ws false [.bool false] (fun k => I ≤ k) (fun _ => False) rfl rfl rfl (fun _ h => h.elim) (fun k hk => Nat.le_trans HR1.out.hI hk) HR1.out.hA HR1.out.hB HR1.out.hB.size (by omega) ?_; intro v1 w2 h1 h2 h3 h4; have HR2 : Aside0 (Rd w S B I 26 { m with ws := m.ws ++ [false] } v1 (.slice A3 m.sp.length cS) (w2.setCell ⟨B, 2, none⟩ v1)) := ⟨HR1.out.addA (.inl rfl) h1 h2 h3⟩; have HI2 : Aside0 ((w2.setCell ⟨B, 2, none⟩ v1).heap[I]? = some (.stringIter s pos')) := ⟨by rw [Below.heap_setCell _ _ _ _ (by have := HR1.out.hl; show I ≠ B; omega)]; exact (h3.block I (blk_lt HI1.out) (fun e => Rd.ne_iter HR1.out.hA HI1.out e.symm)).trans HI1.out⟩; have e2 : w2.cell? ⟨B, 2, none⟩ = some (.slice A2 m.ws.length cA) := (blk_cell ((h3.block B (blk_lt HR1.out.h1) (fun e => by have : I ≤ B := HR1.out.hA.1 B e.symm; have := HR1.out.hl; omega)).trans HR1.out.h1) 2).trans rfl; have d2 : w2.frozen? ⟨B, 2, none⟩ = false := blk_frozen ((h3.block B (blk_lt HR1.out.h1) (fun e => by have : I ≤ B := HR1.out.hA.1 B e.symm; have := HR1.out.hl; omega)).trans HR1.out.h1) 2; obtain ⟨A4, cA4, e4⟩ := Kd.R_slice h1; rw [List.length_append, List.length_singleton] at e4; subst e4; clear h1 h2 h3 h4)
                    go_roundg k
                    · exact ⟨pos', x + 1, _, _, _, rfl, HK2, HF1, HE1, HI2, HR2⟩
                    · omega
                · have HE1 : Aside0 (readF s k pos' (x + 1) { m with ws := m.ws ++ [false], sp := m.sp ++ [midF x m.H] } = tread s) := ⟨HE.out⟩
                  have HF1 : Aside0 (Fit pos' (x + 1) { m with ws := m.ws ++ [false], sp := m.sp ++ [midF x m.H] }) := ⟨HFN.out⟩
                  clear HE HFN
                  have hH' : 0 < m.H ∨ ¬ 0 < m.H := by omega
                  have hxW : 0 < m.H → ¬ x = m.W := fun h e => hbad ⟨h, e⟩
                  clear hbad
                  rcases hH' with hH | hH
                  · replace hxW := hxW hH
                    go_upto_region 18 with (at_builtin; refine Kd.R_append Kd.bool (w0 := w) w.heap.size rfl _ _ 23 4 (.bool false) 1 rfl Try.underlying23 info4 rfl (by decide) (by decide) (.slice A2 m.ws.length cA) m.ws false [.bool false] (fun k => I ≤ k) (fun _ => False) rfl rfl rfl (fun _ h => h.elim) (fun k hk => Nat.le_trans HR1.out.hI hk) HR1.out.hA HR1.out.hB HR1.out.hB.size (by omega) ?_; intro v1 w2 h1 h2 h3 h4; have HR2 : Aside0 (Rd w S B I 26 { m with ws := m.ws ++ [false] } v1 (.slice A3 m.sp.length cS) (w2.setCell ⟨B, 2, none⟩ v1)) := ⟨HR1.out.addA (.inl rfl) h1 h2 h3⟩; have HI2 : Aside0 ((w2.setCell ⟨B, 2, none⟩ v1).heap[I]? = some (.stringIter s pos')) := ⟨by rw [Below.heap_setCell _ _ _ _ (by have := HR1.out.hl; show I ≠ B; omega)]; exact (h3.block I (blk_lt HI1.out) (fun e => Rd.ne_iter HR1.out.hA HI1.out e.symm)).trans HI1.out⟩; have e2 : w2.cell? ⟨B, 2, none⟩ = some (.slice A2 m.ws.length cA) := (blk_cell ((h3.block B (blk_lt HR1.out.h1) (fun e => by have : I ≤ B := HR1.out.hA.1 B e.symm; have := HR1.out.hl; omega)).trans HR1.out.h1) 2).trans rfl; have d2 : w2.frozen? ⟨B, 2, none⟩ = false := blk_frozen ((h3.block B (blk_lt HR1.out.h1) (fun e => by have : I ≤ B := HR1.out.hA.1 B e.symm; have := HR1.out.hl; omega)).trans HR1.out.h1) 2; obtain ⟨A4, cA4, e4⟩ := Kd.R_slice h1; rw [List.length_append, List.length_singleton] at e4; subst e4; have k1 : (w2.setCell ⟨B, 2, none⟩ (.slice A4 (m.ws.length + 1) cA4)).cell? ⟨B, 1, none⟩ = some (.int .i64 m.H) := HR2.out.cellH; have k3 : (w2.setCell ⟨B, 2, none⟩ (.slice A4 (m.ws.length + 1) cA4)).cell? ⟨B, 3, none⟩ = some (.slice A3 m.sp.length cS) := HR2.out.cellS; have kf : (w2.setCell ⟨B, 2, none⟩ (.slice A4 (m.ws.length + 1) cA4)).frozen? ⟨B, 3, none⟩ = false := HR2.out.froz 3; clear h1 h2 h3 h4)
                    generalize w2.setCell ⟨B, 2, none⟩ (.slice A4 (m.ws.length + 1) cA4) = w3 at *
                    refine start_ (n := 10) (S := fun w' => w'.cell? ⟨B, 1, none⟩ = some (.int .i64 m.H) ∧ w'.cell? ⟨B, 3, none⟩ = some (.slice A3 m.sp.length cS)) (ds := [9]) #[false, false, false, false, false, false, false, false, false, false] (by kernel_rfl) rfl rfl ⟨HR2.out.drew.cellH, HR2.out.drew.cellS⟩ (fun hHeld => ?_)
                    refine pure_ (i := 0) (N := some 75) (v := ?_) (a' := ?_) #[true, false, false, false, false, false, false, false, false, false] rfl rfl (by kernel_rfl) (fun _ _ _ h => h) (Or.inl ⟨by rfl, ?_⟩) ?_ ?_
                    rotate_left
                    · intro w'
                      go_simp
                      with_reducible rfl
                    rotate_left
                    · simp only [Act.put, List.setIfInBounds_toArray, List.set_cons_zero, List.set_cons_succ, i64_w, i32_w]
                      rfl
                    refine pure_ (i := 2) (N := some 77) (v := ?_) (a' := ?_) #[true, false, true, false, false, false, false, false, false, false] rfl rfl (by kernel_rfl) (fun _ _ _ h => h) (Or.inl ⟨by rfl, ?_⟩) ?_ ?_
                    rotate_left
                    · intro w'
                      go_simp
                      with_reducible rfl
                    rotate_left
                    · simp only [Act.put, List.setIfInBounds_toArray, List.set_cons_zero, List.set_cons_succ, i64_w, i32_w]
                      rfl
                    refine pure_ (i := 3) (N := some 78) (v := ?_) (a' := ?_) #[true, false, true, true, false, false, false, false, false, false] rfl rfl (by kernel_rfl) (fun _ _ _ h => h) (Or.inl ⟨by rfl, ?_⟩) ?_ ?_
                    rotate_left
                    · intro w'
                      go_simp
                      with_reducible rfl
                    rotate_left
                    · simp only [Act.put, List.setIfInBounds_toArray, List.set_cons_zero, List.set_cons_succ, i64_w, i32_w]
                      rfl
                    refine take_ (i := 1) (N := some 76) (v := ?_) (a' := ?_) #[true, true, true, true, false, false, false, false, false, false] rfl rfl (by kernel_rfl) (fun _ _ _ h => h) (Or.inl ⟨by rfl, ?_⟩) hHeld ?_ ?_
                    rotate_left
                    · rintro w' ⟨s0, s1⟩
                      go_simp
                      with_reducible rfl
                    rotate_left
                    · simp only [Act.put, List.setIfInBounds_toArray, List.set_cons_zero, List.set_cons_succ, i64_w, i32_w]
                      rfl
                    refine take_ (i := 4) (N := some 79) (v := ?_) (a' := ?_) #[true, true, true, true, true, false, false, false, false, false] rfl rfl (by kernel_rfl) (fun _ _ _ h => h) (Or.inl ⟨by rfl, ?_⟩) hHeld ?_ ?_
                    rotate_left
                    · rintro w' ⟨s0, s1⟩
                      go_simp
                      with_reducible rfl
                    rotate_left
                    · simp only [Act.put, List.setIfInBounds_toArray, List.set_cons_zero, List.set_cons_succ, i64_w, i32_w]
                      rfl
                    refine one_ (i := 5) (N := some 80) #[true, true, true, true, true, true, false, false, false, false] rfl rfl (by kernel_rfl) (by decide) (fun K hK => ?_)
                    refine goes_ Try.func23 (by kernel_rfl) rfl #[.int .i64 x, .int .i64 m.H] (by rfl) rfl rfl (by simp only [List.map_toArray, List.map_cons, List.map_nil]; rfl) ?_
                    with_reducible refine (tiles_middle.calls x m.H _ _ _ rfl).mono ?_
                    rintro e w4 ⟨rfl, hb4⟩
                    refine ⟨_, rfl, ?_⟩
                    have HR4 := Aside0.mk (HR2.out.drew.below hb4)
                    have HI4 : Aside0 (w4.heap[I]? = some (.stringIter s pos')) := ⟨(hb4.block I (blk_lt HI2.out)).trans HI2.out⟩
                    clear hb4
                    refine hK.out _ _ ⟨HR4.out.cellH, HR4.out.cellS⟩ (fun hHeld => ?_)
                    clear hK K
                    refine norm_ (a' := ?_) ?_ ?_
                    rotate_left
                    · show Act.put _ (some 80) _ = _
                      simp only [Act.put, List.setIfInBounds_toArray, List.set_cons_zero, List.set_cons_succ, i64_w, i32_w]
                      rfl
                    refine one_ (i := 6) (N := some 81) #[true, true, true, true, true, true, true, false, false, false] rfl rfl (by kernel_rfl) (by decide) (fun K hK => ?_)
                    refine value_ (w1 := ?_) (v := ?_) (by rfl) rfl ?_ ?_
                    rotate_left 2
                    · go_simp
                      constructor
                      · rfl
                      · rfl
                    refine hK.out _ _ ⟨(HR4.out.alloc _).cellH, (HR4.out.alloc _).cellS⟩ (fun hHeld => ?_)
                    clear hK K
                    refine norm_ (a' := ?_) ?_ ?_
                    rotate_left
                    · show Act.put _ (some 81) _ = _
                      simp only [Act.put, List.setIfInBounds_toArray, List.set_cons_zero, List.set_cons_succ, i64_w, i32_w]
                      rfl
                    refine one_ (i := 7) (N := some 82) #[true, true, true, true, true, true, true, true, false, false] rfl rfl (by kernel_rfl) (by decide) (fun K hK => ?_)
                    refine Kd.R_append_step k39 (w0 := w) w.heap.size (by rfl) (.tmp 76) (.tmp 81) 24 39 (.agg #[.int .i64 0, .int .i64 0]) 16 rfl Try.underlying24 info39 rfl (by decide) (by decide) (.slice A3 m.sp.length cS) m.sp (midF x m.H) [.int .i64 (midF x m.H).f0, .int .i64 (midF x m.H).f1] (fun k => I ≤ k) (fun _ => False) rfl rfl (k39_mkM _ _ _ _) (fun _ h => h.elim) (fun k hk => Nat.le_trans HR4.out.hI hk) HR4.out.hS HR4.out.hB HR4.out.hB.size (by omega) ?_
                    intro v1 w5 h1 h2 h3 h4
                    have hB5 := (h3.block B (blk_lt HR4.out.h1) (fun e => by have : I ≤ B := HR4.out.hS.1 B e.symm; have := HR4.out.hl; omega)).trans HR4.out.h1
                    have HR5 : Aside0 (Rd w S B I 26 { m with ws := m.ws ++ [false], sp := m.sp ++ [midF x m.H] } (.slice A4 (m.ws.length + 1) cA4) v1 (w5.setCell ⟨B, 3, none⟩ v1)) := ⟨HR4.out.addS (.inl rfl) h1 h2 h3⟩
                    have HI5 : Aside0 ((w5.setCell ⟨B, 3, none⟩ v1).heap[I]? = some (.stringIter s pos')) := ⟨by rw [Below.heap_setCell _ _ _ _ (by have := HR4.out.hl; show I ≠ B; omega)]; exact (h3.block I (blk_lt HI4.out) (fun e => Rd.ne_iter HR4.out.hS HI4.out e.symm)).trans HI4.out⟩
                    have d5 : w5.frozen? ⟨B, 3, none⟩ = false := blk_frozen hB5 3
                    have e5 : w5.cell? ⟨B, 3, none⟩ = some (.slice A3 m.sp.length cS) := (blk_cell hB5 3).trans rfl
                    obtain ⟨A6, cA6, e6⟩ := Kd.R_slice h1
                    rw [List.length_append, List.length_singleton] at e6
                    subst e6
                    clear h1 h2 h3 h4
                    refine hK.out _ _ ⟨((blk_cell hB5 1).trans rfl), ((blk_cell hB5 3).trans rfl)⟩ (fun hHeld => ?_)
                    clear hK K
                    refine norm_ (a' := ?_) ?_ ?_
                    rotate_left
                    · show Act.put _ (some 82) _ = _
                      simp only [Act.put, List.setIfInBounds_toArray, List.set_cons_zero, List.set_cons_succ, i64_w, i32_w]
                      rfl
                    refine pure_ (i := 8) (N := some 83) (v := ?_) (a' := ?_) #[true, true, true, true, true, true, true, true, true, false] rfl rfl (by kernel_rfl) (fun _ _ _ h => h) (Or.inl ⟨by rfl, ?_⟩) ?_ ?_
                    rotate_left
                    · intro w'
                      go_simp
                      with_reducible rfl
                    rotate_left
                    · simp only [Act.put, List.setIfInBounds_toArray, List.set_cons_zero, List.set_cons_succ, i64_w, i32_w]
                      rfl
                    refine last_ (i := 9) (N := none) #[true, true, true, true, true, true, true, true, true, true] rfl rfl (by kernel_rfl) (by decide) (fun K hK => ?_)
                    refine skip_ (w1 := ?_) (by rfl) rfl ?_ ?_
                    rotate_left
                    · go_simp
                      rfl
                    refine hK.out _ _ ?_
                    clear hK K
                    refine done_ (by kernel_rfl) ?_
                    go_wp2_with fail
                    go_roundg k
                    · exact ⟨pos', x + 1, _, _, _, rfl, HK2, HF1, HE1, HI5, HR5⟩
                    · omega
                  · clear hxW
                    go_upto_region 18 with (at_builtin; refine Kd.R_append Kd.bool (w0 := w) w.heap.size rfl _ _ 23 4 (.bool false) 1 rfl Try.underlying23 info4 rfl (by decide) (by decide) (.slice A2 m.ws.length cA) m.ws false [.bool false] (fun k => I ≤ k) (fun _ => False) rfl rfl rfl (fun _ h => h.elim) (fun k hk => Nat.le_trans HR1.out.hI hk) HR1.out.hA HR1.out.hB HR1.out.hB.size (by omega) ?_; intro v1 w2 h1 h2 h3 h4; have HR2 : Aside0 (Rd w S B I 26 { m with ws := m.ws ++ [false] } v1 (.slice A3 m.sp.length cS) (w2.setCell ⟨B, 2, none⟩ v1)) := ⟨HR1.out.addA (.inl rfl) h1 h2 h3⟩; have HI2 : Aside0 ((w2.setCell ⟨B, 2, none⟩ v1).heap[I]? = some (.stringIter s pos')) := ⟨by rw [Below.heap_setCell _ _ _ _ (by have := HR1.out.hl; show I ≠ B; omega)]; exact (h3.block I (blk_lt HI1.out) (fun e => Rd.ne_iter HR1.out.hA HI1.out e.symm)).trans HI1.out⟩; have e2 : w2.cell? ⟨B, 2, none⟩ = some (.slice A2 m.ws.length cA) := (blk_cell ((h3.block B (blk_lt HR1.out.h1) (fun e => by have : I ≤ B := HR1.out.hA.1 B e.symm; have := HR1.out.hl; omega)).trans HR1.out.h1) 2).trans rfl; have d2 : w2.frozen? ⟨B, 2, none⟩ = false := blk_frozen ((h3.block B (blk_lt HR1.out.h1) (fun e => by have : I ≤ B := HR1.out.hA.1 B e.symm; have := HR1.out.hl; omega)).trans HR1.out.h1) 2; obtain ⟨A4, cA4, e4⟩ := Kd.R_slice h1; rw [List.length_append, List.length_singleton] at e4; subst e4; have k1 : (w2.setCell ⟨B, 2, none⟩ (.slice A4 (m.ws.length + 1) cA4)).cell? ⟨B, 1, none⟩ = some (.int .i64 m.H) := HR2.out.cellH; have k3 : (w2.setCell ⟨B, 2, none⟩ (.slice A4 (m.ws.length + 1) cA4)).cell? ⟨B, 3, none⟩ = some (.slice A3 m.sp.length cS) := HR2.out.cellS; have kf : (w2.setCell ⟨B, 2, none⟩ (.slice A4 (m.ws.length + 1) cA4)).frozen? ⟨B, 3, none⟩ = false := HR2.out.froz 3; clear h1 h2 h3 h4)
                    generalize w2.setCell ⟨B, 2, none⟩ (.slice A4 (m.ws.length + 1) cA4) = w3 at *
                    refine start_ (n := 10) (S := fun w' => w'.cell? ⟨B, 1, none⟩ = some (.int .i64 m.H) ∧ w'.cell? ⟨B, 3, none⟩ = some (.slice A3 m.sp.length cS)) (ds := [9]) #[false, false, false, false, false, false, false, false, false, false] (by kernel_rfl) rfl rfl ⟨HR2.out.drew.cellH, HR2.out.drew.cellS⟩ (fun hHeld => ?_)
                    refine pure_ (i := 0) (N := some 75) (v := ?_) (a' := ?_) #[true, false, false, false, false, false, false, false, false, false] rfl rfl (by kernel_rfl) (fun _ _ _ h => h) (Or.inl ⟨by rfl, ?_⟩) ?_ ?_
                    rotate_left
                    · intro w'
                      go_simp
                      with_reducible rfl
                    rotate_left
                    · simp only [Act.put, List.setIfInBounds_toArray, List.set_cons_zero, List.set_cons_succ, i64_w, i32_w]
                      rfl
                    refine pure_ (i := 2) (N := some 77) (v := ?_) (a' := ?_) #[true, false, true, false, false, false, false, false, false, false] rfl rfl (by kernel_rfl) (fun _ _ _ h => h) (Or.inl ⟨by rfl, ?_⟩) ?_ ?_
                    rotate_left
                    · intro w'
                      go_simp
                      with_reducible rfl
                    rotate_left
                    · simp only [Act.put, List.setIfInBounds_toArray, List.set_cons_zero, List.set_cons_succ, i64_w, i32_w]
                      rfl
                    refine pure_ (i := 3) (N := some 78) (v := ?_) (a' := ?_) #[true, false, true, true, false, false, false, false, false, false] rfl rfl (by kernel_rfl) (fun _ _ _ h => h) (Or.inl ⟨by rfl, ?_⟩) ?_ ?_
                    rotate_left
                    · intro w'
                      go_simp
                      with_reducible rfl
                    rotate_left
                    · simp only [Act.put, List.setIfInBounds_toArray, List.set_cons_zero, List.set_cons_succ, i64_w, i32_w]
                      rfl
                    refine take_ (i := 1) (N := some 76) (v := ?_) (a' := ?_) #[true, true, true, true, false, false, false, false, false, false] rfl rfl (by kernel_rfl) (fun _ _ _ h => h) (Or.inl ⟨by rfl, ?_⟩) hHeld ?_ ?_
                    rotate_left
                    · rintro w' ⟨s0, s1⟩
                      go_simp
                      with_reducible rfl
                    rotate_left
                    · simp only [Act.put, List.setIfInBounds_toArray, List.set_cons_zero, List.set_cons_succ, i64_w, i32_w]
                      rfl
                    refine take_ (i := 4) (N := some 79) (v := ?_) (a' := ?_) #[true, true, true, true, true, false, false, false, false, false] rfl rfl (by kernel_rfl) (fun _ _ _ h => h) (Or.inl ⟨by rfl, ?_⟩) hHeld ?_ ?_
                    rotate_left
                    · rintro w' ⟨s0, s1⟩
                      go_simp
                      with_reducible rfl
                    rotate_left
                    · simp only [Act.put, List.setIfInBounds_toArray, List.set_cons_zero, List.set_cons_succ, i64_w, i32_w]
                      rfl
                    refine one_ (i := 5) (N := some 80) #[true, true, true, true, true, true, false, false, false, false] rfl rfl (by kernel_rfl) (by decide) (fun K hK => ?_)
                    refine goes_ Try.func23 (by kernel_rfl) rfl #[.int .i64 x, .int .i64 m.H] (by rfl) rfl rfl (by simp only [List.map_toArray, List.map_cons, List.map_nil]; rfl) ?_
                    with_reducible refine (tiles_middle.calls x m.H _ _ _ rfl).mono ?_
                    rintro e w4 ⟨rfl, hb4⟩
                    refine ⟨_, rfl, ?_⟩
                    have HR4 := Aside0.mk (HR2.out.drew.below hb4)
                    have HI4 : Aside0 (w4.heap[I]? = some (.stringIter s pos')) := ⟨(hb4.block I (blk_lt HI2.out)).trans HI2.out⟩
                    clear hb4
                    refine hK.out _ _ ⟨HR4.out.cellH, HR4.out.cellS⟩ (fun hHeld => ?_)
                    clear hK K
                    refine norm_ (a' := ?_) ?_ ?_
                    rotate_left
                    · show Act.put _ (some 80) _ = _
                      simp only [Act.put, List.setIfInBounds_toArray, List.set_cons_zero, List.set_cons_succ, i64_w, i32_w]
                      rfl
                    refine one_ (i := 6) (N := some 81) #[true, true, true, true, true, true, true, false, false, false] rfl rfl (by kernel_rfl) (by decide) (fun K hK => ?_)
                    refine value_ (w1 := ?_) (v := ?_) (by rfl) rfl ?_ ?_
                    rotate_left 2
                    · go_simp
                      constructor
                      · rfl
                      · rfl
                    refine hK.out _ _ ⟨(HR4.out.alloc _).cellH, (HR4.out.alloc _).cellS⟩ (fun hHeld => ?_)
                    clear hK K
                    refine norm_ (a' := ?_) ?_ ?_
                    rotate_left
                    · show Act.put _ (some 81) _ = _
                      simp only [Act.put, List.setIfInBounds_toArray, List.set_cons_zero, List.set_cons_succ, i64_w, i32_w]
                      rfl
                    refine one_ (i := 7) (N := some 82) #[true, true, true, true, true, true, true, true, false, false] rfl rfl (by kernel_rfl) (by decide) (fun K hK => ?_)
                    refine Kd.R_append_step k39 (w0 := w) w.heap.size (by rfl) (.tmp 76) (.tmp 81) 24 39 (.agg #[.int .i64 0, .int .i64 0]) 16 rfl Try.underlying24 info39 rfl (by decide) (by decide) (.slice A3 m.sp.length cS) m.sp (midF x m.H) [.int .i64 (midF x m.H).f0, .int .i64 (midF x m.H).f1] (fun k => I ≤ k) (fun _ => False) rfl rfl (k39_mkM _ _ _ _) (fun _ h => h.elim) (fun k hk => Nat.le_trans HR4.out.hI hk) HR4.out.hS HR4.out.hB HR4.out.hB.size (by omega) ?_
                    intro v1 w5 h1 h2 h3 h4
                    have hB5 := (h3.block B (blk_lt HR4.out.h1) (fun e => by have : I ≤ B := HR4.out.hS.1 B e.symm; have := HR4.out.hl; omega)).trans HR4.out.h1
                    have HR5 : Aside0 (Rd w S B I 26 { m with ws := m.ws ++ [false], sp := m.sp ++ [midF x m.H] } (.slice A4 (m.ws.length + 1) cA4) v1 (w5.setCell ⟨B, 3, none⟩ v1)) := ⟨HR4.out.addS (.inl rfl) h1 h2 h3⟩
                    have HI5 : Aside0 ((w5.setCell ⟨B, 3, none⟩ v1).heap[I]? = some (.stringIter s pos')) := ⟨by rw [Below.heap_setCell _ _ _ _ (by have := HR4.out.hl; show I ≠ B; omega)]; exact (h3.block I (blk_lt HI4.out) (fun e => Rd.ne_iter HR4.out.hS HI4.out e.symm)).trans HI4.out⟩
                    have d5 : w5.frozen? ⟨B, 3, none⟩ = false := blk_frozen hB5 3
                    have e5 : w5.cell? ⟨B, 3, none⟩ = some (.slice A3 m.sp.length cS) := (blk_cell hB5 3).trans rfl
                    obtain ⟨A6, cA6, e6⟩ := Kd.R_slice h1
                    rw [List.length_append, List.length_singleton] at e6
                    subst e6
                    clear h1 h2 h3 h4
                    refine hK.out _ _ ⟨((blk_cell hB5 1).trans rfl), ((blk_cell hB5 3).trans rfl)⟩ (fun hHeld => ?_)
                    clear hK K
                    refine norm_ (a' := ?_) ?_ ?_
                    rotate_left
                    · show Act.put _ (some 82) _ = _
                      simp only [Act.put, List.setIfInBounds_toArray, List.set_cons_zero, List.set_cons_succ, i64_w, i32_w]
                      rfl
                    refine pure_ (i := 8) (N := some 83) (v := ?_) (a' := ?_) #[true, true, true, true, true, true, true, true, true, false] rfl rfl (by kernel_rfl) (fun _ _ _ h => h) (Or.inl ⟨by rfl, ?_⟩) ?_ ?_
                    rotate_left
                    · intro w'
                      go_simp
                      with_reducible rfl
                    rotate_left
                    · simp only [Act.put, List.setIfInBounds_toArray, List.set_cons_zero, List.set_cons_succ, i64_w, i32_w]
                      rfl
                    refine last_ (i := 9) (N := none) #[true, true, true, true, true, true, true, true, true, true] rfl rfl (by kernel_rfl) (by decide) (fun K hK => ?_)
                    refine skip_ (w1 := ?_) (by rfl) rfl ?_ ?_
                    rotate_left
                    · go_simp
                      rfl
                    refine hK.out _ _ ?_
                    clear hK K
                    refine done_ (by kernel_rfl) ?_
                    go_wp2_with fail
                    go_roundg k
                    · exact ⟨pos', x + 1, _, _, _, rfl, HK2, HF1, HE1, HI5, HR5⟩
                    · omega
    · have hnx : ∀ ty, (Instr.next (.pointer (some ⟨I, 0, none⟩)) true ty).run Try.prog wr = _ := fun ty => Lib.run_next_end_at wr I s pos ty HIT.out hp
      have HE : Aside0 (tread s = endF s x m) := ⟨by have := HT.out; rw [← this]; cases gk <;> simp [readF, hp]⟩
      clear HT
      obtain ⟨A, cS, rfl, hlS, hCS⟩ := Kd.R_reads HR.out.hS
      obtain ⟨A2, cA, rfl, hlA, hCA⟩ := Kd.R_reads HR.out.hA
      have c0 := HR.out.cellW
      have c1 := HR.out.cellH
      have c2 := HR.out.cellA
      have c3 := HR.out.cellS
      clear hlS hCS hlA hCA
      have n0 : wr.cell? ⟨S, 0, none⟩ = some (.int .i64 0) := (blk_cell HR.out.h0 0).trans rfl
      have n1 : wr.cell? ⟨S, 1, none⟩ = some (.int .i64 0) := (blk_cell HR.out.h0 1).trans rfl
      have n2 : wr.cell? ⟨S, 2, none⟩ = some (.slice none 0 0) := (blk_cell HR.out.h0 2).trans rfl
      have n3 : wr.cell? ⟨S, 3, none⟩ = some (.slice none 0 0) := (blk_cell HR.out.h0 3).trans rfl
      have g0 : wr.frozen? ⟨S, 0, none⟩ = false := blk_frozen HR.out.h0 0
      have g1 : wr.frozen? ⟨S, 1, none⟩ = false := blk_frozen HR.out.h0 1
      have g2 : wr.frozen? ⟨S, 2, none⟩ = false := blk_frozen HR.out.h0 2
      have g3 : wr.frozen? ⟨S, 3, none⟩ = false := blk_frozen HR.out.h0 3
      by_cases h1 : 0 < x
      · go_wp2_with fail
        refine bodyPost_ret (results_ctt rfl _ _ S 26 #[.int .i64 0, .int .i64 0, .slice none 0 0, .slice none 0 0] (0, 0) _ rfl (put4 HR.out.h0 _ _ _ _) Try.underlying26 rfl (by kernel_rfl)) rfl ?_
        refine ⟨.slice none 0 0, .slice none 0 0, ?_, (HR.out.out4 _ _ _ _).1, ?_⟩
        · rw [HE.out]; unfold endF; rw [if_pos (.inl h1)]; rfl
        · rw [HE.out]; unfold endF; rw [if_pos (.inl h1)]; exact ⟨Kd.R_nil _ _ _ _ _, Kd.R_nil _ _ _ _ _⟩
      · by_cases h2 : (m.sp.length : Int) = 0
        · go_wp2_with fail
          refine bodyPost_ret (results_ctt rfl _ _ S 26 #[.int .i64 0, .int .i64 0, .slice none 0 0, .slice none 0 0] (0, 0) _ rfl (put4 HR.out.h0 _ _ _ _) Try.underlying26 rfl (by kernel_rfl)) rfl ?_
          refine ⟨.slice none 0 0, .slice none 0 0, ?_, (HR.out.out4 _ _ _ _).1, ?_⟩
          · rw [HE.out]; unfold endF; rw [if_pos (.inr h2)]; rfl
          · rw [HE.out]; unfold endF; rw [if_pos (.inr h2)]; exact ⟨Kd.R_nil _ _ _ _ _, Kd.R_nil _ _ _ _ _⟩
        · go_wp2_with fail
          refine bodyPost_ret (results_ctt rfl _ _ S 26 #[.int .i64 m.W, .int .i64 m.H, .slice A2 m.ws.length cA, .slice A m.sp.length cS] (0, 0) _ rfl (put4 HR.out.h0 _ _ _ _) Try.underlying26 rfl (by kernel_rfl)) rfl ?_
          refine ⟨.slice A2 m.ws.length cA, .slice A m.sp.length cS, ?_, (HR.out.out4 _ _ _ _).1, ?_⟩
          · rw [HE.out]; unfold endF; rw [if_neg (by omega)]; rfl
          · rw [HE.out]; unfold endF; rw [if_neg (by omega)]; exact (HR.out.out4 _ _ _ _).2
end Go.Proofs.Ytgppnfnbihngnaa.Tiles
