import Derived.Test.YtgppnfnbihngnaaTFormP
import Derived.Test.YtgppnfnbihngnaaPTilesFreex2
set_option linter.unusedVariables false
set_option linter.unusedSimpArgs false
namespace Go.Proofs.Ytgppnfnbihngnaa.Tiles
open Go.RowKit Go.Proofs.YtgppnfnbihngnaaW.PrintWords Go.Proofs.YtgppnfnbihngnaaW.PrintLast Go.Proofs.YtgppnfnbihngnaaW.PrintMore Go.Proofs.Ytgppnfnbihngnaa.PTilesFree

def BoxP (a b c d : Int) : Prop := -134217728 ≤ a ∧ a ≤ 134217728 ∧ -134217728 ≤ b ∧ b ≤ 134217728 ∧ -134217728 ≤ c ∧ c ≤ 134217728 ∧ -134217728 ≤ d ∧ d ≤ 134217728 ∧ a ≤ c ∧ b ≤ d
theorem vec_yes {x y : Int} (h1 : -134217728 ≤ x) (h2 : x ≤ 134217728) (h3 : -134217728 ≤ y) (h4 : y ≤ 134217728) : vec_Formed.f x y = some true := by
  unfold vec_Formed.f; rw [if_pos (by omega), if_pos (by omega), if_pos (by omega)]; simp; omega
theorem vec_no {x y : Int} (h : ¬ (-134217728 ≤ x ∧ x ≤ 134217728 ∧ -134217728 ≤ y ∧ y ≤ 134217728)) : vec_Formed.f x y = some false := by
  unfold vec_Formed.f
  repeat' split
  all_goals simp
  all_goals omega
theorem box_yes {a b c d : Int} (h : BoxP a b c d) : box_Formed.f a b c d = some true := by
  obtain ⟨h1, h2, h3, h4, h5, h6, h7, h8, h9, h10⟩ := h
  unfold box_Formed.f
  rw [vec_yes h1 h2 h3 h4, vec_yes h5 h6 h7 h8]
  simp [h9, h10]
theorem box_no {a b c d : Int} (h : ¬ BoxP a b c d) : box_Formed.f a b c d = some false := by
  unfold box_Formed.f
  by_cases h1 : -134217728 ≤ a ∧ a ≤ 134217728 ∧ -134217728 ≤ b ∧ b ≤ 134217728
  · rw [vec_yes h1.1 h1.2.1 h1.2.2.1 h1.2.2.2]
    by_cases h2 : -134217728 ≤ c ∧ c ≤ 134217728 ∧ -134217728 ≤ d ∧ d ≤ 134217728
    · rw [vec_yes h2.1 h2.2.1 h2.2.2.1 h2.2.2.2]
      unfold BoxP at h
      by_cases h3 : a ≤ c
      · have h4 : ¬ b ≤ d := by omega
        simp [h3, h4]
      · simp [h3]
    · rw [vec_no h2]; rfl
  · rw [vec_no h1]; rfl
/-- The tile x, y and the box have more than an edge in common. -/
def Ov (x y a b c d : Int) : Prop := x * 65536 < c ∧ a < x * 65536 + 65536 ∧ y * 65536 < d ∧ b < y * 65536 + 65536
theorem tile_box {x y : Int} (h1 : 0 ≤ x) (h2 : x ≤ 100) (h3 : 0 ≤ y) (h4 : y ≤ 100) : BoxP (x * 65536) (y * 65536) (x * 65536 + 65536) (y * 65536 + 65536) := by
  unfold BoxP; omega
theorem ov_yes {x y a b c d : Int} (hb : BoxP a b c d) (h1 : 0 ≤ x) (h2 : x ≤ 100) (h3 : 0 ≤ y) (h4 : y ≤ 100) (h : Ov x y a b c d) : box_Overlap.f (x * 65536) (y * 65536) (x * 65536 + 65536) (y * 65536 + 65536) a b c d = some true := by
  obtain ⟨g1, g2, g3, g4⟩ := h
  unfold box_Overlap.f
  rw [box_yes (tile_box h1 h2 h3 h4), box_yes hb]
  simp [g1, g2, g3, g4]
theorem ov_no {x y a b c d : Int} (hb : BoxP a b c d) (h1 : 0 ≤ x) (h2 : x ≤ 100) (h3 : 0 ≤ y) (h4 : y ≤ 100) (h : ¬ Ov x y a b c d) : box_Overlap.f (x * 65536) (y * 65536) (x * 65536 + 65536) (y * 65536 + 65536) a b c d = some false := by
  unfold box_Overlap.f
  rw [box_yes (tile_box h1 h2 h3 h4), box_yes hb]
  unfold Ov at h
  simp only [Option.bind_some, if_true]
  repeat' split
  all_goals simp
  all_goals omega
def tileB (W : Int) (ws : List Bool) (x y : Int) : Bool := rdOf false ws (y * W + x)
/-- No wall overlaps the box, and it lies within the map. -/
def FreeP (W H : Int) (ws : List Bool) (sp : List S39) (a b c d : Int) : Prop :=
  BoxP a b c d ∧ FormP W H ws sp ∧ 0 ≤ a ∧ 0 ≤ b ∧ c ≤ W * 65536 ∧ d ≤ H * 65536 ∧ ∀ x y : Int, 0 ≤ x → x < W → 0 ≤ y → y < H → tileB W ws x y = true → ¬ Ov x y a b c d
/-- What a box within a free one is. -/
theorem FreeP.less {W H : Int} {ws : List Bool} {sp : List S39} {a b c d a' b' c' d' : Int} (h : FreeP W H ws sp a b c d) (h1 : a ≤ a') (h2 : b ≤ b') (h3 : c' ≤ c) (h4 : d' ≤ d) (h5 : a' ≤ c') (h6 : b' ≤ d') : FreeP W H ws sp a' b' c' d' := by
  obtain ⟨g1, g2, g3, g4, g5, g6, g7⟩ := h
  unfold BoxP at g1
  refine ⟨by unfold BoxP; omega, g2, by omega, by omega, by omega, by omega, fun x y x0 x1 y0 y1 ht ho => g7 x y x0 x1 y0 y1 ht ?_⟩
  unfold Ov at ho ⊢
  omega
theorem idx_small {W x y H : Int} (hx0 : 0 ≤ x) (hx : x < W) (hy0 : 0 ≤ y) (hy : y < H) (hW : W ≤ 32) (hH : H ≤ 32) : 0 ≤ y * W + x ∧ y * W + x < W * H ∧ 0 ≤ y * W ∧ y * W ≤ 1024 := by
  have h1 : 0 ≤ y * W := Int.mul_nonneg hy0 (by omega)
  have h2 : (y + 1) * W ≤ H * W := Int.mul_le_mul_of_nonneg_right (by omega) (by omega)
  rw [Int.add_mul, Int.one_mul, Int.mul_comm H W] at h2
  have h3 : W * H ≤ 32 * 32 := Int.mul_le_mul hW hH (by omega) (by omega)
  refine ⟨by omega, by omega, h1, by omega⟩
end Go.Proofs.Ytgppnfnbihngnaa.Tiles
