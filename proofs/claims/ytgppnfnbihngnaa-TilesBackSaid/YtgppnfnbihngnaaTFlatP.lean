import Derived.Test.YtgppnfnbihngnaaTSameP
set_option linter.unusedVariables false
set_option linter.unusedSimpArgs false
namespace Go.Proofs.Ytgppnfnbihngnaa.Tiles
open Go.RowKit Go.Proofs.YtgppnfnbihngnaaW.PrintWords Go.Proofs.YtgppnfnbihngnaaW.PrintLast Go.Proofs.YtgppnfnbihngnaaW.PrintMore Go.Proofs.Ytgppnfnbihngnaa.PTilesFree

/-- The text of the first i tiles, as the program writes it. -/
def flatF (W : Int) (n : Nat) (ws : List Bool) (sp : List S39) : Nat → ByteArray
  | 0 => ⟨#[]⟩
  | i + 1 => if i % n = n - 1 then flatF W n ws sp i ++ sg (sgn W ws sp i) ++ sg 3 else flatF W n ws sp i ++ sg (sgn W ws sp i)
theorem mod_row {y n x : Nat} (hx : x < n) : (y * n + x) % n = x := by
  rw [Nat.add_comm, Nat.add_mul_mod_self_right, Nat.mod_eq_of_lt hx]
theorem flat_row (W : Int) (n : Nat) (ws : List Bool) (sp : List S39) (y : Nat) (h : flatF W n ws sp (y * n) = textF W n ws sp y) : ∀ x, x < n → flatF W n ws sp (y * n + x) = rowF W ws sp (textF W n ws sp y) (y * n) x
  | 0, _ => h
  | x + 1, hx => by
    have ih := flat_row W n ws sp y h x (by omega)
    show flatF W n ws sp ((y * n + x) + 1) = _
    simp only [flatF]
    rw [mod_row (by omega), if_neg (by omega), ih]
    rfl
theorem flat_text (W : Int) (n : Nat) (ws : List Bool) (sp : List S39) (hn : 0 < n) : ∀ y, flatF W n ws sp (y * n) = textF W n ws sp y
  | 0 => by rw [Nat.zero_mul]; rfl
  | y + 1 => by
    have ih := flat_text W n ws sp hn y
    have hr := flat_row W n ws sp y ih (n - 1) (by omega)
    rw [show (y + 1) * n = (y * n + (n - 1)) + 1 by rw [Nat.add_mul, Nat.one_mul]; omega]
    simp only [flatF]
    rw [mod_row (by omega), if_pos rfl, hr]
    show rowF W ws sp (textF W n ws sp y) (y * n) ((n - 1) + 1) ++ sg 3 = _
    rw [show n - 1 + 1 = n by omega]
    rfl
theorem flat_size (W : Int) (n : Nat) (ws : List Bool) (sp : List S39) : ∀ i, (flatF W n ws sp i).size ≤ 4 * i
  | 0 => by show (0 : Nat) ≤ _; omega
  | i + 1 => by
    have h := flat_size W n ws sp i
    have h3 := sg_size3 (sgn W ws sp i)
    simp only [flatF]
    split
    · rw [size_app, size_app]
      have : (sg 3).size = 1 := rfl
      omega
    · rw [size_app]
      omega
end Go.Proofs.Ytgppnfnbihngnaa.Tiles
