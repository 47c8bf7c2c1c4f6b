import Derived.Test.YtgppnfnbihngnaaTPlain
import Derived.Test.YtgppnfnbihngnaaPTilesFreex2
import Derived.Deep.LoopGhost
set_option linter.unusedVariables false
set_option linter.unusedSimpArgs false
namespace Go.Proofs.Ytgppnfnbihngnaa.Tiles
open Go.RowKit Go.Proofs.YtgppnfnbihngnaaW.PrintWords Go.Proofs.YtgppnfnbihngnaaW.PrintLast Go.Proofs.YtgppnfnbihngnaaW.PrintMore Go.Proofs.Ytgppnfnbihngnaa.PTilesFree

def sg : Nat → ByteArray
  | 0 => ⟨#[226, 150, 136]⟩
  | 1 => ⟨#[194, 183]⟩
  | 2 => ⟨#[226, 151, 142]⟩
  | _ => ⟨#[10]⟩
theorem sg_size (k : Nat) : 1 ≤ (sg k).size ∧ (sg k).size ≤ 3 := by
  unfold sg; split <;> decide
def hit (s : ByteArray) (pos k : Nat) : Bool := decide (pos + (sg k).size ≤ s.size) && decide (s.extract pos (pos + (sg k).size) = sg k)
theorem bytes_ne {a b : ByteArray} (h : ¬ a = b) : (a.toList == b.toList) = false := by
  simp only [beq_eq_false_iff_ne, ne_eq]
  intro e
  rw [ByteArray.toList_eq, ByteArray.toList_eq] at e
  exact h (by obtain ⟨⟨x⟩⟩ := a; obtain ⟨⟨y⟩⟩ := b; simp at e; rw [e])
/-- What the reference's sign answers, from the k-th sign on. -/
def signFrom (s : ByteArray) (pos : Nat) : Nat → Nat → Int × Int
  | 0, _ => (0, 0)
  | f + 1, k => if hit s pos k = true then ((k : Int) + 1, (sg k).size) else signFrom s pos f (k + 1)
def sgV : Array Value := #[.string (sg 0), .string (sg 1), .string (sg 2), .string (sg 3)]
theorem sgV_at (k : Nat) (h : k < 4) : sgV[k]? = some (.string (sg k)) := by
  match k, h with
  | 0, _ => rfl
  | 1, _ => rfl
  | 2, _ => rfl
  | 3, _ => rfl
set_option maxHeartbeats 4000000 in
set_option maxRecDepth 100000 in
theorem sign_any (s : ByteArray) (pos : Nat) (hs : s.size ≤ 1000000) (hp : pos < s.size) (w : World) :
    Calls Try.prog 24 #[.string s, .int .i64 pos] w fun e w' => e = .returned (.tuple #[.int .i64 (signFrom s pos 4 0).1, .int .i64 (signFrom s pos 4 0).2]) ∧ Below w.heap.size w w' := by
  have hu77 := Try.underlying77
  have HB := Aside0.mk (Below.refl w.heap.size w)
  go_enter Try.func24, Try.ntmps24
  go_wp2_with fail
  have HBa : Aside0 (Below w.heap.size w (w.alloc (.cells #[.string ⟨#[226, 150, 136]⟩, .string ⟨#[194, 183]⟩, .string ⟨#[226, 151, 142]⟩, .string ⟨#[10]⟩] 77))) := ⟨below_alloc HB.out _⟩
  have HC := Aside0.mk (blk_new w (.cells #[.string ⟨#[226, 150, 136]⟩, .string ⟨#[194, 183]⟩, .string ⟨#[226, 151, 142]⟩, .string ⟨#[10]⟩] 77))
  clear HB
  generalize w.alloc (.cells #[.string ⟨#[226, 150, 136]⟩, .string ⟨#[194, 183]⟩, .string ⟨#[226, 151, 142]⟩, .string ⟨#[10]⟩] 77) = W1 at *
  obtain ⟨A, hA⟩ : ∃ X, w.heap.size = X := ⟨_, rfl⟩
  rw [hA] at HC
  rw [hA]
  have HA := Aside0.mk hA
  clear hA
  go_loopg [7] 4 (fun kq v7 w' => ∃ k : Nat, v7 = .int .i64 (k : Int) ∧ Aside0 (kq + k = 4) ∧ Aside0 (signFrom s pos kq k = signFrom s pos 4 0) ∧ Aside0 (Below W1.heap.size W1 w'))
  case atStart => exact ⟨0, rfl, ⟨rfl⟩, ⟨rfl⟩, ⟨Below.refl _ _⟩⟩
  case round =>
    obtain ⟨k, rfl, HK, HT, HW⟩ := hrel
    by_cases hi : (k : Int) < 4
    · cases gk with
      | zero => exfalso; have := HK.out; omega
      | succ gk =>
        have hc : wr.cell? ⟨A, k, none⟩ = some (.string (sg k)) := (blk_cell (blk_below HC.out HW.out) k).trans (sgV_at k (by omega))
        obtain ⟨hn1, hn2⟩ := sg_size k
        have hk0 : (0 : Int) ≤ k := by omega
        have hpb : pos < 1000000 := by omega
        have hw : IntKind.i64.wrap ((pos : Int) + ((sg k).size : Int)) = (pos : Int) + ((sg k).size : Int) := by
          rw [i64_w]; unfold wrap64; omega
        have hq0 : (0 : Int) ≤ (pos : Int) := by omega
        have hq1 : (pos : Int) ≤ (pos : Int) + ((sg k).size : Int) := by omega
        have hq2 : (0 : Int) ≤ (pos : Int) + ((sg k).size : Int) := by omega
        by_cases hsz : (pos : Int) + ((sg k).size : Int) ≤ (s.size : Int)
        · by_cases heq : s.extract pos (pos + (sg k).size) = sg k
          · have HE : Aside0 (signFrom s pos 4 0 = ((k : Int) + 1, ((sg k).size : Int))) := ⟨by rw [← HT.out]; simp only [signFrom]; rw [if_pos (by simp only [hit, heq]; simp; omega)]⟩
            have hw2 : IntKind.i64.wrap ((k : Int) + 1) = (k : Int) + 1 := by rw [i64_w]; unfold wrap64; omega
            clear HT HK
            go_upto_region 6 with fail
            go_quiet (fail)
            go_wp2_with fail
            go_ret2
            exact ⟨by rw [HE.out]; rfl, by have hh := HA.out; subst hh; exact below_step HBa.out (by repeat (first | exact HW.out | apply below_drew | apply pw_below_drewN))⟩
          · have hbq : ((s.extract pos (pos + (sg k).size)).toList == (sg k).toList) = false := bytes_ne heq
            have HE : Aside0 (signFrom s pos gk (k + 1) = signFrom s pos 4 0) := ⟨by rw [← HT.out]; simp only [signFrom]; rw [if_neg (by simp only [hit]; simp [heq])]⟩
            have hw2 : IntKind.i64.wrap ((k : Int) + 1) = (k : Int) + 1 := by rw [i64_w]; unfold wrap64; omega
            clear HT
            go_upto_region 6 with fail
            go_quiet (fail)
            go_wp2_with fail
            go_roundg gk
            case measure => omega
            case rel => exact ⟨k + 1, by simp, ⟨by have := HK.out; omega⟩, HE, ⟨by repeat (first | exact HW.out | apply below_drew | apply pw_below_drewN)⟩⟩
        · have HE : Aside0 (signFrom s pos gk (k + 1) = signFrom s pos 4 0) := ⟨by rw [← HT.out]; simp only [signFrom]; rw [if_neg (by simp only [hit]; simp; omega)]⟩
          have hw2 : IntKind.i64.wrap ((k : Int) + 1) = (k : Int) + 1 := by rw [i64_w]; unfold wrap64; omega
          have hd : decide ((pos : Int) + ((sg k).size : Int) ≤ (s.size : Int)) = false := by simpa using hsz
          clear HT
          go_upto_region 6 with fail
          go_quiet (fail)
          go_wp2_with fail
          go_roundg gk
          case measure => omega
          case rel => exact ⟨k + 1, by simp, ⟨by have := HK.out; omega⟩, HE, ⟨by repeat (first | exact HW.out | apply below_drew | apply pw_below_drewN)⟩⟩
    · have HE : Aside0 (signFrom s pos 4 0 = (0, 0)) := ⟨by rw [← HT.out, show gk = 0 by have := HK.out; omega]; rfl⟩
      have hi2 : (4 : Int) ≤ k := by omega
      clear HT
      go_wp2_with fail
      go_ret2
      exact ⟨by rw [HE.out]; rfl, by have hh := HA.out; subst hh; exact below_step HBa.out HW.out⟩
end Go.Proofs.Ytgppnfnbihngnaa.Tiles
