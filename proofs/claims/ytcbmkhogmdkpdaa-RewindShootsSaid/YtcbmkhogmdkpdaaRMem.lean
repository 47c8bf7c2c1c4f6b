import Derived.Test.YtcbmkhogmdkpdaaRClone
import Derived.Test.YtcbmkhogmdkpdaaMapI
set_option linter.unusedVariables false
set_option linter.unusedSimpArgs false
namespace Go.Proofs.Ytcbmkhogmdkpdaa.Ring
open Go.RowKit Go.Proofs.YtcbmkhogmdkpdaaW.PrintWords Go.Proofs.YtcbmkhogmdkpdaaW.PrintLast Go.Proofs.YtcbmkhogmdkpdaaW.PrintMore Go.Proofs.Ytcbmkhogmdkpdaa.PRewindNone Go.Proofs.Ytcbmkhogmdkpdaa.MapI
/-- The ring at block B has these ticks, in a queue of its own. -/
def HasTicks (w : World) (base B : Nat) (F : Nat → Prop) (ts : List Int) : Prop :=
  ts.length ≤ 64 ∧ ∃ tv mv, w.heap[B]? = some (.cells #[tv, mv] 72 (0, 0)) ∧ (Kd.int .i64).Q 3 w base F tv ts
def lastOf (ts : List Int) : Int := ts.getLast?.getD (-1)
def firstOf (ts : List Int) : Int := ts.head?.getD (-1)
theorem last_nil (w : World) : Calls Try.prog 17 #[.pointer none] w fun e w' => e = .returned (.int .i64 (-1)) ∧ Drawn0 w w' := by
  go_enter Try.func17, Try.ntmps17
  go_wp2
  go_ret
  exact ⟨rfl, Drawn0.refl _⟩
theorem first_nil (w : World) : Calls Try.prog 16 #[.pointer none] w fun e w' => e = .returned (.int .i64 (-1)) ∧ Drawn0 w w' := by
  go_enter Try.func16, Try.ntmps16
  go_wp2
  go_ret
  exact ⟨rfl, Drawn0.refl _⟩
theorem q_cells {w : World} {base : Nat} {F : Nat → Prop} {tv : Value} {ts : List Int} (hq : (Kd.int .i64).Q 3 w base F tv ts) (hp : 0 < ts.length) :
    ∃ g o c, tv = .slice (some ⟨g, o, none⟩) ts.length c ∧ F g ∧ w.cell? ⟨g, o, none⟩ = some (.int .i64 (firstOf ts)) ∧ w.cell? ⟨g, o + (ts.length - 1), none⟩ = some (.int .i64 (lastOf ts)) := by
  obtain ⟨g, o, c, rfl, _, _, _⟩ := Kd.Q_form hq hp
  have e0 : rdOf (-1) ts 0 = firstOf ts := by cases ts with
    | nil => simp at hp
    | cons t ts => rfl
  have e1 : rdOf (-1) ts ((ts.length : Int) - 1) = lastOf ts := by
    rw [show ((ts.length : Int) - 1) = ((ts.length - 1 : Nat) : Int) by omega]
    simp only [rdOf, lastOf, List.getLast?_eq_getElem?]
    simp
  have h0 := (Kd.Q_cell (-1) hq 0 (by omega) (by omega)).1
  have h1 := (Kd.Q_cell (-1) hq ((ts.length : Int) - 1) (by omega) (by omega)).1
  rw [e0] at h0
  rw [e1, show ((ts.length : Int) - 1).toNat = ts.length - 1 by omega] at h1
  exact ⟨g, o, c, rfl, hq.1 g rfl, h0, h1⟩
set_option maxHeartbeats 1000000 in
theorem first_any {w : World} {base B : Nat} {F : Nat → Prop} {ts : List Int} (h : HasTicks w base B F ts) : Calls Try.prog 16 #[.pointer (some ⟨B, 0, none⟩)] w fun e w' => e = .returned (.int .i64 (firstOf ts)) ∧ Drawn0 w w' := by
  obtain ⟨h64, tv, mv, hb, hq⟩ := h
  cases ts with
  | nil =>
    obtain ⟨A, c, rfl, hl, hC⟩ := Kd.Q_reads hq
    have c0 : w.cell? ⟨B, 0, none⟩ = some (.slice A 0 c) := (blk_cell hb 0).trans rfl
    go_enter Try.func16, Try.ntmps16
    go_wp2
    go_ret
    exact ⟨rfl, Drawn0.refl _⟩
  | cons t ts =>
    obtain ⟨g, o, c, rfl, _, h0, _⟩ := q_cells hq (by simp)
    have c0 : w.cell? ⟨B, 0, none⟩ = some (.slice (some ⟨g, o, none⟩) (ts.length + 1) c) := (blk_cell hb 0).trans rfl
    have hn : ¬ ((ts.length : Int) + 1 = 0) := by omega
    have hn2 : (0 : Int) < (ts.length : Int) + 1 := by omega
    go_enter Try.func16, Try.ntmps16
    go_wp2
    all_goals first | (go_ret; exact ⟨rfl, Drawn0.refl _⟩) | go_outline
set_option maxHeartbeats 1000000 in
theorem last_any {w : World} {base B : Nat} {F : Nat → Prop} {ts : List Int} (h : HasTicks w base B F ts) : Calls Try.prog 17 #[.pointer (some ⟨B, 0, none⟩)] w fun e w' => e = .returned (.int .i64 (lastOf ts)) ∧ Drawn0 w w' := by
  obtain ⟨h64, tv, mv, hb, hq⟩ := h
  cases ts with
  | nil =>
    obtain ⟨A, c, rfl, hl, hC⟩ := Kd.Q_reads hq
    have c0 : w.cell? ⟨B, 0, none⟩ = some (.slice A 0 c) := (blk_cell hb 0).trans rfl
    go_enter Try.func17, Try.ntmps17
    go_wp2
    go_ret
    exact ⟨rfl, Drawn0.refl _⟩
  | cons t ts =>
    obtain ⟨g, o, c, rfl, _, _, h1⟩ := q_cells hq (by simp)
    have c0 : w.cell? ⟨B, 0, none⟩ = some (.slice (some ⟨g, o, none⟩) (ts.length + 1) c) := (blk_cell hb 0).trans rfl
    have hn : ¬ ((ts.length : Int) + 1 = 0) := by omega
    have hn2 : (0 : Int) < (ts.length : Int) + 1 := by omega
    simp only [List.length_cons, Nat.add_sub_cancel] at h1
    simp only [List.length_cons] at h64
    have hi : IntKind.i64.wrap (ts.length : Int) = (ts.length : Int) := by simp [IntKind.wrap, IntKind.bits, IntKind.signed]; omega
    have hi0 : 0 ≤ IntKind.i64.wrap (ts.length : Int) := by rw [hi]; omega
    have hi1 : IntKind.i64.wrap (ts.length : Int) < (ts.length : Int) + 1 := by rw [hi]; omega
    have hi2 : (IntKind.i64.wrap (ts.length : Int)).toNat = ts.length := by rw [hi]; omega
    go_enter Try.func17, Try.ntmps17
    go_wp2_with fail
    go_quiet (fail)
    go_wp2
    go_ret
    exact ⟨rfl, (Drawn0.refl _).step _⟩
/-- A list of entities as it can be read: nil or a row. -/
def Came (w : World) (v : Value) (l : List S67) : Prop := ∃ A n c, v = .slice A n c ∧ Kd.C k67 w A n l ∧ n * 64 ≤ 140737488355328 ∧ (A = none → l = [])
theorem clone_nil' (n c : Nat) (w : World) : Calls Try.prog 36 #[.slice none n c] w fun e w' => e = .returned (.slice none 0 0) ∧ Below w.heap.size w w' := by
  have he := fun (w : World) => Lib.run_eql_slice_nil (P := Try.prog) w 47 67 none n c 0 0 Try.underlying47
  go_enter Try.func36, Try.ntmps36
  go_wp2
  go_ret
  exact ⟨rfl, Below.refl _ _⟩
theorem clone_any {v : Value} {l : List S67} {w : World} (h : Came w v l) :
    Calls Try.prog 36 #[v] w fun e w' => ∃ v', e = .returned v' ∧ Below w.heap.size w w' ∧ k67.R 67 w' w.heap.size (fun k => w.heap.size ≤ k) v' l := by
  obtain ⟨A, n, c, rfl, hC, hn, hA⟩ := h
  cases A with
  | none =>
    obtain rfl := hA rfl
    exact (clone_nil' n c w).mono fun e w' ⟨he, hb⟩ => ⟨_, he, hb, Kd.R_nil _ _ _ _ _⟩
  | some a => exact clone_some a n c l w hC hn
end Go.Proofs.Ytcbmkhogmdkpdaa.Ring
