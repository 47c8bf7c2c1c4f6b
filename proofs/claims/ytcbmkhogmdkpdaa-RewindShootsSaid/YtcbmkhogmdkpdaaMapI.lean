/- Maps whose keys are ints, entry by entry: what a look-up, a store of a new key and a delete of the first entry do. Of whatever program; no condition. -/
import Derived.Maps.Own
import Derived.WalkKit
namespace Go.Proofs.Ytcbmkhogmdkpdaa.MapI
open Go.RowKit Go.ChangeMaps
/-- The entries of a map: key, value, birth. -/
def mk (l : List (Int × Value × Nat)) : List MapEntry := l.map fun x => { key := .int .i64 x.1, val := x.2.1, born := x.2.2 }
/-- Where a key stands, and its value. -/
def seek (k : Int) : List (Int × Value × Nat) → Nat → Option (Nat × Value)
  | [], _ => none
  | x :: l, i => if k = x.1 then some (i, x.2.1) else seek k l (i + 1)
theorem findNow_mk (k : Int) : ∀ (l : List (Int × Value × Nat)) (i : Nat), Instr.findNow (.int .i64) (.int .i64 k) (mk l) i = some (seek k l i)
  | [], _ => rfl
  | x :: l, i => by
    show Instr.findNow (.int .i64) (.int .i64 k) ({ key := .int .i64 x.1, val := x.2.1, born := x.2.2 } :: mk l) i = _
    unfold Instr.findNow seek
    simp only [Instr.sameNow, if_true]
    by_cases h : k = x.1
    · simp [h]
    · have e : (k == x.1) = false := beq_eq_false_iff_ne.2 h
      rw [e, if_neg h]
      exact findNow_mk k l (i + 1)
section
variable {P : Program} {w : World} {T K E M clock : Nat} {l : List (Int × Value × Nat)}
theorem run_check (em : Bool) (hK : P.underlying K = some (.int .i64)) (k : Int) (w : World) : (Instr.checkKey em 10000 K (.int .i64 k)).run P w = .ok () w := by
  rw [show (10000 : Nat) = 9999 + 1 from rfl]
  unfold Instr.checkKey
  simp [Sem.run_bind, run_underlying hK]
theorem run_find (hK : P.underlying K = some (.int .i64)) (k : Int) (l : List (Int × Value × Nat)) (w : World) : (Instr.findKey K (.int .i64 k) (mk l)).run P w = .ok (seek k l 0) w := by
  unfold Instr.findKey
  simp [Sem.run_bind, run_underlying hK, findNow_mk]
theorem run_get (hM : w.heap[M]? = some (.map (mk l).toArray clock)) : (getObj M).run P w = .ok (.map (mk l).toArray clock) w := by simp [getObj, Sem.run, hM]
theorem run_look (hT : P.underlying T = some (.map K E)) (hK : P.underlying K = some (.int .i64)) (hM : w.heap[M]? = some (.map (mk l).toArray clock)) {k : Int} {i : Nat} {v : Value} (hs : seek k l 0 = some (i, v)) :
    (Instr.lookup T (.map (some M)) (.int .i64 k) true).run P w = .ok (.tuple #[v, .bool true]) w := by
  unfold Instr.lookup
  simp [Sem.run_bind, run_underlying hT, run_get hM, run_check, hK, run_find, hs]
theorem run_look_no (hT : P.underlying T = some (.map K E)) (hK : P.underlying K = some (.int .i64)) {z : Value} (hz : (zeroValue E).run P w = .ok z w) (hM : w.heap[M]? = some (.map (mk l).toArray clock)) {k : Int} (hs : seek k l 0 = none) :
    (Instr.lookup T (.map (some M)) (.int .i64 k) true).run P w = .ok (.tuple #[z, .bool false]) w := by
  unfold Instr.lookup
  simp [Sem.run_bind, run_underlying hT, run_get hM, run_check, hK, run_find, hs, hz]
theorem run_look_nil (hT : P.underlying T = some (.map K E)) (hK : P.underlying K = some (.int .i64)) {z : Value} (hz : (zeroValue E).run P w = .ok z w) {k : Int} :
    (Instr.lookup T (.map none) (.int .i64 k) true).run P w = .ok (.tuple #[z, .bool false]) w := by
  have h := run_find hK k [] w
  simp only [mk, List.map_nil, seek] at h
  unfold Instr.lookup
  simp [Sem.run_bind, run_underlying hT, run_check, hK, h, hz]
/-- A store under a key that isn't there. -/
theorem run_put (hT : P.underlying T = some (.map K E)) (hK : P.underlying K = some (.int .i64)) (hM : w.heap[M]? = some (.map (mk l).toArray clock)) {k : Int} {v : Value} (hs : seek k l 0 = none) :
    (Instr.mapUpdate T (.map (some M)) (.int .i64 k) v).run P w = .ok () (setBlock w M (.map (mk (l ++ [(k, v, clock)])).toArray (clock + 1))) := by
  have e : (mk l).toArray.push { key := Value.int .i64 k, val := v, born := clock } = (mk (l ++ [(k, v, clock)])).toArray := by simp [mk]
  unfold Instr.mapUpdate
  simp [Sem.run_bind, run_underlying hT, run_get hM, run_check, hK, run_find, hs, e, setObj, Sem.run, hM, setBlock]
/-- The first entry is taken out. -/
theorem run_drop (hT : P.underlying T = some (.map K E)) (hK : P.underlying K = some (.int .i64)) {k : Int} {v : Value} {b : Nat} {T2 : TypeId} (hM : w.heap[M]? = some (.map (mk ((k, v, b) :: l)).toArray clock)) :
    (Builtin.delete_ #[T, K] T2 #[.map (some M), .int .i64 k]).run P w = .ok (.tuple #[]) (setBlock w M (.map (mk l).toArray clock)) := by
  have hs : seek k ((k, v, b) :: l) 0 = some (0, v) := by simp [seek]
  unfold Builtin.delete_
  simp [Sem.run_bind, run_underlying hT, run_get hM, run_check, hK, run_find, hs, setObj, Sem.run, hM, setBlock]
  rfl
end
end Go.Proofs.Ytcbmkhogmdkpdaa.MapI
