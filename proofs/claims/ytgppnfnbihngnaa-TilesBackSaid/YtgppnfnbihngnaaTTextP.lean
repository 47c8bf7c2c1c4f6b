import Derived.Test.YtgppnfnbihngnaaTCutP
import Derived.Test.YtgppnfnbihngnaaTFormP
set_option linter.unusedVariables false
set_option linter.unusedSimpArgs false
namespace Go.Proofs.Ytgppnfnbihngnaa.Tiles
open Go.RowKit Go.Proofs.YtgppnfnbihngnaaW.PrintWords Go.Proofs.YtgppnfnbihngnaaW.PrintLast Go.Proofs.YtgppnfnbihngnaaW.PrintMore Go.Proofs.Ytgppnfnbihngnaa.PTilesFree

def hasS (sp : List S39) (p : S39) : Bool := sp.any (fun q => q.f0 == p.f0 && (q.f1 == p.f1))
theorem hasS_iff (sp : List S39) (p : S39) : hasS sp p = true ↔ p ∈ sp := by
  unfold hasS
  rw [List.any_eq_true]
  constructor
  · rintro ⟨q, hq, he⟩
    simp only [Bool.and_eq_true, beq_iff_eq] at he
    obtain rfl : q = p := by cases q; cases p; simp only [S39.mk.injEq]; exact he
    exact hq
  · intro h
    exact ⟨p, h, by simp⟩
/-- The sign of tile j. -/
def sgn (W : Int) (ws : List Bool) (sp : List S39) (j : Nat) : Nat := if ws.getD j false = true then 0 else if hasS sp (midJ W j) = true then 2 else 1
def rowF (W : Int) (ws : List Bool) (sp : List S39) (t : ByteArray) (base : Nat) : Nat → ByteArray
  | 0 => t
  | x + 1 => rowF W ws sp t base x ++ sg (sgn W ws sp (base + x))
def textF (W : Int) (n : Nat) (ws : List Bool) (sp : List S39) : Nat → ByteArray
  | 0 => ⟨#[]⟩
  | y + 1 => rowF W ws sp (textF W n ws sp y) (y * n) n ++ sg 3
def spU (W : Int) (ws : List Bool) (sp : List S39) : Nat → List S39
  | 0 => []
  | j + 1 => spU W ws sp j ++ (if sgn W ws sp j = 2 then [midJ W j] else [])
def cp : Nat → Int
  | 0 => 9608
  | 1 => 183
  | 2 => 9678
  | _ => 10
theorem toList_append (a b : ByteArray) : (a ++ b).data.toList = a.data.toList ++ b.data.toList := by
  simp
theorem size_app (a b : ByteArray) : (a ++ b).size = a.size + b.size := by
  rw [sz_list, sz_list, sz_list, toList_append, List.length_append]
theorem bytes_eq {a b : ByteArray} (h : a.data.toList = b.data.toList) : a = b := by
  obtain ⟨⟨x⟩⟩ := a
  obtain ⟨⟨y⟩⟩ := b
  have : x = y := h
  rw [this]
theorem dec_sign {s : ByteArray} {p k : Nat} {pre rest : List UInt8} (hk : k ≤ 3) (hs : s.data.toList = pre ++ ((sg k).data.toList ++ rest)) (hp : pre.length = p) : ((Utf8.decode s p).1 : Int) = cp k ∧ (Utf8.decode s p).2 = (sg k).size ∧ p < s.size := by
  have hsz : p + (sg k).size ≤ s.size := by
    rw [sz_list s, hs, sz_list (sg k)]
    simp only [List.length_append]
    omega
  have hpos := (sg_size k).1
  have hh : hit s p k = true := by
    unfold hit
    rw [Bool.and_eq_true, decide_eq_true_eq, decide_eq_true_eq]
    refine ⟨hsz, ?_⟩
    have e : (s.extract p (p + (sg k).size)).data.toList = (sg k).data.toList := by
      rw [Lib.extract_data, hs, ← hp, List.drop_left, sz_list (sg k), show pre.length + (sg k).data.toList.length - pre.length = (sg k).data.toList.length by omega, List.take_left]
    exact bytes_eq e
  match k, hk with
  | 0, _ => rw [dec_hit0 hh]; exact ⟨rfl, rfl, by omega⟩
  | 1, _ => rw [dec_hit1 hh]; exact ⟨rfl, rfl, by omega⟩
  | 2, _ => rw [dec_hit2 hh]; exact ⟨rfl, rfl, by omega⟩
  | 3, _ => rw [dec_hit3 hh]; exact ⟨rfl, rfl, by omega⟩
/-- The reading of s has come to p. -/
def Rch (s : ByteArray) (p : Nat) (x : Int) (m : TM) : Prop := ∃ c, c ≤ p ∧ ∀ F, readF s (F + c) 0 0 TM.zero = readF s F p x m
theorem Rch.start (s : ByteArray) : Rch s 0 0 TM.zero := ⟨0, Nat.le_refl _, fun _ => rfl⟩
theorem Rch.step {s : ByteArray} {p k : Nat} {x x' : Int} {m m' : TM} {pre rest : List UInt8} (h : Rch s p x m) (hk : k ≤ 3) (hs : s.data.toList = pre ++ ((sg k).data.toList ++ rest)) (hp : pre.length = p) (hst : stepF (cp k) x m = some (x', m')) : Rch s (p + (sg k).size) x' m' := by
  obtain ⟨c, hc, hF⟩ := h
  obtain ⟨d1, d2, d3⟩ := dec_sign hk hs hp
  have := (sg_size k).1
  refine ⟨c + 1, by omega, fun F => ?_⟩
  rw [show F + (c + 1) = (F + 1) + c by omega, hF (F + 1)]
  show (if p < s.size then _ else _) = _
  rw [if_pos d3, d1, hst, d2]
theorem Rch.end {s : ByteArray} {x : Int} {m : TM} (h : Rch s s.size x m) : tread s = endF s x m := by
  obtain ⟨c, hc, hF⟩ := h
  unfold tread
  have h1 := hF (s.size - c)
  rw [show s.size - c + c = s.size by omega] at h1
  rw [h1]
  generalize s.size - c = F
  cases F with
  | zero => rfl
  | succ F =>
    simp only [readF]
    rw [if_neg (by omega)]
section
variable (W : Int) (n : Nat) (ws : List Bool) (sp : List S39)
def P (y x : Nat) : ByteArray := rowF W ws sp (textF W n ws sp y) (y * n) x
theorem P_zero (y : Nat) : P W n ws sp y 0 = textF W n ws sp y := rfl
theorem P_succ (y x : Nat) : (P W n ws sp y (x + 1)).data.toList = (P W n ws sp y x).data.toList ++ (sg (sgn W ws sp (y * n + x))).data.toList := toList_append _ _
theorem text_succ (y : Nat) : (textF W n ws sp (y + 1)).data.toList = (P W n ws sp y n).data.toList ++ (sg 3).data.toList := toList_append _ _
theorem P_pre (y : Nat) : ∀ x, (textF W n ws sp y).data.toList <+: (P W n ws sp y x).data.toList
  | 0 => List.prefix_refl _
  | x + 1 => (P_pre y x).trans (by rw [P_succ]; exact List.prefix_append _ _)
theorem P_mono (y x : Nat) : ∀ d, (P W n ws sp y x).data.toList <+: (P W n ws sp y (x + d)).data.toList
  | 0 => List.prefix_refl _
  | d + 1 => (P_mono y x d).trans (by rw [show x + (d + 1) = (x + d) + 1 by omega, P_succ]; exact List.prefix_append _ _)
theorem text_mono (y : Nat) : ∀ d, (textF W n ws sp y).data.toList <+: (textF W n ws sp (y + d)).data.toList
  | 0 => List.prefix_refl _
  | d + 1 => by
    refine (text_mono y d).trans ?_
    rw [show y + (d + 1) = (y + d) + 1 by omega, text_succ]
    exact (P_pre W n ws sp (y + d) n).trans (List.prefix_append _ _)
theorem tile_at {y x h : Nat} (hy : y < h) (hx : x < n) : ∃ rest, (textF W n ws sp h).data.toList = (P W n ws sp y x).data.toList ++ ((sg (sgn W ws sp (y * n + x))).data.toList ++ rest) := by
  have h1 : (P W n ws sp y (x + 1)).data.toList <+: (textF W n ws sp h).data.toList := by
    have a := P_mono W n ws sp y (x + 1) (n - (x + 1))
    rw [show x + 1 + (n - (x + 1)) = n by omega] at a
    have b := text_mono W n ws sp (y + 1) (h - (y + 1))
    rw [show y + 1 + (h - (y + 1)) = h by omega, text_succ] at b
    exact a.trans ((List.prefix_append _ _).trans b)
  obtain ⟨rest, hr⟩ := h1
  refine ⟨rest, ?_⟩
  rw [← hr, P_succ, List.append_assoc]
theorem line_at {y h : Nat} (hy : y < h) : ∃ rest, (textF W n ws sp h).data.toList = (P W n ws sp y n).data.toList ++ ((sg 3).data.toList ++ rest) := by
  have b := text_mono W n ws sp (y + 1) (h - (y + 1))
  rw [show y + 1 + (h - (y + 1)) = h by omega, text_succ] at b
  obtain ⟨rest, hr⟩ := b
  refine ⟨rest, ?_⟩
  rw [← hr, List.append_assoc]
theorem sgn_le (j : Nat) : sgn W ws sp j ≤ 3 := by
  unfold sgn
  repeat' split
  all_goals decide
end
/-- What has been read after y lines and x tiles. -/
def mT (W : Int) (n : Nat) (ws : List Bool) (sp : List S39) (y x : Nat) : TM := ⟨if y = 0 then 0 else W, y, ws.take (y * n + x), spU W ws sp (y * n + x)⟩
theorem mid_tile {W : Int} {n x y : Nat} (hW : W = (n : Int)) (hx : x < n) : midJ W (y * n + x) = midF (x : Int) (y : Int) := by
  unfold midJ
  have e1 : (((y * n + x : Nat) : Int)) % W = (x : Int) := by
    rw [hW]; norm_cast
    rw [Nat.add_comm, Nat.add_mul_mod_self_right, Nat.mod_eq_of_lt hx]
  have e2 : (((y * n + x : Nat) : Int)) / W = (y : Int) := by
    rw [hW]; norm_cast
    rw [Nat.add_comm, Nat.add_mul_div_right _ _ (by omega), Nat.div_eq_of_lt hx, Nat.zero_add]
  rw [e1, e2]
theorem step_tile {W : Int} {n : Nat} {ws : List Bool} {sp : List S39} {y x : Nat} (hW : W = (n : Int)) (hn : n ≤ 32) (hx : x < n) (hy : y < 32) (hl : y * n + x < ws.length) :
    stepF (cp (sgn W ws sp (y * n + x))) (x : Int) (mT W n ws sp y x) = some (((x + 1 : Nat) : Int), mT W n ws sp y (x + 1)) := by
  have hm := mid_tile (y := y) hW hx
  have hcp : ¬ cp (sgn W ws sp (y * n + x)) = 10 ∧ (cp (sgn W ws sp (y * n + x)) = 9608 ∨ cp (sgn W ws sp (y * n + x)) = 183 ∨ cp (sgn W ws sp (y * n + x)) = 9678) ∧ (cp (sgn W ws sp (y * n + x)) == 9608) = ws.getD (y * n + x) false ∧ (cp (sgn W ws sp (y * n + x)) = 9678 ↔ sgn W ws sp (y * n + x) = 2) := by
    unfold sgn
    cases hb : ws.getD (y * n + x) false with
    | true => rw [if_pos rfl]; decide
    | false =>
      rw [if_neg (by decide)]
      split <;> decide
  obtain ⟨c1, c2, c3, c4⟩ := hcp
  have hW' : (mT W n ws sp y x).W = if y = 0 then 0 else W := rfl
  have hH' : (mT W n ws sp y x).H = (y : Int) := rfl
  unfold stepF
  rw [if_neg c1, if_neg (by
    rw [hW', hH']
    by_cases h0 : y = 0
    · subst h0; rw [if_pos rfl]; omega
    · rw [if_neg h0]; omega)]
  congr 1
  rw [Prod.mk.injEq]
  refine ⟨by omega, ?_⟩
  show TM.mk _ _ (ws.take (y * n + x) ++ [_]) (if _ then spU W ws sp (y * n + x) ++ [midF (x : Int) (y : Int)] else spU W ws sp (y * n + x)) = TM.mk _ _ (ws.take (y * n + (x + 1))) (spU W ws sp (y * n + (x + 1)))
  rw [c3, ← hm, show y * n + (x + 1) = (y * n + x) + 1 by omega]
  have e1 : ws.take (y * n + x + 1) = ws.take (y * n + x) ++ [ws.getD (y * n + x) false] := by
    rw [List.take_add_one, List.getD, List.getElem?_eq_getElem hl]; rfl
  rw [e1]
  congr 1
  show _ = spU W ws sp (y * n + x) ++ _
  by_cases h2 : sgn W ws sp (y * n + x) = 2
  · rw [if_pos (c4.2 h2), if_pos h2]
  · rw [if_neg (fun h => h2 (c4.1 h)), if_neg h2, List.append_nil]
theorem step_line {W : Int} {n : Nat} {ws : List Bool} {sp : List S39} {y : Nat} (hW : W = (n : Int)) (hn0 : 0 < n) : stepF (cp 3) (n : Int) (mT W n ws sp y n) = some (0, mT W n ws sp (y + 1) 0) := by
  have hW' : (mT W n ws sp y n).W = if y = 0 then 0 else W := rfl
  have hH' : (mT W n ws sp y n).H = (y : Int) := rfl
  unfold stepF
  rw [if_pos (show cp 3 = 10 from rfl), if_neg (by
    rw [hW', hH']
    by_cases h0 : y = 0
    · subst h0; rw [if_pos rfl]; omega
    · rw [if_neg h0]; omega)]
  congr 1
  rw [Prod.mk.injEq]
  refine ⟨rfl, ?_⟩
  show TM.mk (n : Int) ((y : Int) + 1) (ws.take (y * n + n)) (spU W ws sp (y * n + n)) = TM.mk (if y + 1 = 0 then 0 else W) ((y + 1 : Nat) : Int) (ws.take ((y + 1) * n + 0)) (spU W ws sp ((y + 1) * n + 0))
  rw [if_neg (by omega), show (y + 1) * n + 0 = y * n + n by rw [Nat.add_mul, Nat.one_mul, Nat.add_zero], hW]
  rfl
theorem rch_text {W : Int} {n h : Nat} {ws : List Bool} {sp : List S39} (hW : W = (n : Int)) (hn0 : 0 < n) (hn : n ≤ 32) (hh : h ≤ 32) (hl : ws.length = h * n) :
    ∀ y, y ≤ h → Rch (textF W n ws sp h) (textF W n ws sp y).size 0 (mT W n ws sp y 0) := by
  intro y
  induction y with
  | zero =>
    intro _
    have e : mT W n ws sp 0 0 = TM.zero := by unfold mT TM.zero; simp [spU]
    rw [e]
    exact Rch.start _
  | succ y ih =>
    intro hy
    have row : ∀ x, x ≤ n → Rch (textF W n ws sp h) (P W n ws sp y x).size (x : Int) (mT W n ws sp y x) := by
      intro x
      induction x with
      | zero => intro _; exact ih (by omega)
      | succ x ihx =>
        intro hx
        obtain ⟨rest, hr⟩ := tile_at W n ws sp (y := y) (x := x) (h := h) (by omega) (by omega)
        have hj : y * n + x < ws.length := by
          rw [hl]
          have : (y + 1) * n ≤ h * n := Nat.mul_le_mul_right n hy
          rw [Nat.add_mul, Nat.one_mul] at this
          omega
        have g := (ihx (by omega)).step (sgn_le W ws sp _) hr (sz_list _).symm (step_tile hW hn (by omega) (by omega) hj)
        have e : (P W n ws sp y x).size + (sg (sgn W ws sp (y * n + x))).size = (P W n ws sp y (x + 1)).size := by
          rw [sz_list (P W n ws sp y (x + 1)), P_succ, List.length_append, ← sz_list, ← sz_list]
        rw [e] at g
        exact g
    obtain ⟨rest, hr⟩ := line_at W n ws sp (y := y) (h := h) (by omega)
    have g := (row n (Nat.le_refl _)).step (k := 3) (by decide) hr (sz_list _).symm (step_line hW hn0)
    have e : (P W n ws sp y n).size + (sg 3).size = (textF W n ws sp (y + 1)).size := by
      rw [sz_list (textF W n ws sp (y + 1)), text_succ, List.length_append, ← sz_list, ← sz_list]
    rw [e] at g
    exact g
/-- What is read from a map's text. -/
theorem tread_text {W : Int} {n h : Nat} {ws : List Bool} {sp : List S39} (hW : W = (n : Int)) (hn0 : 0 < n) (hn : n ≤ 32) (hh0 : 0 < h) (hh : h ≤ 32) (hl : ws.length = h * n) :
    tread (textF W n ws sp h) = if ((spU W ws sp ws.length).length : Int) = 0 then (TM.zero, ((textF W n ws sp h).size : Int), 2) else (⟨W, h, ws, spU W ws sp ws.length⟩, 0, 0) := by
  rw [(rch_text hW hn0 hn hh hl h (Nat.le_refl _)).end]
  have e : mT W n ws sp h 0 = ⟨W, h, ws, spU W ws sp ws.length⟩ := by
    unfold mT
    rw [if_neg (by omega), Nat.add_zero, ← hl, List.take_length]
  rw [e]
  unfold endF
  by_cases h0 : ((spU W ws sp ws.length).length : Int) = 0
  · rw [if_pos (.inr h0), if_pos h0]
  · rw [if_neg (by dsimp only; omega), if_neg h0]
theorem Spawn.mono {W : Int} {ws : List Bool} {n : Nat} : ∀ {l : List S39}, Spawn W ws (n + 1) l → Spawn W ws n l
  | [], _ => trivial
  | p :: ps, ⟨j, a, b, c, d⟩ => ⟨j, by omega, b, c, d⟩
theorem Spawn.mem {W : Int} {ws : List Bool} : ∀ {l : List S39} {n : Nat} {q : S39}, Spawn W ws n l → q ∈ l → ∃ j, n ≤ j ∧ j < ws.length ∧ q = midJ W j
  | [], _, _, _, h => by cases h
  | p :: ps, n, q, ⟨j, a, b, c, d⟩, h => by
    have hj : j < ws.length := by
      rw [List.getElem?_eq_some_iff] at b
      exact b.1
    rcases List.mem_cons.1 h with rfl | h
    · exact ⟨j, a, hj, c⟩
    · obtain ⟨i, h1, h2, h3⟩ := Spawn.mem d h
      exact ⟨i, by omega, h2, h3⟩
theorem spU_spawn {W : Int} {ws : List Bool} {sp : List S39} : ∀ (n : Nat), n ≤ ws.length → ∀ tail, Spawn W ws n tail → Spawn W ws 0 (spU W ws sp n ++ tail)
  | 0, _, tail, h => h
  | n + 1, hn, tail, h => by
    show Spawn W ws 0 ((spU W ws sp n ++ _) ++ tail)
    rw [List.append_assoc]
    refine spU_spawn n (by omega) _ ?_
    by_cases h2 : sgn W ws sp n = 2
    · rw [if_pos h2]
      refine ⟨n, Nat.le_refl _, ?_, rfl, h⟩
      have hb : ws.getD n false = false := by
        cases hb : ws.getD n false with
        | false => rfl
        | true => unfold sgn at h2; rw [if_pos hb] at h2; cases h2
      rw [List.getD, List.getElem?_eq_getElem (by omega)] at hb
      rw [List.getElem?_eq_getElem (by omega)]
      simpa using hb
    · rw [if_neg h2]
      exact h.mono
theorem spU_of_spawn {W : Int} {ws : List Bool} {sp : List S39} (hW1 : 1 ≤ W) (hW2 : W ≤ 32) (hl : ws.length ≤ 1024) (hsp : Spawn W ws 0 sp) :
    ∀ n, n ≤ ws.length → ∃ rest, sp = spU W ws sp n ++ rest ∧ Spawn W ws n rest ∧ ∀ q, q ∈ spU W ws sp n → ∃ j, j < n ∧ q = midJ W j := by
  intro n
  induction n with
  | zero => intro _; exact ⟨sp, rfl, hsp, fun q hq => by cases hq⟩
  | succ n ih =>
    intro hn
    obtain ⟨rest, h1, h2, h3⟩ := ih (by omega)
    have hold : ∀ q, q ∈ spU W ws sp n → q ≠ midJ W n := by
      intro q hq e
      obtain ⟨j, hj, hq2⟩ := h3 q hq
      have := midJ_inj W n j hW1 hW2 (by omega) (by omega) (e.symm.trans hq2)
      omega
    have hgo : ∀ (rest' : List S39), (∀ q, q ∈ rest' → q ≠ midJ W n) → rest = rest' → sgn W ws sp n ≠ 2 := by
      intro rest' hr he h2'
      unfold sgn at h2'
      split at h2'
      · cases h2'
      · split at h2'
        · rename_i hs
          rw [hasS_iff, h1, he] at hs
          rcases List.mem_append.1 hs with hs | hs
          · exact hold _ hs rfl
          · exact hr _ hs rfl
        · cases h2'
    cases rest with
    | nil =>
      have hk := hgo [] (fun q hq => by cases hq) rfl
      refine ⟨[], ?_, trivial, ?_⟩
      · show sp = (spU W ws sp n ++ _) ++ []
        rw [if_neg hk, List.append_nil, List.append_nil]
        simpa using h1
      · intro q hq
        have hq' : q ∈ spU W ws sp n ++ (if sgn W ws sp n = 2 then [midJ W n] else []) := hq
        rw [if_neg hk, List.append_nil] at hq'
        obtain ⟨j, hj, e⟩ := h3 q hq'
        exact ⟨j, by omega, e⟩
    | cons p ps =>
      obtain ⟨j, a, b, c, d⟩ := h2
      by_cases hjn : j = n
      · subst hjn
        have hk : sgn W ws sp j = 2 := by
          have hb : ws.getD j false = false := by
            rw [List.getD, b]; rfl
          have hs : hasS sp (midJ W j) = true := by
            rw [hasS_iff, h1, ← c]
            exact List.mem_append.2 (.inr (List.mem_cons_self ..))
          unfold sgn
          rw [hb, if_neg (by decide), if_pos hs]
        refine ⟨ps, ?_, d, ?_⟩
        · show sp = (spU W ws sp j ++ _) ++ ps
          rw [if_pos hk, List.append_assoc, ← c]
          exact h1
        · intro q hq
          have hq' : q ∈ spU W ws sp j ++ (if sgn W ws sp j = 2 then [midJ W j] else []) := hq
          rw [if_pos hk] at hq'
          rcases List.mem_append.1 hq' with hq | hq
          · obtain ⟨i, hi, e⟩ := h3 q hq
            exact ⟨i, by omega, e⟩
          · exact ⟨j, by omega, by simpa using hq⟩
      · have hs' : Spawn W ws (n + 1) (p :: ps) := ⟨j, by omega, b, c, d⟩
        have hk := hgo (p :: ps) (fun q hq e => by
          obtain ⟨i, h1', h2', h3'⟩ := Spawn.mem hs' hq
          have := midJ_inj W n i hW1 hW2 (by omega) (by omega) (e.symm.trans h3')
          omega) rfl
        refine ⟨p :: ps, ?_, hs', ?_⟩
        · show sp = (spU W ws sp n ++ _) ++ (p :: ps)
          rw [if_neg hk, List.append_nil]
          exact h1
        · intro q hq
          have hq' : q ∈ spU W ws sp n ++ (if sgn W ws sp n = 2 then [midJ W n] else []) := hq
          rw [if_neg hk, List.append_nil] at hq'
          obtain ⟨i, hi, e⟩ := h3 q hq'
          exact ⟨i, by omega, e⟩
theorem spU_iff {W : Int} {ws : List Bool} {sp : List S39} (hW1 : 1 ≤ W) (hW2 : W ≤ 32) (hl : ws.length ≤ 1024) : spU W ws sp ws.length = sp ↔ Spawn W ws 0 sp := by
  constructor
  · intro h
    have := spU_spawn (W := W) (sp := sp) ws.length (Nat.le_refl _) [] trivial
    rw [List.append_nil, h] at this
    exact this
  · intro h
    obtain ⟨rest, h1, h2, _⟩ := spU_of_spawn hW1 hW2 hl h ws.length (Nat.le_refl _)
    cases rest with
    | nil => rw [List.append_nil] at h1; exact h1.symm
    | cons p ps =>
      obtain ⟨j, a, b, _⟩ := h2
      rw [List.getElem?_eq_some_iff] at b
      have := b.1
      omega
end Go.Proofs.Ytgppnfnbihngnaa.Tiles
