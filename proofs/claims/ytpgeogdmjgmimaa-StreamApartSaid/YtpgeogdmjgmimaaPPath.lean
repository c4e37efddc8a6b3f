/-
  Plain functions of layer 2: paths. No program in sight.
-/
import Derived.Test.YtpgeogdmjgmimaaPNum
import Derived.Lib.Bytealg
set_option linter.unusedVariables false
set_option linter.unusedSimpArgs false
namespace Go.Proofs.Ytpgeogdmjgmimaa.Pl
open Go.Lib

theorem indexByte_lt (s : List UInt8) (c : UInt8) : indexByte s c < s.length ∨ s = [] := by
  induction s with
  | nil => exact .inr rfl
  | cons b l ih =>
    left
    unfold indexByte
    split
    · simp; try omega
    · split
      · simp; omega
      · rcases ih with h | h
        · simp; omega
        · subst h; simp [indexByte]
theorem indexByte_lt' (s : List UInt8) (c : UInt8) (h : 0 ≤ indexByte s c) : (indexByte s c).toNat < s.length := by
  rcases indexByte_lt s c with h1 | h1
  · omega
  · subst h1; simp [indexByte] at h
theorem indexByte_range (s : List UInt8) (c : UInt8) (hs : s.length ≤ 9223372036854775807) : -1 ≤ indexByte s c ∧ indexByte s c ≤ 9223372036854775807 := by
  refine ⟨indexByte_ge s c, ?_⟩
  rcases indexByte_lt s c with h1 | h1
  · omega
  · subst h1; simp [indexByte]
theorem indexByte_none (s : List UInt8) (c : UInt8) : indexByte s c < 0 ↔ c ∉ s := by
  induction s with
  | nil => simp [indexByte]
  | cons b l ih =>
    have h1 := indexByte_ge l c
    unfold indexByte
    by_cases hb : b = c
    · subst hb; simp
    · have hb' : (b == c) = false := by simpa using hb
      rw [hb']
      simp only [Bool.false_eq_true, if_false, List.mem_cons, not_or]
      by_cases hl : indexByte l c = -1
      · rw [hl]
        have : c ∉ l := ih.1 (by rw [hl]; omega)
        simp [this]; exact fun e => hb e.symm
      · have : ¬ (c ∉ l) := fun h => by have := ih.2 h; omega
        have hne : (indexByte l c == -1) = false := by simpa using hl
        rw [hne]
        simp only [Bool.false_eq_true, if_false]
        constructor
        · intro h; omega
        · intro h; exact absurd h.2 this
/-- What stands ahead of a byte's first place, what behind, and whether it is there. -/
def cutS (s : List UInt8) (c : UInt8) : List UInt8 × List UInt8 × Bool :=
  if 0 ≤ indexByte s c then (s.take (indexByte s c).toNat, s.drop ((indexByte s c).toNat + 1), true) else (s, [], false)
theorem cutS_nil (c : UInt8) : cutS [] c = ([], [], false) := rfl
theorem cutS_cons (b : UInt8) (l : List UInt8) (c : UInt8) : cutS (b :: l) c = if b = c then ([], l, true) else (b :: (cutS l c).1, (cutS l c).2.1, (cutS l c).2.2) := by
  have h1 := indexByte_ge l c
  by_cases hb : b = c
  · subst hb; simp [cutS, indexByte]
  · have hb' : (b == c) = false := by simpa using hb
    rw [if_neg hb]
    by_cases hl : indexByte l c = -1
    · simp [cutS, indexByte, hb', hl]
    · have hne : (indexByte l c == -1) = false := by simpa using hl
      have e : indexByte (b :: l) c = indexByte l c + 1 := by rw [indexByte, hb', hne]; simp
      have h0 : 0 ≤ indexByte l c := by omega
      unfold cutS
      rw [e, if_pos (by omega), if_pos h0]
      have e2 : (indexByte l c + 1).toNat = (indexByte l c).toNat + 1 := by omega
      rw [e2]
      simp
theorem cutS_len (s : List UInt8) (c : UInt8) : (cutS s c).2.1.length ≤ s.length := by
  unfold cutS; split <;> simp
/-- A path's parts. -/
def parts : List UInt8 → List (List UInt8)
  | [] => [[]]
  | c :: l => if c = 47 then [] :: parts l else match parts l with
    | [] => [[c]]
    | x :: xs => (c :: x) :: xs
theorem parts_cut (p : List UInt8) : parts p = (cutS p 47).1 :: (if (cutS p 47).2.2 then parts (cutS p 47).2.1 else []) := by
  induction p with
  | nil => rfl
  | cons c l ih =>
    rw [cutS_cons]
    by_cases hc : c = 47
    · simp [parts, hc]
    · rw [parts, if_neg hc, if_neg hc, ih]
theorem parts_pos (p : List UInt8) : 0 < (parts p).length := by rw [parts_cut]; simp
/-- What is left of a path when so many parts are taken. -/
def rem (p : List UInt8) : Nat → List UInt8
  | 0 => p
  | k + 1 => (cutS (rem p k) 47).2.1
theorem rem_len (p : List UInt8) (k : Nat) : (rem p k).length ≤ p.length := by
  induction k with
  | zero => exact Nat.le_refl _
  | succ k ih => exact Nat.le_trans (cutS_len _ _) ih
theorem parts_rem (p : List UInt8) (k : Nat) (h : k < (parts p).length) : parts (rem p k) = (parts p).drop k := by
  induction k with
  | zero => rfl
  | succ k ih =>
    have ih := ih (by omega)
    rw [← List.drop_drop, ← ih, parts_cut (rem p k)]
    have hl : ((parts p).drop k).length = (parts (rem p k)).length := by rw [ih]
    rw [parts_cut (rem p k)] at hl
    cases hm : (cutS (rem p k) 47).2.2 with
    | true => simp [rem]
    | false => rw [hm] at hl; simp at hl; omega
theorem parts_step (p : List UInt8) (k : Nat) (h : k < (parts p).length) : (parts p)[k]? = some (cutS (rem p k) 47).1 ∧ (cutS (rem p k) 47).2.2 = decide (k + 1 < (parts p).length) := by
  have h1 := parts_rem p k h
  rw [parts_cut] at h1
  have hl : ((parts p).drop k).length = (parts p).length - k := by simp
  constructor
  · have : ((parts p).drop k)[0]? = (parts p)[k]? := by simp
    rw [← this, ← h1]; simp
  · cases hm : (cutS (rem p k) 47).2.2 with
    | true =>
      have := congrArg List.length h1
      rw [hm] at this
      have h2 := parts_pos (cutS (rem p k) 47).2.1
      simp at this
      symm; rw [decide_eq_true_iff]; omega
    | false =>
      have := congrArg List.length h1
      rw [hm] at this
      simp at this
      symm; rw [decide_eq_false_iff_not]; omega
def odd (s : List UInt8) : Bool := decide (s = []) || decide (s = [46]) || decide (s = [46, 46])
/-- May a path be? -/
def pathMay (p : List UInt8) : Bool := (parts p).all (fun s => !odd s) && (decide ((p.length : Int) ≤ 300) && decide (indexByte p 0 < 0))
theorem pathMay_len {p : List UInt8} (h : pathMay p = true) : p.length ≤ 300 := by
  simp [pathMay] at h; omega
/-- A prefix, a name, and whether there are. -/
def split (p : List UInt8) : List UInt8 × List UInt8 × Bool :=
  if pathMay p = false then ([], [], false) else
  if p.length ≤ 100 then ([], p, true) else
  let i := indexByte (p.drop (p.length - 101)) 47
  if i < 0 ∨ (p.length : Int) - 101 + i > 155 then ([], [], false) else (p.take (p.length - 101 + i.toNat), p.drop (p.length - 101 + i.toNat + 1), true)
theorem split_no {p : List UInt8} (h : (!pathMay p) = true) : split p = ([], [], false) := by rw [split, if_pos (by simpa using h)]
theorem split_short {p : List UInt8} (h : (!pathMay p) = false) (h1 : (p.length : Int) ≤ 100) : split p = ([], p, true) := by rw [split, if_neg (by simpa using h), if_pos (by omega)]
theorem split_none {p : List UInt8} (h : (!pathMay p) = false) (h1 : ¬ (p.length : Int) ≤ 100) (h2 : indexByte (p.drop (p.length - 101)) 47 < 0 ∨ 155 < (p.length : Int) - 100 - 1 + indexByte (p.drop (p.length - 101)) 47) : split p = ([], [], false) := by
  rw [split, if_neg (by simpa using h), if_neg (by omega)]
  simp only
  rw [if_pos (by omega)]
theorem split_some {p : List UInt8} (h : (!pathMay p) = false) (h1 : ¬ (p.length : Int) ≤ 100) (h2 : ¬ indexByte (p.drop (p.length - 101)) 47 < 0) (h3 : ¬ 155 < (p.length : Int) - 100 - 1 + indexByte (p.drop (p.length - 101)) 47) :
    split p = (p.take (p.length - 101 + (indexByte (p.drop (p.length - 101)) 47).toNat), p.drop (p.length - 101 + (indexByte (p.drop (p.length - 101)) 47).toNat + 1), true) := by
  rw [split, if_neg (by simpa using h), if_neg (by omega)]
  simp only
  rw [if_neg (by omega)]
def join (a b : List UInt8) : List UInt8 := if a = [] then b else a ++ [47] ++ b
/-- A byte's last place. -/
def lastByte (s : List UInt8) (c : UInt8) : Nat → Int
  | 0 => -1
  | k + 1 => if s[k]? = some c then k else lastByte s c k
theorem lastByte_range (s : List UInt8) (c : UInt8) (k : Nat) : -1 ≤ lastByte s c k ∧ lastByte s c k < k := by
  induction k with
  | zero => simp [lastByte]
  | succ k ih => unfold lastByte; split <;> omega
theorem lastByte_hit {s : List UInt8} {c : UInt8} {k : Nat} {x : UInt8} (h0 : (0 : Int) ≤ (k : Int) - 1) (hx : s[k - 1]? = some x) (h : (x.toNat : Int) = (c.toNat : Int)) : lastByte s c k = ((k - 1 : Nat) : Int) := by
  obtain ⟨j, rfl⟩ : ∃ j, k = j + 1 := ⟨k - 1, by omega⟩
  have e : x = c := UInt8.toNat_inj.1 (by omega)
  subst e
  simp at hx
  simp [lastByte, hx]
theorem lastByte_miss {s : List UInt8} {c : UInt8} {k : Nat} {x : UInt8} (h0 : (0 : Int) ≤ (k : Int) - 1) (hx : s[k - 1]? = some x) (h : ¬ (x.toNat : Int) = (c.toNat : Int)) : lastByte s c k = lastByte s c (k - 1) := by
  obtain ⟨j, rfl⟩ : ∃ j, k = j + 1 := ⟨k - 1, by omega⟩
  have e : ¬ x = c := fun e => h (by rw [e])
  simp at hx
  simp [lastByte, hx, e]
def parent (p : List UInt8) : List UInt8 × Bool :=
  let i := lastByte p 47 p.length
  if i < 0 ∨ pathMay p = false then ([], false) else (p.take i.toNat, true)
theorem parent_none {p : List UInt8} (h : lastByte p 47 p.length < 0 ∨ (!pathMay p) = true) : parent p = ([], false) := by
  unfold parent; simp only; rw [if_pos (by simpa using h)]
theorem parent_some {p : List UInt8} (h : ¬ lastByte p 47 p.length < 0) (h2 : (!pathMay p) = false) : parent p = (p.take (lastByte p 47 p.length).toNat, true) := by
  unfold parent; simp only; rw [if_neg (by simp at h h2; simp [h2]; omega)]
end Go.Proofs.Ytpgeogdmjgmimaa.Pl
