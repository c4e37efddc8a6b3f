/-
  Plain: parts of a page that is written in places. No program in sight.
-/
import Derived.Test.YtpgeogdmjgmimaaPLong
set_option linter.unusedVariables false
set_option linter.unusedSimpArgs false
namespace Go.Proofs.Ytpgeogdmjgmimaa.Pl
open Go.Lib

def seg (p : List UInt8) (a m : Nat) : List UInt8 := (p.take (a + m)).drop a
theorem seg_get (p : List UInt8) (a m i : Nat) : (seg p a m)[i]? = if i < m then p[a + i]? else none := by
  unfold seg
  rw [List.getElem?_drop, List.getElem?_take]
  by_cases h : i < m
  · rw [if_pos h, if_pos (by omega)]
  · rw [if_neg h, if_neg (by omega)]
theorem wr_get {p x : List UInt8} {i : Nat} (hi : i + x.length ≤ p.length) (j : Nat) : (wr p i x)[j]? = if i ≤ j ∧ j < i + x.length then x[j - i]? else p[j]? := by
  unfold wr
  by_cases h1 : j < i
  · rw [if_neg (by omega), List.append_assoc, List.getElem?_append_left (by simp; omega), List.getElem?_take, if_pos h1]
  · by_cases h2 : j < i + x.length
    · rw [if_pos (by omega), List.append_assoc, List.getElem?_append_right (by simp; omega), List.length_take, Nat.min_eq_left (by omega), List.getElem?_append_left (by omega)]
    · rw [if_neg (by omega), List.getElem?_append_right (by simp; omega), List.length_append, List.length_take, Nat.min_eq_left (by omega), List.getElem?_drop]
      congr 1; omega
theorem seg_ne {p x : List UInt8} {i a m : Nat} (hi : i + x.length ≤ p.length) (h : a + m ≤ i ∨ i + x.length ≤ a) : seg (wr p i x) a m = seg p a m := by
  apply List.ext_getElem?
  intro j
  rw [seg_get, seg_get]
  by_cases hj : j < m
  · rw [if_pos hj, if_pos hj, wr_get hi, if_neg (by omega)]
  · rw [if_neg hj, if_neg hj]
theorem seg_eq {p x : List UInt8} {i m : Nat} (hi : i + x.length ≤ p.length) (h : x.length ≤ m) : seg (wr p i x) i m = x ++ seg p (i + x.length) (m - x.length) := by
  apply List.ext_getElem?
  intro j
  rw [seg_get]
  by_cases hj : j < x.length
  · rw [List.getElem?_append_left hj, if_pos (by omega), wr_get hi, if_pos (by omega)]
    congr 1; omega
  · rw [List.getElem?_append_right (by omega), seg_get]
    by_cases hm : j < m
    · rw [if_pos hm, if_pos (by omega), wr_get hi, if_neg (by omega)]
      congr 1; omega
    · rw [if_neg hm, if_neg (by omega)]
theorem seg_full {p x : List UInt8} {i m : Nat} (hi : i + x.length ≤ p.length) (h : x.length = m) : seg (wr p i x) i m = x := by
  rw [seg_eq hi (by omega), show m - x.length = 0 by omega]
  have : seg p (i + x.length) 0 = [] := by unfold seg; simp
  rw [this, List.append_nil]
theorem seg_zero {a m : Nat} (h : a + m ≤ 512) : seg (List.replicate 512 0) a m = List.replicate m 0 := by
  apply List.ext_getElem?
  intro j
  rw [seg_get]
  simp only [List.getElem?_replicate]
  by_cases hj : j < m
  · rw [if_pos hj, if_pos (by omega), if_pos hj]
  · rw [if_neg hj, if_neg hj]
/-- A text with noughts behind it, cut at the first nought. -/
theorem cutS_pad {s : List UInt8} (h : indexByte s 0 < 0) (m : Nat) : (cutS (s ++ List.replicate m 0) 0).1 = s := by
  induction s with
  | nil =>
    cases m with
    | zero => rfl
    | succ m => rw [List.nil_append, List.replicate_succ, cutS_cons]; simp
  | cons c s ih =>
    rw [indexByte_none] at h
    simp only [List.mem_cons, not_or] at h
    rw [List.cons_append, cutS_cons, if_neg (fun e => h.1 e.symm), ih ((indexByte_none _ _).2 h.2)]
end Go.Proofs.Ytpgeogdmjgmimaa.Pl
