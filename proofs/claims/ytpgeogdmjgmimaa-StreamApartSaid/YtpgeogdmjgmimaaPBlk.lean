/-
  Plain functions of layer 3: blocks. No program in sight.
-/
import Derived.Test.YtpgeogdmjgmimaaPPath
set_option linter.unusedVariables false
set_option linter.unusedSimpArgs false
namespace Go.Proofs.Ytpgeogdmjgmimaa.Pl

def zeroB (b : List UInt8) : Bool := b.all (fun c => decide (c = 0))
def mayB (l : List (List UInt8)) : Bool := l.all (fun r => decide (r.length = 512))
def sameB (a b : List (List UInt8)) : Bool := decide (a = b)
/-- How many pieces a text has. -/
def nch (n : Nat) : Nat := (n + 511) / 512
def chunk (s : List UInt8) (k : Nat) : List UInt8 := (s.drop (512 * k)).take 512
def chunks (s : List UInt8) : List (List UInt8) := (List.range (nch s.length)).map (chunk s)
def pad (x : List UInt8) : List UInt8 := x ++ List.replicate (512 - x.length) 0
def cutB (s : List UInt8) : List (List UInt8) := (chunks s).map pad
def textB (l : List (List UInt8)) (n : Int) : Option (List UInt8) :=
  if n < 0 ∨ mayB l = false ∨ many n ≠ l.length then none else some (l.flatten.take n.toNat)
def zerosB (n : Int) : List (List UInt8) := if n < 1 ∨ 400 < n then [] else List.replicate n.toNat (List.replicate 512 0)
theorem chunks_length (s : List UInt8) : (chunks s).length = nch s.length := by simp [chunks]
theorem chunks_get (s : List UInt8) (k : Nat) (h : k < nch s.length) : (chunks s)[k]? = some (chunk s k) := by
  simp [chunks, h]
theorem chunk_min (s : List UInt8) (k : Nat) : chunk s k = (s.drop (512 * k)).take (min (s.drop (512 * k)).length 512) := by
  unfold chunk
  by_cases h : (s.drop (512 * k)).length ≤ 512
  · rw [Nat.min_eq_left h, List.take_of_length_le h, List.take_of_length_le (Nat.le_refl _)]
  · rw [Nat.min_eq_right (by omega)]
theorem chunk_next (s : List UInt8) (k : Nat) : (s.drop (512 * k)).drop (min (s.drop (512 * k)).length 512) = s.drop (512 * (k + 1)) := by
  rw [List.drop_drop]
  by_cases h : (s.drop (512 * k)).length ≤ 512
  · rw [Nat.min_eq_left h]
    rw [List.length_drop] at *
    rw [List.drop_of_length_le (by omega), List.drop_of_length_le (by omega)]
  · rw [Nat.min_eq_right (by omega)]
    congr 1
theorem nch_lt {n k : Nat} (h : 512 * k < n) : k < nch n := by unfold nch; omega
theorem nch_ge {n k : Nat} (h : n ≤ 512 * k) : nch n ≤ k := by unfold nch; omega
theorem chunk_len {s x : List UInt8} {k : Nat} (h : (chunks s)[k]? = some x) : x.length ≤ 512 := by
  have hk : k < nch s.length := by rw [← chunks_length]; exact (List.getElem?_eq_some_iff.1 h).1
  rw [chunks_get s k hk] at h
  cases h; simp [chunk]; omega
theorem pad_len {x : List UInt8} (h : x.length ≤ 512) : (pad x).length = 512 := by simp [pad]; omega
theorem flatten_take_le (l : List (List UInt8)) (k : Nat) : (l.take k).flatten.length ≤ l.flatten.length := by
  have : l.flatten = (l.take k).flatten ++ (l.drop k).flatten := by rw [← List.flatten_append, List.take_append_drop]
  rw [this]; simp
theorem flatten_next {l : List (List UInt8)} {k : Nat} {x : List UInt8} (h : l[k]? = some x) : (l.take (k + 1)).flatten = (l.take k).flatten ++ x := by
  rw [List.take_add_one, h]; simp
theorem mayB_len {l : List (List UInt8)} (h : mayB l = true) : l.flatten.length = 512 * l.length := by
  induction l with
  | nil => rfl
  | cons x l ih =>
    simp [mayB] at h ih ⊢
    rw [h.1, ih h.2]; omega
theorem many_le {n : Int} {m : Nat} (h0 : 0 ≤ n) (h : many n = m) : n ≤ 512 * m := by
  unfold many at h; split at h <;> omega
theorem map_next {α β : Type} {l : List α} {k : Nat} {x : α} (f : α → β) (h : l[k]? = some x) : (l.take (k + 1)).map f = (l.take k).map f ++ [f x] := by
  rw [List.take_add_one, h]; simp
end Go.Proofs.Ytpgeogdmjgmimaa.Pl
