/-
  Plain functions of layer 1: numbers in fields. No program in sight.
-/
import Derived.Test.YtpgeogdmjgmimaaK2
set_option linter.unusedVariables false
set_option linter.unusedSimpArgs false
namespace Go.Proofs.Ytpgeogdmjgmimaa.Pl
def width (w : Int) : Bool := decide (2 ≤ w) && decide (w ≤ 20)
def many (n : Int) : Int := if n < 1 then 0 else (n - 1) / 512 + 1
def inR (n most : Int) : Bool := decide (0 ≤ n) && decide (n ≤ most)
def inB (n lo hi : Int) : Bool := decide (lo ≤ n) && decide (n ≤ hi)

/-- Octal digits: so many, the last ones. -/
def octD : Nat → Int → List UInt8
  | 0, _ => []
  | d + 1, n => octD d (n / 8) ++ [UInt8.ofNat (48 + (n % 8).toNat)]
theorem octD_length (d : Nat) (n : Int) : (octD d n).length = d := by
  induction d generalizing n with
  | zero => rfl
  | succ d ih => simp [octD, ih]
def octal (n d : Int) : Option (List UInt8) :=
  if n < 0 ∨ d < 1 ∨ 20 < d then none else if 0 < n / 8 ^ d.toNat then none else some (octD d.toNat n)
def dg8 (n : Int) : UInt8 := UInt8.ofNat (48 + (n % 8).toNat)
theorem octD_succ (d : Nat) (n : Int) : octD (d + 1) n = octD d (n / 8) ++ [dg8 n] := rfl
theorem octD_cons (d : Nat) (n : Int) : octD (d + 1) n = dg8 (n / 8 ^ d) :: octD d n := by
  induction d generalizing n with
  | zero => simp [octD, dg8]
  | succ d ih =>
    rw [octD_succ, ih]
    rw [List.cons_append, octD_succ d n]
    congr 2
    rw [Int.ediv_ediv_of_nonneg (by omega)]
    congr 1
    rw [Int.pow_succ, Int.mul_comm]
theorem pow8_pos (k : Nat) : (0 : Int) < 8 ^ k := Int.pow_pos (by omega)
theorem div8_range (n : Int) (k : Nat) (h0 : 0 ≤ n) (h1 : n ≤ 9223372036854775807) : 0 ≤ n / 8 ^ k ∧ n / 8 ^ k ≤ 9223372036854775807 :=
  ⟨Int.ediv_nonneg h0 (Int.le_of_lt (pow8_pos k)), Int.le_trans (Int.ediv_le_self _ h0) h1⟩
theorem div8_succ (n : Int) (k : Nat) : n / 8 ^ k / 8 = n / 8 ^ (k + 1) := by
  rw [Int.ediv_ediv_of_nonneg (Int.le_of_lt (pow8_pos k)), Int.pow_succ]
/-- A number's bytes: so many, the last ones. -/
def byD : Nat → Int → List UInt8
  | 0, _ => []
  | d + 1, n => byD d (n / 256) ++ [UInt8.ofNat (n % 256).toNat]
def by8 (n : Int) : UInt8 := UInt8.ofNat (n % 256).toNat
theorem byD_succ (d : Nat) (n : Int) : byD (d + 1) n = byD d (n / 256) ++ [by8 n] := rfl
theorem byD_length (d : Nat) (n : Int) : (byD d n).length = d := by
  induction d generalizing n with
  | zero => rfl
  | succ d ih => simp [byD, ih]
theorem byD_cons (d : Nat) (n : Int) : byD (d + 1) n = by8 (n / 256 ^ d) :: byD d n := by
  induction d generalizing n with
  | zero => simp [byD, by8]
  | succ d ih =>
    rw [byD_succ, ih]
    rw [List.cons_append, byD_succ d n]
    congr 2
    rw [Int.ediv_ediv_of_nonneg (by omega)]
    congr 1
    rw [Int.pow_succ, Int.mul_comm]
theorem pow256_pos (k : Nat) : (0 : Int) < 256 ^ k := Int.pow_pos (by omega)
theorem div256_range (n : Int) (k : Nat) (h0 : 0 ≤ n) (h1 : n ≤ 9223372036854775807) : 0 ≤ n / 256 ^ k ∧ n / 256 ^ k ≤ 9223372036854775807 :=
  ⟨Int.ediv_nonneg h0 (Int.le_of_lt (pow256_pos k)), Int.le_trans (Int.ediv_le_self _ h0) h1⟩
theorem div256_succ (n : Int) (k : Nat) : n / 256 ^ k / 256 = n / 256 ^ (k + 1) := by
  rw [Int.ediv_ediv_of_nonneg (Int.le_of_lt (pow256_pos k)), Int.pow_succ]
/-- A number's field. -/
def putN (n wide : Int) : Option (List UInt8) :=
  if n < 0 ∨ width wide = false then none else
  match octal n (wide - 1) with
  | some s => some (s ++ [0])
  | none => if 0 < n / 256 ^ (wide - 1).toNat then none else some (128 :: byD (wide - 1).toNat n)
theorem octal_length {n d : Int} {s : List UInt8} (h : octal n d = some s) : s.length = d.toNat := by
  unfold octal at h
  split at h
  · cases h
  · split at h
    · cases h
    · cases h; exact octD_length _ _
theorem width_range {w : Int} (h : width w = true) : 2 ≤ w ∧ w ≤ 20 := by
  simpa [width] using h
/-- A field's number, as far as it is read. -/
def getStep (base n : Int) (x : UInt8) : Option Int :=
  if (36028797018963968 ≤ n ∧ base = 256) ∨ 1152921504606846976 ≤ n then none
  else some (Go.IntKind.i64.wrap (Go.IntKind.i64.wrap (n * base) + if base = 8 then Go.IntKind.u8.wrap ((x.toNat : Int) - 48) else (x.toNat : Int)))
def getRun (base : Int) : List UInt8 → Int → Option Int
  | [], n => some n
  | c :: l, n => match getStep base n c with | none => none | some m => getRun base l m
def getRaw (b : List UInt8) : Option Int := if b[0]? = some 128 then getRun 256 ((b.take b.length).drop 1) 0 else getRun 8 ((b.take (b.length - 1)).drop 0) 0
def getN (b : List UInt8) : Option Int :=
  if width b.length = false then none else
  match getRaw b with
  | none => none
  | some n => if putN n b.length = some b then some n else none
theorem getRun_next {base m m' : Int} {xs : List UInt8} {k : Nat} {x : UInt8} (hx : xs[k]? = some x) (h : getStep base m x = some m') : getRun base (xs.drop k) m = getRun base (xs.drop (k + 1)) m' := by
  obtain ⟨hk, e⟩ := List.getElem?_eq_some_iff.1 hx
  rw [List.drop_eq_getElem_cons hk, e]
  simp [getRun, h]
theorem getRun_stop {base m : Int} {xs : List UInt8} {k : Nat} {x : UInt8} (hx : xs[k]? = some x) (h : getStep base m x = none) : getRun base (xs.drop k) m = none := by
  obtain ⟨hk, e⟩ := List.getElem?_eq_some_iff.1 hx
  rw [List.drop_eq_getElem_cons hk, e]
  simp [getRun, h]
theorem getRun_end {base m : Int} {xs : List UInt8} {k : Nat} (hk : xs.length ≤ k) : getRun base (xs.drop k) m = some m := by
  rw [List.drop_eq_nil_of_le hk]; rfl
theorem wrap_range (z : Int) : -9223372036854775808 ≤ Go.IntKind.i64.wrap z ∧ Go.IntKind.i64.wrap z ≤ 9223372036854775807 := by
  rw [Go.IntKind.wrap_i64]; omega
theorem wrapu8_range (z : Int) : 0 ≤ Go.IntKind.u8.wrap z ∧ Go.IntKind.u8.wrap z ≤ 255 := by
  have : Go.IntKind.u8.wrap z = z % 256 := by simp [Go.IntKind.wrap, Go.IntKind.bits, Go.IntKind.signed]
  rw [this]; omega
end Go.Proofs.Ytpgeogdmjgmimaa.Pl
