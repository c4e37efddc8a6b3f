/-
  Plain: a number that is put in a field is got again. No program in sight.
-/
import Derived.Test.YtpgeogdmjgmimaaPSeg
set_option linter.unusedVariables false
set_option linter.unusedSimpArgs false
namespace Go.Proofs.Ytpgeogdmjgmimaa.Pl
open Go.Lib

theorem emod_split (n p b : Int) (hp : 0 < p) (hb : 0 < b) : n % (p * b) = (n / p % b) * p + n % p := by
  have h1 : n / p / b = n / (p * b) := Int.ediv_ediv_of_nonneg (by omega)
  have h2 := Int.mul_ediv_add_emod n (p * b)
  have h3 := Int.mul_ediv_add_emod n p
  have h4 := Int.mul_ediv_add_emod (n / p) b
  rw [h1] at h4
  have h5 : p * (n / p) = p * (b * (n / (p * b)) + n / p % b) := by rw [h4]
  rw [Int.mul_add, ← Int.mul_assoc] at h5
  rw [Int.mul_comm (n / p % b) p]
  omega
theorem wrap64 {z : Int} (h : -9223372036854775808 ≤ z ∧ z ≤ 9223372036854775807) : Go.IntKind.i64.wrap z = z := K.wrap_i64 h
theorem wrap8 {z : Int} (h : 0 ≤ z ∧ z ≤ 255) : Go.IntKind.u8.wrap z = z := by
  have : Go.IntKind.u8.wrap z = z % 256 := by simp [Go.IntKind.wrap, Go.IntKind.bits, Go.IntKind.signed]
  rw [this]; omega
theorem dg8_nat (n : Int) : ((dg8 n).toNat : Int) = 48 + n % 8 := by
  have h1 : 0 ≤ n % 8 := Int.emod_nonneg _ (by omega)
  have h2 : n % 8 < 8 := Int.emod_lt_of_pos _ (by omega)
  unfold dg8
  rw [UInt8.toNat_ofNat', Nat.mod_eq_of_lt (by omega)]
  omega
theorem by8_nat (n : Int) : ((by8 n).toNat : Int) = n % 256 := by
  have h1 : 0 ≤ n % 256 := Int.emod_nonneg _ (by omega)
  have h2 : n % 256 < 256 := Int.emod_lt_of_pos _ (by omega)
  unfold by8
  rw [UInt8.toNat_ofNat', Nat.mod_eq_of_lt (by omega)]
  omega
theorem run8 (d : Nat) : ∀ (n acc : Int), 0 ≤ acc → acc * 8 ^ d + n % 8 ^ d ≤ 9223372036854775807 → getRun 8 (octD d n) acc = some (acc * 8 ^ d + n % 8 ^ d) := by
  induction d with
  | zero => intro n acc h0 h1; simp [octD, getRun, Int.emod_one]
  | succ d ih =>
    intro n acc h0 h1
    have hp := pow8_pos d
    have h8 : (0 : Int) ≤ n / 8 ^ d % 8 := Int.emod_nonneg _ (by omega)
    have h9 : n / 8 ^ d % 8 < 8 := Int.emod_lt_of_pos _ (by omega)
    have hm : 0 ≤ n % 8 ^ d := Int.emod_nonneg _ (by omega)
    have es : n % 8 ^ (d + 1) = (n / 8 ^ d % 8) * 8 ^ d + n % 8 ^ d := by rw [Int.pow_succ]; exact emod_split n _ 8 hp (by omega)
    have ea : acc * 8 ^ (d + 1) = acc * 8 * 8 ^ d := by rw [Int.pow_succ, Int.mul_comm (8 ^ d) 8, Int.mul_assoc]
    have e2 : acc * 8 ^ (d + 1) + n % 8 ^ (d + 1) = (acc * 8 + n / 8 ^ d % 8) * 8 ^ d + n % 8 ^ d := by rw [es, ea, Int.add_mul]; omega
    have hle : acc * 8 + n / 8 ^ d % 8 ≤ (acc * 8 + n / 8 ^ d % 8) * 8 ^ d := by
      have := Int.mul_le_mul_of_nonneg_left (show (1 : Int) ≤ 8 ^ d by omega) (show 0 ≤ acc * 8 + n / 8 ^ d % 8 by omega)
      omega
    rw [e2] at h1
    have hstep : getStep 8 acc (dg8 (n / 8 ^ d)) = some (acc * 8 + n / 8 ^ d % 8) := by
      unfold getStep
      rw [if_neg (by omega), if_pos rfl, dg8_nat, wrap8 (by omega), wrap64 (z := acc * 8) (by omega)]
      rw [wrap64 (by omega)]
      congr 1; omega
    rw [octD_cons]
    unfold getRun
    rw [hstep]
    simp only
    rw [ih n _ (by omega) h1, e2]
theorem run256 (d : Nat) : ∀ (n acc : Int), 0 ≤ acc → acc * 256 ^ d + n % 256 ^ d ≤ 9223372036854775807 → getRun 256 (byD d n) acc = some (acc * 256 ^ d + n % 256 ^ d) := by
  induction d with
  | zero => intro n acc h0 h1; simp [byD, getRun, Int.emod_one]
  | succ d ih =>
    intro n acc h0 h1
    have hp := pow256_pos d
    have h8 : (0 : Int) ≤ n / 256 ^ d % 256 := Int.emod_nonneg _ (by omega)
    have h9 : n / 256 ^ d % 256 < 256 := Int.emod_lt_of_pos _ (by omega)
    have hm : 0 ≤ n % 256 ^ d := Int.emod_nonneg _ (by omega)
    have es : n % 256 ^ (d + 1) = (n / 256 ^ d % 256) * 256 ^ d + n % 256 ^ d := by rw [Int.pow_succ]; exact emod_split n _ 256 hp (by omega)
    have ea : acc * 256 ^ (d + 1) = acc * 256 * 256 ^ d := by rw [Int.pow_succ, Int.mul_comm (256 ^ d) 256, Int.mul_assoc]
    have e2 : acc * 256 ^ (d + 1) + n % 256 ^ (d + 1) = (acc * 256 + n / 256 ^ d % 256) * 256 ^ d + n % 256 ^ d := by rw [es, ea, Int.add_mul]; omega
    have hle : acc * 256 + n / 256 ^ d % 256 ≤ (acc * 256 + n / 256 ^ d % 256) * 256 ^ d := by
      have := Int.mul_le_mul_of_nonneg_left (show (1 : Int) ≤ 256 ^ d by omega) (show 0 ≤ acc * 256 + n / 256 ^ d % 256 by omega)
      omega
    rw [e2] at h1
    have hstep : getStep 256 acc (by8 (n / 256 ^ d)) = some (acc * 256 + n / 256 ^ d % 256) := by
      unfold getStep
      rw [if_neg (by omega), if_neg (by omega), by8_nat, wrap64 (z := acc * 256) (by omega)]
      rw [wrap64 (by omega)]
    rw [byD_cons]
    unfold getRun
    rw [hstep]
    simp only
    rw [ih n _ (by omega) h1, e2]
theorem putN_length {n w : Int} {s : List UInt8} (h : putN n w = some s) : (s.length : Int) = w ∧ 2 ≤ w ∧ w ≤ 20 := by
  unfold putN at h
  split at h
  · cases h
  · rename_i hc
    have hw : width w = true := by
      cases hb : width w with
      | true => rfl
      | false => exact absurd (.inr hb) hc
    have hr := width_range hw
    split at h
    · rename_i s' hs
      cases h
      have := octal_length hs
      simp [this]; omega
    · split at h
      · cases h
      · cases h
        simp [byD_length]; omega
theorem getN_putN {n w : Int} {s : List UInt8} (hn : n ≤ 9223372036854775807) (h : putN n w = some s) : getN s = some n := by
  have hl := putN_length h
  have hwd : width (s.length : Int) = true := by simp [width]; omega
  have key : getRaw s = some n := by
    have h' := h
    unfold putN at h'
    split at h'
    · cases h'
    · rename_i hc
      have hn0 : 0 ≤ n := by omega
      split at h'
      · rename_i d hd
        cases h'
        unfold octal at hd
        split at hd
        · cases hd
        · rename_i hc2
          split at hd
          · cases hd
          · rename_i hc3
            cases hd
            obtain ⟨q, hq⟩ : ∃ q, (w - 1).toNat = q + 1 := ⟨(w - 1).toNat - 1, by omega⟩
            have hlt : n < 8 ^ (w - 1).toNat := by
              have := Int.lt_ediv_add_one_mul_self n (pow8_pos (w - 1).toNat)
              have h0 : n / 8 ^ (w - 1).toNat = 0 := by have := Int.ediv_nonneg hn0 (Int.le_of_lt (pow8_pos (w - 1).toNat)); omega
              rw [h0] at this; omega
            have hmod : n % 8 ^ (w - 1).toNat = n := Int.emod_eq_of_lt hn0 hlt
            have hfst : (octD (w - 1).toNat n ++ [0])[0]? = some (dg8 (n / 8 ^ q)) := by rw [hq, octD_cons]; rfl
            have hne : ¬ (octD (w - 1).toNat n ++ [0])[0]? = some 128 := by
              rw [hfst]
              intro e
              have e : dg8 (n / 8 ^ q) = 128 := by simpa using e
              have h1 := dg8_nat (n / 8 ^ q)
              rw [e] at h1
              have h2 : n / 8 ^ q % 8 < 8 := Int.emod_lt_of_pos _ (by omega)
              have h3 : ((128 : UInt8).toNat : Int) = 128 := rfl
              omega
            unfold getRaw
            rw [if_neg hne]
            have et : ((octD (w - 1).toNat n ++ [0]).take ((octD (w - 1).toNat n ++ [(0 : UInt8)]).length - 1)).drop 0 = octD (w - 1).toNat n := by
              rw [List.drop_zero, List.length_append]
              simp
            rw [et, run8 _ n 0 (by omega) (by rw [hmod]; omega), hmod]
            simp
      · split at h'
        · cases h'
        · rename_i hc3
          cases h'
          have hlt : n < 256 ^ (w - 1).toNat := by
            have := Int.lt_ediv_add_one_mul_self n (pow256_pos (w - 1).toNat)
            have h0 : n / 256 ^ (w - 1).toNat = 0 := by have := Int.ediv_nonneg hn0 (Int.le_of_lt (pow256_pos (w - 1).toNat)); omega
            rw [h0] at this; omega
          have hmod : n % 256 ^ (w - 1).toNat = n := Int.emod_eq_of_lt hn0 hlt
          unfold getRaw
          rw [if_pos (show (128 :: byD (w - 1).toNat n)[0]? = some 128 from rfl)]
          have et : ((128 :: byD (w - 1).toNat n).take (128 :: byD (w - 1).toNat n : List UInt8).length).drop 1 = byD (w - 1).toNat n := by
            rw [List.take_length]; rfl
          rw [et, run256 _ n 0 (by omega) (by rw [hmod]; omega), hmod]
          simp
  unfold getN
  rw [if_neg (by rw [hwd]; simp), key]
  simp only
  rw [hl.1, if_pos h]
end Go.Proofs.Ytpgeogdmjgmimaa.Pl
