/-
  Plain: parts of a page that is written in places. No program in sight.
-/
import Derived.Test.YtpgeogdmjgmimaaPLong
import Derived.Test.YtpgeogdmjgmimaaW12
import Derived.Test.YtpgeogdmjgmimaaW13
set_option linter.unusedVariables false
set_option linter.unusedSimpArgs false
set_option maxRecDepth 4000
namespace Go.Proofs.Ytpgeogdmjgmimaa.Pl
open Go.Lib

def seg (p : List UInt8) (a m : Nat) : List UInt8 := (p.take (a + m)).drop a
theorem seg_get (p : List UInt8) (a m i : Nat) : (seg p a m)[i]? = if i < m then p[a + i]? else none := by
  unfold seg
  rw [List.getElem?_drop, List.getElem?_take]
  by_cases h : i < m
  · rw [if_pos h, if_pos (by omega)]
  · rw [if_neg h, if_neg (by omega)]
theorem wr_get {p x : List UInt8} {i : Nat} (hi : i + x.length ≤ p.length) (j : Nat) : (wr p i x)[j]? = if i ≤ j ∧ j < i + x.length then x[j - i]? else p[j]? := by
  unfold wr
  by_cases h1 : j < i
  · rw [if_neg (by omega), List.append_assoc, List.getElem?_append_left (by simp; omega), List.getElem?_take, if_pos h1]
  · by_cases h2 : j < i + x.length
    · rw [if_pos (by omega), List.append_assoc, List.getElem?_append_right (by simp; omega), List.length_take, Nat.min_eq_left (by omega), List.getElem?_append_left (by omega)]
    · rw [if_neg (by omega), List.getElem?_append_right (by simp; omega), List.length_append, List.length_take, Nat.min_eq_left (by omega), List.getElem?_drop]
      congr 1; omega
theorem seg_ne {p x : List UInt8} {i a m : Nat} (hi : i + x.length ≤ p.length) (h : a + m ≤ i ∨ i + x.length ≤ a) : seg (wr p i x) a m = seg p a m := by
  apply List.ext_getElem?
  intro j
  rw [seg_get, seg_get]
  by_cases hj : j < m
  · rw [if_pos hj, if_pos hj, wr_get hi, if_neg (by omega)]
  · rw [if_neg hj, if_neg hj]
theorem seg_eq {p x : List UInt8} {i m : Nat} (hi : i + x.length ≤ p.length) (h : x.length ≤ m) : seg (wr p i x) i m = x ++ seg p (i + x.length) (m - x.length) := by
  apply List.ext_getElem?
  intro j
  rw [seg_get]
  by_cases hj : j < x.length
  · rw [List.getElem?_append_left hj, if_pos (by omega), wr_get hi, if_pos (by omega)]
    congr 1; omega
  · rw [List.getElem?_append_right (by omega), seg_get]
    by_cases hm : j < m
    · rw [if_pos hm, if_pos (by omega), wr_get hi, if_neg (by omega)]
      congr 1; omega
    · rw [if_neg hm, if_neg (by omega)]
theorem seg_full {p x : List UInt8} {i m : Nat} (hi : i + x.length ≤ p.length) (h : x.length = m) : seg (wr p i x) i m = x := by
  rw [seg_eq hi (by omega), show m - x.length = 0 by omega]
  have : seg p (i + x.length) 0 = [] := by unfold seg; simp
  rw [this, List.append_nil]
theorem seg_zero {a m : Nat} (h : a + m ≤ 512) : seg (List.replicate 512 0) a m = List.replicate m 0 := by
  apply List.ext_getElem?
  intro j
  rw [seg_get]
  simp only [List.getElem?_replicate]
  by_cases hj : j < m
  · rw [if_pos hj, if_pos (by omega), if_pos hj]
  · rw [if_neg hj, if_neg hj]
/-- A text with noughts behind it, cut at the first nought. -/
theorem cutS_pad {s : List UInt8} (h : indexByte s 0 < 0) (m : Nat) : (cutS (s ++ List.replicate m 0) 0).1 = s := by
  induction s with
  | nil =>
    cases m with
    | zero => rfl
    | succ m => rw [List.nil_append, List.replicate_succ, cutS_cons]; simp
  | cons c s ih =>
    rw [indexByte_none] at h
    simp only [List.mem_cons, not_or] at h
    rw [List.cons_append, cutS_cons, if_neg (fun e => h.1 e.symm), ih ((indexByte_none _ _).2 h.2)]
end Go.Proofs.Ytpgeogdmjgmimaa.Pl
namespace Go.Proofs.Ytpgeogdmjgmimaa.Pl
open Go.Lib

theorem emod_split (n p b : Int) (hp : 0 < p) (hb : 0 < b) : n % (p * b) = (n / p % b) * p + n % p := by
  have h1 : n / p / b = n / (p * b) := Int.ediv_ediv_of_nonneg (by omega)
  have h2 := Int.mul_ediv_add_emod n (p * b)
  have h3 := Int.mul_ediv_add_emod n p
  have h4 := Int.mul_ediv_add_emod (n / p) b
  rw [h1] at h4
  have h5 : p * (n / p) = p * (b * (n / (p * b)) + n / p % b) := by rw [h4]
  rw [Int.mul_add, ← Int.mul_assoc] at h5
  rw [Int.mul_comm (n / p % b) p]
  omega
theorem wrap64 {z : Int} (h : -9223372036854775808 ≤ z ∧ z ≤ 9223372036854775807) : Go.IntKind.i64.wrap z = z := K.wrap_i64 h
theorem wrap8 {z : Int} (h : 0 ≤ z ∧ z ≤ 255) : Go.IntKind.u8.wrap z = z := by
  have : Go.IntKind.u8.wrap z = z % 256 := by simp [Go.IntKind.wrap, Go.IntKind.bits, Go.IntKind.signed]
  rw [this]; omega
theorem dg8_nat (n : Int) : ((dg8 n).toNat : Int) = 48 + n % 8 := by
  have h1 : 0 ≤ n % 8 := Int.emod_nonneg _ (by omega)
  have h2 : n % 8 < 8 := Int.emod_lt_of_pos _ (by omega)
  unfold dg8
  rw [UInt8.toNat_ofNat', Nat.mod_eq_of_lt (by omega)]
  omega
theorem by8_nat (n : Int) : ((by8 n).toNat : Int) = n % 256 := by
  have h1 : 0 ≤ n % 256 := Int.emod_nonneg _ (by omega)
  have h2 : n % 256 < 256 := Int.emod_lt_of_pos _ (by omega)
  unfold by8
  rw [UInt8.toNat_ofNat', Nat.mod_eq_of_lt (by omega)]
  omega
theorem run8 (d : Nat) : ∀ (n acc : Int), 0 ≤ acc → acc * 8 ^ d + n % 8 ^ d ≤ 9223372036854775807 → getRun 8 (octD d n) acc = some (acc * 8 ^ d + n % 8 ^ d) := by
  induction d with
  | zero => intro n acc h0 h1; simp [octD, getRun, Int.emod_one]
  | succ d ih =>
    intro n acc h0 h1
    have hp := pow8_pos d
    have h8 : (0 : Int) ≤ n / 8 ^ d % 8 := Int.emod_nonneg _ (by omega)
    have h9 : n / 8 ^ d % 8 < 8 := Int.emod_lt_of_pos _ (by omega)
    have hm : 0 ≤ n % 8 ^ d := Int.emod_nonneg _ (by omega)
    have es : n % 8 ^ (d + 1) = (n / 8 ^ d % 8) * 8 ^ d + n % 8 ^ d := by rw [Int.pow_succ]; exact emod_split n _ 8 hp (by omega)
    have ea : acc * 8 ^ (d + 1) = acc * 8 * 8 ^ d := by rw [Int.pow_succ, Int.mul_comm (8 ^ d) 8, Int.mul_assoc]
    have e2 : acc * 8 ^ (d + 1) + n % 8 ^ (d + 1) = (acc * 8 + n / 8 ^ d % 8) * 8 ^ d + n % 8 ^ d := by rw [es, ea, Int.add_mul]; omega
    have hle : acc * 8 + n / 8 ^ d % 8 ≤ (acc * 8 + n / 8 ^ d % 8) * 8 ^ d := by
      have := Int.mul_le_mul_of_nonneg_left (show (1 : Int) ≤ 8 ^ d by omega) (show 0 ≤ acc * 8 + n / 8 ^ d % 8 by omega)
      omega
    rw [e2] at h1
    have hstep : getStep 8 acc (dg8 (n / 8 ^ d)) = some (acc * 8 + n / 8 ^ d % 8) := by
      unfold getStep
      rw [if_neg (by omega), if_pos rfl, dg8_nat, wrap8 (by omega), wrap64 (z := acc * 8) (by omega)]
      rw [wrap64 (by omega)]
      congr 1; omega
    rw [octD_cons]
    unfold getRun
    rw [hstep]
    simp only
    rw [ih n _ (by omega) h1, e2]
theorem run256 (d : Nat) : ∀ (n acc : Int), 0 ≤ acc → acc * 256 ^ d + n % 256 ^ d ≤ 9223372036854775807 → getRun 256 (byD d n) acc = some (acc * 256 ^ d + n % 256 ^ d) := by
  induction d with
  | zero => intro n acc h0 h1; simp [byD, getRun, Int.emod_one]
  | succ d ih =>
    intro n acc h0 h1
    have hp := pow256_pos d
    have h8 : (0 : Int) ≤ n / 256 ^ d % 256 := Int.emod_nonneg _ (by omega)
    have h9 : n / 256 ^ d % 256 < 256 := Int.emod_lt_of_pos _ (by omega)
    have hm : 0 ≤ n % 256 ^ d := Int.emod_nonneg _ (by omega)
    have es : n % 256 ^ (d + 1) = (n / 256 ^ d % 256) * 256 ^ d + n % 256 ^ d := by rw [Int.pow_succ]; exact emod_split n _ 256 hp (by omega)
    have ea : acc * 256 ^ (d + 1) = acc * 256 * 256 ^ d := by rw [Int.pow_succ, Int.mul_comm (256 ^ d) 256, Int.mul_assoc]
    have e2 : acc * 256 ^ (d + 1) + n % 256 ^ (d + 1) = (acc * 256 + n / 256 ^ d % 256) * 256 ^ d + n % 256 ^ d := by rw [es, ea, Int.add_mul]; omega
    have hle : acc * 256 + n / 256 ^ d % 256 ≤ (acc * 256 + n / 256 ^ d % 256) * 256 ^ d := by
      have := Int.mul_le_mul_of_nonneg_left (show (1 : Int) ≤ 256 ^ d by omega) (show 0 ≤ acc * 256 + n / 256 ^ d % 256 by omega)
      omega
    rw [e2] at h1
    have hstep : getStep 256 acc (by8 (n / 256 ^ d)) = some (acc * 256 + n / 256 ^ d % 256) := by
      unfold getStep
      rw [if_neg (by omega), if_neg (by omega), by8_nat, wrap64 (z := acc * 256) (by omega)]
      rw [wrap64 (by omega)]
    rw [byD_cons]
    unfold getRun
    rw [hstep]
    simp only
    rw [ih n _ (by omega) h1, e2]
theorem putN_length {n w : Int} {s : List UInt8} (h : putN n w = some s) : (s.length : Int) = w ∧ 2 ≤ w ∧ w ≤ 20 := by
  unfold putN at h
  split at h
  · cases h
  · rename_i hc
    have hw : width w = true := by
      cases hb : width w with
      | true => rfl
      | false => exact absurd (.inr hb) hc
    have hr := width_range hw
    split at h
    · rename_i s' hs
      cases h
      have := octal_length hs
      simp [this]; omega
    · split at h
      · cases h
      · cases h
        simp [byD_length]; omega
theorem getN_putN {n w : Int} {s : List UInt8} (hn : n ≤ 9223372036854775807) (h : putN n w = some s) : getN s = some n := by
  have hl := putN_length h
  have hwd : width (s.length : Int) = true := by simp [width]; omega
  have key : getRaw s = some n := by
    have h' := h
    unfold putN at h'
    split at h'
    · cases h'
    · rename_i hc
      have hn0 : 0 ≤ n := by omega
      split at h'
      · rename_i d hd
        cases h'
        unfold octal at hd
        split at hd
        · cases hd
        · rename_i hc2
          split at hd
          · cases hd
          · rename_i hc3
            cases hd
            obtain ⟨q, hq⟩ : ∃ q, (w - 1).toNat = q + 1 := ⟨(w - 1).toNat - 1, by omega⟩
            have hlt : n < 8 ^ (w - 1).toNat := by
              have := Int.lt_ediv_add_one_mul_self n (pow8_pos (w - 1).toNat)
              have h0 : n / 8 ^ (w - 1).toNat = 0 := by have := Int.ediv_nonneg hn0 (Int.le_of_lt (pow8_pos (w - 1).toNat)); omega
              rw [h0] at this; omega
            have hmod : n % 8 ^ (w - 1).toNat = n := Int.emod_eq_of_lt hn0 hlt
            have hfst : (octD (w - 1).toNat n ++ [0])[0]? = some (dg8 (n / 8 ^ q)) := by rw [hq, octD_cons]; rfl
            have hne : ¬ (octD (w - 1).toNat n ++ [0])[0]? = some 128 := by
              rw [hfst]
              intro e
              have e : dg8 (n / 8 ^ q) = 128 := by simpa using e
              have h1 := dg8_nat (n / 8 ^ q)
              rw [e] at h1
              have h2 : n / 8 ^ q % 8 < 8 := Int.emod_lt_of_pos _ (by omega)
              have h3 : ((128 : UInt8).toNat : Int) = 128 := rfl
              omega
            unfold getRaw
            rw [if_neg hne]
            have et : ((octD (w - 1).toNat n ++ [0]).take ((octD (w - 1).toNat n ++ [(0 : UInt8)]).length - 1)).drop 0 = octD (w - 1).toNat n := by
              rw [List.drop_zero, List.length_append]
              simp
            rw [et, run8 _ n 0 (by omega) (by rw [hmod]; omega), hmod]
            simp
      · split at h'
        · cases h'
        · rename_i hc3
          cases h'
          have hlt : n < 256 ^ (w - 1).toNat := by
            have := Int.lt_ediv_add_one_mul_self n (pow256_pos (w - 1).toNat)
            have h0 : n / 256 ^ (w - 1).toNat = 0 := by have := Int.ediv_nonneg hn0 (Int.le_of_lt (pow256_pos (w - 1).toNat)); omega
            rw [h0] at this; omega
          have hmod : n % 256 ^ (w - 1).toNat = n := Int.emod_eq_of_lt hn0 hlt
          unfold getRaw
          rw [if_pos (show (128 :: byD (w - 1).toNat n)[0]? = some 128 from rfl)]
          have et : ((128 :: byD (w - 1).toNat n).take (128 :: byD (w - 1).toNat n : List UInt8).length).drop 1 = byD (w - 1).toNat n := by
            rw [List.take_length]; rfl
          rw [et, run256 _ n 0 (by omega) (by rw [hmod]; omega), hmod]
          simp
  unfold getN
  rw [if_neg (by rw [hwd]; simp), key]
  simp only
  rw [hl.1, if_pos h]
end Go.Proofs.Ytpgeogdmjgmimaa.Pl
namespace Go.Proofs.Ytpgeogdmjgmimaa.Pl
open Go.Lib Go.Proofs.Ytpgeogdmjgmimaa

abbrev Fld := Nat × Nat × Nat
def apart (x y : Fld) : Prop := x.1 + x.2.1 ≤ y.1 ∨ y.1 + y.2.1 ≤ x.1
instance (x y : Fld) : Decidable (apart x y) := by unfold apart; infer_instance
def lay (val : Fld → List UInt8) (l : List Fld) (p : List UInt8) : List UInt8 := l.foldl (fun p x => wr p x.1 (val x)) p
theorem lay_len {val : Fld → List UInt8} {l : List Fld} : ∀ {p : List UInt8}, (∀ x ∈ l, (val x).length ≤ x.2.1 ∧ x.1 + x.2.1 ≤ p.length) → (lay val l p).length = p.length := by
  induction l with
  | nil => intro p _; rfl
  | cons y l ih =>
    intro p h
    have hy := h y (List.mem_cons_self ..)
    have e : (wr p y.1 (val y)).length = p.length := wr_len (by omega)
    have := ih (p := wr p y.1 (val y)) (fun x hx => by rw [e]; exact h x (List.mem_cons_of_mem _ hx))
    rw [← e, ← this]; rfl
theorem lay_apart {val : Fld → List UInt8} {l : List Fld} {a m : Nat} : ∀ {p : List UInt8}, (∀ x ∈ l, (val x).length ≤ x.2.1 ∧ x.1 + x.2.1 ≤ p.length) → (∀ x ∈ l, a + m ≤ x.1 ∨ x.1 + x.2.1 ≤ a) → seg (lay val l p) a m = seg p a m := by
  induction l with
  | nil => intro p _ _; rfl
  | cons y l ih =>
    intro p h hd
    have hy := h y (List.mem_cons_self ..)
    have hdy := hd y (List.mem_cons_self ..)
    have e : (wr p y.1 (val y)).length = p.length := wr_len (by omega)
    have := ih (p := wr p y.1 (val y)) (fun x hx => by rw [e]; exact h x (List.mem_cons_of_mem _ hx)) (fun x hx => hd x (List.mem_cons_of_mem _ hx))
    rw [← seg_ne (p := p) (x := val y) (i := y.1) (a := a) (m := m) (by omega) (by omega), ← this]; rfl
theorem lay_at {val : Fld → List UInt8} {l : List Fld} : ∀ {p : List UInt8}, (∀ x ∈ l, (val x).length ≤ x.2.1 ∧ x.1 + x.2.1 ≤ p.length) → l.Pairwise apart → ∀ x ∈ l, seg (lay val l p) x.1 x.2.1 = val x ++ seg p (x.1 + (val x).length) (x.2.1 - (val x).length) := by
  induction l with
  | nil => intro p _ _ x hx; cases hx
  | cons y l ih =>
    intro p h hp x hx
    rw [List.pairwise_cons] at hp
    have hy := h y (List.mem_cons_self ..)
    have e : (wr p y.1 (val y)).length = p.length := wr_len (by omega)
    have hl : ∀ x ∈ l, (val x).length ≤ x.2.1 ∧ x.1 + x.2.1 ≤ (wr p y.1 (val y)).length := fun x hx => by rw [e]; exact h x (List.mem_cons_of_mem _ hx)
    show seg (lay val l (wr p y.1 (val y))) x.1 x.2.1 = _
    rcases List.mem_cons.1 hx with rfl | hx
    · rw [lay_apart hl (fun z hz => by have := hp.1 z hz; unfold apart at this; exact this), seg_eq (by omega) hy.1]
    · rw [ih hl hp.2 x hx]
      have hxx := h x (List.mem_cons_of_mem _ hx)
      have := hp.1 x hx
      unfold apart at this
      rw [seg_ne (by omega) (by omega)]
theorem words_pw (t : UInt8) : (wordsL t).Pairwise apart := by unfold wordsL; split <;> decide
theorem nums_pw (t : UInt8) : (numsL t).Pairwise apart := by unfold numsL; split <;> decide
theorem words_in {t : UInt8} {x : Fld} (hx : x ∈ wordsL t) : x.1 + x.2.1 ≤ 500 ∧ (x.1 + x.2.1 ≤ 148 ∨ 157 ≤ x.1) ∧ (x.1 + x.2.1 ≤ 257 ∨ 265 ≤ x.1) := by
  unfold wordsL at hx
  split at hx <;> simp at hx
  · rcases hx with rfl | rfl <;> decide
  · rcases hx with rfl | rfl | rfl <;> decide
theorem nums_in {t : UInt8} {x : Fld} (hx : x ∈ numsL t) : x.1 + x.2.1 ≤ 495 ∧ (x.1 + x.2.1 ≤ 148 ∨ 157 ≤ x.1) ∧ (x.1 + x.2.1 ≤ 257 ∨ 265 ≤ x.1) := by
  unfold numsL at hx
  split at hx <;> simp at hx
  · rcases hx with rfl | rfl | rfl | rfl | rfl | rfl | rfl <;> decide
  · rcases hx with rfl | rfl | rfl | rfl | rfl <;> decide
theorem words_nums {t : UInt8} {x y : Fld} (hx : x ∈ wordsL t) (hy : y ∈ numsL t) : x.1 + x.2.1 ≤ y.1 ∨ y.1 + y.2.1 ≤ x.1 := by
  have h1 : ∀ x ∈ wordsL t, ∀ y ∈ numsL t, x.1 + x.2.1 ≤ y.1 ∨ y.1 + y.2.1 ≤ x.1 := by
    unfold wordsL numsL
    by_cases e : t = 77
    · rw [if_pos e, if_pos e]; decide
    · rw [if_neg e, if_neg e]; decide
  exact h1 x hx y hy
def valS (h : Hd) (x : Fld) : List UInt8 := hS h x.2.2
def valN (h : Hd) (x : Fld) : List UInt8 := (putN (hN h x.2.2) (x.2.1 : Nat)).getD []
theorem page1_lay (h : Hd) : page1 h = lay (valS h) (wordsL h.typ) (List.replicate 512 0) := rfl
theorem page2_lay (h : Hd) : page2 h = lay (valN h) (numsL h.typ) (page1 h) := rfl
theorem zero_head {p : List UInt8} (hl : p.length = 512) (hz : zeroB p = true) : decW p (0, 100, 0) = [] := by
  have h0 : p[0]? = some 0 := by
    obtain ⟨c, hc⟩ : ∃ c, p[0]? = some c := ⟨_, List.getElem?_eq_getElem (by omega)⟩
    unfold zeroB at hz
    rw [List.all_eq_true] at hz
    have := hz c (List.mem_of_getElem? hc)
    simp at this
    rw [hc, this]
  show (cutS (seg p 0 100) 0).1 = []
  have hs : (seg p 0 100)[0]? = some 0 := by rw [seg_get, if_pos (by omega), Nat.zero_add, h0]
  cases hq : seg p 0 100 with
  | nil => rw [hq] at hs; cases hs
  | cons c l =>
    rw [hq] at hs
    have : c = 0 := by simpa using hs
    rw [cutS_cons, if_pos this]
theorem sum_wr {p x : List UInt8} (hp : p.length = 512) (hx : x.length ≤ 8) : sumB (wr p 148 x) = sumB p := by
  have hl : (wr p 148 x).length = 512 := by rw [wr_len (by omega), hp]
  unfold sumB
  rw [if_pos hl, if_pos hp]
  have key : ∀ (l m : List UInt8) (i : Nat), l.length = m.length → (∀ j, ¬ (148 ≤ i + j ∧ i + j < 156) → l[j]? = m[j]?) → sumAt i l = sumAt i m := by
    intro l
    induction l with
    | nil => intro m i hlen _; cases m with
      | nil => rfl
      | cons _ _ => simp at hlen
    | cons c l ih =>
      intro m i hlen hj
      cases m with
      | nil => simp at hlen
      | cons d m =>
        rw [sumAt, sumAt, ih m (i + 1) (by simpa using hlen) (fun j hj2 => by have := hj (j + 1) (by omega); simpa using this)]
        by_cases hc : 148 ≤ i ∧ i < 156
        · rw [if_pos hc, if_pos hc]
        · rw [if_neg hc, if_neg hc]
          have := hj 0 (by omega)
          simp at this
          rw [this]
  refine key _ _ 0 (by rw [hl, hp]) (fun j hj => ?_)
  rw [wr_get (by omega), if_neg (by omega)]
theorem sumF_full {p : List UInt8} (hp : p.length = 512) : (sumF p).length = 8 := by
  have hr := sumB_range p
  have h0 : 0 ≤ sumB p := by unfold sumB; rw [if_pos hp]; exact (sumAt_range 0 p).1
  have hs : octal (sumB p) 6 = some (octD 6 (sumB p)) := by
    unfold octal
    rw [if_neg (by omega), if_neg (by
      show ¬ 0 < sumB p / 8 ^ 6
      omega)]
    rfl
  unfold sumF
  rw [hs]
  simp [octD_length]
theorem valS_ok {h : Hd} (hm : mayH h = true) : ∀ x ∈ wordsL h.typ, (valS h x).length ≤ x.2.1 ∧ x.1 + x.2.1 ≤ (List.replicate 512 (0 : UInt8)).length := fun x hx => by
  obtain ⟨k, hk⟩ := List.mem_iff_getElem?.1 hx
  have := words_in hx
  exact ⟨word_len hm hk, by simp; omega⟩
theorem valN_ok {h : Hd} (hm : mayH h = true) : ∀ x ∈ numsL h.typ, (valN h x).length ≤ x.2.1 ∧ x.1 + x.2.1 ≤ (page1 h).length := fun x hx => by
  obtain ⟨k, hk⟩ := List.mem_iff_getElem?.1 hx
  have := nums_in hx
  rw [page1_len hm]
  exact ⟨Nat.le_of_eq (num_len hm hk), by omega⟩
/-- What the last writes leave as it is. -/
theorem page_seg {h : Hd} (hm : mayH h = true) {a m : Nat} (h1 : a + m ≤ 148 ∨ 157 ≤ a) (h2 : a + m ≤ 257 ∨ 265 ≤ a) : seg (page h) a m = seg (page2 h) a m := by
  have hf := sumF_len (page3 h)
  have l2 := page2_len hm
  have l3 := page3_len hm
  have b1 : (wr (page2 h) 156 [h.typ]).length = 512 := by rw [wr_len (by rw [l2]; simp), l2]
  have b2 : (wr (wr (page2 h) 156 [h.typ]) 257 [117, 115, 116, 97, 114]).length = 512 := by rw [wr_len (by rw [b1]; simp), b1]
  have b3 : (wr (wr (wr (page2 h) 156 [h.typ]) 257 [117, 115, 116, 97, 114]) 262 [0]).length = 512 := by rw [wr_len (by rw [b2]; simp), b2]
  show seg (wr (page3 h) 148 (sumF (page3 h))) a m = _
  rw [seg_ne (by rw [l3]; omega) (by omega)]
  show seg (wr (wr (wr (wr (page2 h) 156 [h.typ]) 257 [117, 115, 116, 97, 114]) 262 [0]) 263 [48, 48]) a m = _
  rw [seg_ne (by rw [b3]; simp) (by simp; omega), seg_ne (by rw [b2]; simp) (by simp; omega), seg_ne (by rw [b1]; simp) (by simp; omega), seg_ne (by rw [l2]; simp) (by simp; omega)]
theorem decW_page {h : Hd} (hm : mayH h = true) : ∀ x ∈ wordsL h.typ, decW (page h) x = hS h x.2.2 := fun x hx => by
  have hi := words_in hx
  have hv := valS_ok hm x hx
  show (cutS (seg (page h) x.1 x.2.1) 0).1 = _
  rw [page_seg hm hi.2.1 hi.2.2, page2_lay, lay_apart (valN_ok hm) (fun y hy => words_nums hx hy), page1_lay, lay_at (valS_ok hm) (words_pw _) x hx, seg_zero (by simp at hv; omega)]
  have hz : indexByte (valS h x) 0 < 0 := by
    have h1 := (may_split hm).2.2.1
    rw [List.all_eq_true] at h1
    have := h1 x hx
    simp [okW] at this
    exact this.2
  exact cutS_pad hz _
theorem seg_num {h : Hd} (hm : mayH h = true) : ∀ x ∈ numsL h.typ, seg (page h) x.1 x.2.1 = valN h x := fun x hx => by
  have hi := nums_in hx
  have hv := valN_ok hm x hx
  obtain ⟨k, hk⟩ := List.mem_iff_getElem?.1 hx
  have hl : (valN h x).length = x.2.1 := num_len hm hk
  rw [page_seg hm hi.2.1 hi.2.2, page2_lay, lay_at (valN_ok hm) (nums_pw _) x hx]
  have : seg (page1 h) (x.1 + (valN h x).length) (x.2.1 - (valN h x).length) = [] := by
    rw [hl, Nat.sub_self]; unfold seg; simp
  rw [this, List.append_nil]
theorem decN_page {h : Hd} (hm : mayH h = true) (hr : ∀ o, hN h o ≤ 9223372036854775807) : ∀ x ∈ numsL h.typ, decN (page h) x = hN h x.2.2 := fun x hx => by
  show (getN (seg (page h) x.1 x.2.1)).getD 0 = _
  rw [seg_num hm x hx]
  have h1 := (may_split hm).2.2.2
  rw [List.all_eq_true] at h1
  have := h1 x hx
  unfold okN at this
  obtain ⟨s, hs⟩ := Option.isSome_iff_exists.1 this
  unfold valN
  rw [hs]
  show (getN s).getD 0 = _
  rw [getN_putN (hr _) hs]; rfl
theorem page_typ {h : Hd} (hm : mayH h = true) : (page h)[156]? = some h.typ := by
  have hf := sumF_len (page3 h)
  have l2 := page2_len hm
  have l3 := page3_len hm
  have b1 : (wr (page2 h) 156 [h.typ]).length = 512 := by rw [wr_len (by rw [l2]; simp), l2]
  have b2 : (wr (wr (page2 h) 156 [h.typ]) 257 [117, 115, 116, 97, 114]).length = 512 := by rw [wr_len (by rw [b1]; simp), b1]
  have b3 : (wr (wr (wr (page2 h) 156 [h.typ]) 257 [117, 115, 116, 97, 114]) 262 [0]).length = 512 := by rw [wr_len (by rw [b2]; simp), b2]
  show (wr (page3 h) 148 (sumF (page3 h)))[156]? = _
  rw [wr_get (by rw [l3]; omega), if_neg (by omega)]
  show (wr (wr (wr (wr (page2 h) 156 [h.typ]) 257 [117, 115, 116, 97, 114]) 262 [0]) 263 [48, 48])[156]? = _
  rw [wr_get (by rw [b3]; simp), if_neg (by omega), wr_get (by rw [b2]; simp), if_neg (by omega), wr_get (by rw [b1]; simp), if_neg (by omega), wr_get (by rw [l2]; simp), if_pos (by simp)]
  rfl
theorem decH_page {h : Hd} (hm : mayH h = true) (hr : ∀ o, hN h o ≤ 9223372036854775807) : decH (page h) = h := by
  have ht : (page h).getD 156 0 = h.typ := by rw [List.getD_eq_getElem?_getD, page_typ hm]; rfl
  unfold decH
  rw [ht]
  simp only
  have f1 : ∀ (l : List Fld) (q : Hd), (∀ x ∈ l, decW (page h) x = hS h x.2.2) → l.foldl (fun h' x => setS h' x.2.2 (decW (page h) x)) q = l.foldl (fun h' x => setS h' x.2.2 (hS h x.2.2)) q := by
    intro l
    induction l with
    | nil => intro q _; rfl
    | cons y l ih => intro q hq; rw [List.foldl_cons, List.foldl_cons, hq y (List.mem_cons_self ..)]; exact ih _ (fun x hx => hq x (List.mem_cons_of_mem _ hx))
  have f2 : ∀ (l : List Fld) (q : Hd), (∀ x ∈ l, decN (page h) x = hN h x.2.2) → l.foldl (fun h' x => setN h' x.2.2 (decN (page h) x)) q = l.foldl (fun h' x => setN h' x.2.2 (hN h x.2.2)) q := by
    intro l
    induction l with
    | nil => intro q _; rfl
    | cons y l ih => intro q hq; rw [List.foldl_cons, List.foldl_cons, hq y (List.mem_cons_self ..)]; exact ih _ (fun x hx => hq x (List.mem_cons_of_mem _ hx))
  rw [f1 _ _ (decW_page hm), f2 _ _ (decN_page hm hr)]
  have h2 := (may_split hm).2.1
  by_cases e : h.typ = 77
  · have hp : h.pre = [] := by simp [may2, e] at h2; exact h2
    rw [wordsL, numsL, if_pos e, if_pos e]
    simp only [List.append_nil, List.foldl_cons, List.foldl_nil, List.cons_append, List.nil_append, setS, setN, hS, hN, Hd.none]
    rw [← hp]
  · have hp : h.off = 0 ∧ h.real = 0 := by simp [may2, e] at h2; exact h2
    rw [wordsL, numsL, if_neg e, if_neg e]
    simp only [List.append_nil, List.foldl_cons, List.foldl_nil, List.cons_append, List.nil_append, setS, setN, hS, hN, Hd.none]
    obtain ⟨q1, q2⟩ := hp
    clear f1 f2 hm hr ht e h2
    obtain ⟨a1, a2, a3, a4, a5, a6, a7, a8, a9, a10, a11⟩ := h
    simp only at q1 q2
    subst q1 q2
    rfl
theorem page_sum {h : Hd} (hm : mayH h = true) : ((page h).take 156).drop 148 = sumF (page h) := by
  have l3 := page3_len hm
  have hf := sumF_full l3
  have e : sumF (page h) = sumF (page3 h) := by
    have e2 := sum_wr l3 (sumF_len (page3 h))
    show (octal (sumB (wr (page3 h) 148 (sumF (page3 h)))) 6).getD [] ++ [0, 32] = _
    rw [e2]; rfl
  rw [e]
  show seg (wr (page3 h) 148 (sumF (page3 h))) 148 8 = _
  exact seg_full (by rw [l3, hf]; omega) hf
theorem page_zero {h : Hd} (hm : mayH h = true) : zeroB (page h) = false := by
  have h1 := (may_split hm).1
  have hn : ¬ h.name = [] := by simp [may1] at h1; exact h1.1
  have hw : decW (page h) (0, 100, 0) = h.name := decW_page hm (0, 100, 0) (by unfold wordsL; simp)
  cases hz : zeroB (page h) with
  | false => rfl
  | true => exact absurd (hw.symm.trans (zero_head (page_len hm) hz)) hn
theorem getH_page {h : Hd} (hm : mayH h = true) (hr : ∀ o, hN h o ≤ 9223372036854775807) : getH (page h) = (h, 0) := by
  have hl := page_len hm
  have hd := decH_page hm hr
  have hp : putH h = some (page h) := put_yes hm
  have := get_ok (b := page h) (by omega) (page_zero hm) (page_sum hm) (by rw [hd]; exact hp)
  rw [this, hd]
end Go.Proofs.Ytpgeogdmjgmimaa.Pl
namespace Go.Proofs.Ytpgeogdmjgmimaa.Pl
open Go.Lib

theorem putN_small {n w : Int} (h0 : 0 ≤ n) (hw : 2 ≤ w ∧ w ≤ 20) (h : n < 8 ^ (w - 1).toNat) : (putN n w).isSome = true := by
  have hd : n / 8 ^ (w - 1).toNat = 0 := Int.ediv_eq_zero_of_lt h0 h
  have ho : octal n (w - 1) = some (octD (w - 1).toNat n) := by
    unfold octal
    rw [if_neg (by omega), hd, if_neg (by omega)]
  unfold putN
  rw [if_neg (by simp [width]; omega), ho]
  rfl
theorem chunk_drop (s : List UInt8) (k : Nat) : chunk (s.drop 512) k = chunk s (k + 1) := by
  unfold chunk; rw [List.drop_drop]; congr 2; omega
theorem cutB_nil : cutB [] = [] := rfl
theorem cutB_cons {s : List UInt8} (h : s ≠ []) : cutB s = pad (s.take 512) :: cutB (s.drop 512) := by
  have hl : 0 < s.length := List.length_pos_iff.2 h
  unfold cutB chunks
  have e : nch s.length = nch (s.drop 512).length + 1 := by simp [nch]; omega
  rw [e, List.range_succ_eq_map, List.map_cons, List.map_cons]
  have e2 : List.map (chunk s) (List.map Nat.succ (List.range (nch (s.drop 512).length))) = List.map (chunk (s.drop 512)) (List.range (nch (s.drop 512).length)) := by
    rw [List.map_map]
    exact List.map_congr_left (fun k _ => (chunk_drop s k).symm)
  rw [e2]
  rfl
theorem cutB_len2 (s : List UInt8) : (cutB s).length = nch s.length := by simp [cutB, chunks]
theorem cutB_may (s : List UInt8) : mayB (cutB s) = true := by
  unfold mayB cutB
  rw [List.all_eq_true]
  intro x hx
  obtain ⟨y, hy, rfl⟩ := List.mem_map.1 hx
  obtain ⟨k, hk⟩ := List.mem_iff_getElem?.1 hy
  simp [pad_len (chunk_len hk)]
theorem cutB_flat : ∀ (m : Nat) (s : List UInt8), s.length ≤ m → (cutB s).flatten.take s.length = s := by
  intro m
  induction m with
  | zero => intro s h; have : s = [] := List.eq_nil_of_length_eq_zero (by omega); subst this; rfl
  | succ m ih =>
    intro s h
    by_cases hs : s = []
    · subst hs; rfl
    · have hl : 0 < s.length := List.length_pos_iff.2 hs
      rw [cutB_cons hs, List.flatten_cons]
      by_cases hc : s.length ≤ 512
      · rw [List.take_of_length_le hc]
        unfold pad
        rw [List.append_assoc, List.take_append_of_le_length (Nat.le_refl _), List.take_length]
      · have ht : (s.take 512).length = 512 := by simp; omega
        have hp : pad (s.take 512) = s.take 512 := by unfold pad; rw [ht]; simp
        rw [hp, List.take_append, ht, List.take_of_length_le (l := s.take 512) (by omega)]
        have := ih (s.drop 512) (by simp; omega)
        rw [List.length_drop] at this
        rw [this, List.take_append_drop]
theorem many_nch (m : Nat) : many m = (nch m : Int) := by unfold many nch; split <;> omega
theorem textB_cutB (s : List UInt8) : textB (cutB s) s.length = some s := by
  unfold textB
  rw [if_neg, Int.toNat_natCast, cutB_flat _ _ (Nat.le_refl _)]
  rw [cutB_may, cutB_len2, many_nch]
  simp
theorem longText_len {s : List UInt8} (h : longText s = true) : s ≠ [] ∧ s.length ≤ 300 ∧ indexByte s 0 < 0 := by
  simp [longText] at h; exact ⟨h.1.1, by omega, h.2⟩
theorem longHead_may {kind : UInt8} {s : List UInt8} (hk : kind = 75 ∨ kind = 76) (hs : s.length ≤ 300) : mayH (longHead kind s) = true := by
  have ht : (longHead kind s).typ = kind := rfl
  have h1 : may1 (longHead kind s) = true := by rcases hk with rfl | rfl <;> rfl
  have h2 : may2 (longHead kind s) = true := by rcases hk with rfl | rfl <;> rfl
  have hn : ¬ kind = 77 := by rcases hk with rfl | rfl <;> decide
  have h3 : (wordsL kind).all (okW (longHead kind s)) = true := by
    unfold wordsL; rw [if_neg hn]; rfl
  have h4 : (numsL kind).all (okN (longHead kind s)) = true := by
    unfold numsL; rw [if_neg hn, List.append_nil]
    have h5 : okN (longHead kind s) (124, 12, 6) = true := putN_small (n := (s.length : Int) + 1) (w := 12) (by omega) (by omega) (by
      show (s.length : Int) + 1 < 8 ^ 11
      omega)
    simp only [List.all_cons, List.all_nil, Bool.and_true, h5, Bool.true_and]
    rfl
  unfold mayH
  rw [ht, h1, h2, h3, h4]; rfl
theorem longHead_top {kind : UInt8} {s : List UInt8} (hs : s.length ≤ 300) (o : Nat) : hN (longHead kind s) o ≤ 9223372036854775807 := by
  unfold hN longHead Hd.none; split <;> simp <;> omega
theorem longHead_get {kind : UInt8} {s : List UInt8} (hk : kind = 75 ∨ kind = 76) (hs : s.length ≤ 300) : getH ((putH (longHead kind s)).getD []) = (longHead kind s, 0) := by
  rw [put_yes (longHead_may hk hs)]
  exact getH_page (longHead_may hk hs) (longHead_top hs)
theorem longPut_some {kind : UInt8} {s : List UInt8} (h : (longPut kind s).isSome = true) : (kind = 75 ∨ kind = 76) ∧ longText s = true ∧ (longPut kind s).getD [] = (putH (longHead kind s)).getD [] :: cutB (s ++ [0]) := by
  unfold longPut at h ⊢
  split at h
  · rename_i hc
    rw [if_pos hc]
    exact ⟨hc.1, hc.2, rfl⟩
  · cases h
theorem longPut_none {kind : UInt8} {s : List UInt8} (h : (longPut kind s).isSome = false) : (longPut kind s).getD [] = [] ∧ ¬ ((kind = 75 ∨ kind = 76) ∧ longText s = true) := by
  unfold longPut at h ⊢
  split at h
  · cases h
  · rename_i hc
    rw [if_neg hc]
    exact ⟨rfl, hc⟩
theorem cut_long {s : List UInt8} (h : longText s = true) : (cutB (s ++ [0])).length = 1 := by
  have := longText_len h
  rw [cutB_len2]; simp [nch]; omega
end Go.Proofs.Ytpgeogdmjgmimaa.Pl
