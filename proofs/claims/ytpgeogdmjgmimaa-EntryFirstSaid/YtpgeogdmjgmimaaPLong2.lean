/-
  Plain: what is cut is told again; a long text's blocks. No program in sight.
-/
import Derived.Test.YtpgeogdmjgmimaaPHead2
import Derived.Test.YtpgeogdmjgmimaaW13
set_option linter.unusedVariables false
set_option linter.unusedSimpArgs false
namespace Go.Proofs.Ytpgeogdmjgmimaa.Pl
open Go.Lib

theorem putN_small {n w : Int} (h0 : 0 ≤ n) (hw : 2 ≤ w ∧ w ≤ 20) (h : n < 8 ^ (w - 1).toNat) : (putN n w).isSome = true := by
  have hd : n / 8 ^ (w - 1).toNat = 0 := Int.ediv_eq_zero_of_lt h0 h
  have ho : octal n (w - 1) = some (octD (w - 1).toNat n) := by
    unfold octal
    rw [if_neg (by omega), hd, if_neg (by omega)]
  unfold putN
  rw [if_neg (by simp [width]; omega), ho]
  rfl
theorem chunk_drop (s : List UInt8) (k : Nat) : chunk (s.drop 512) k = chunk s (k + 1) := by
  unfold chunk; rw [List.drop_drop]; congr 2; omega
theorem cutB_nil : cutB [] = [] := rfl
theorem cutB_cons {s : List UInt8} (h : s ≠ []) : cutB s = pad (s.take 512) :: cutB (s.drop 512) := by
  have hl : 0 < s.length := List.length_pos_iff.2 h
  unfold cutB chunks
  have e : nch s.length = nch (s.drop 512).length + 1 := by simp [nch]; omega
  rw [e, List.range_succ_eq_map, List.map_cons, List.map_cons]
  have e2 : List.map (chunk s) (List.map Nat.succ (List.range (nch (s.drop 512).length))) = List.map (chunk (s.drop 512)) (List.range (nch (s.drop 512).length)) := by
    rw [List.map_map]
    exact List.map_congr_left (fun k _ => (chunk_drop s k).symm)
  rw [e2]
  rfl
theorem cutB_len2 (s : List UInt8) : (cutB s).length = nch s.length := by simp [cutB, chunks]
theorem cutB_may (s : List UInt8) : mayB (cutB s) = true := by
  unfold mayB cutB
  rw [List.all_eq_true]
  intro x hx
  obtain ⟨y, hy, rfl⟩ := List.mem_map.1 hx
  obtain ⟨k, hk⟩ := List.mem_iff_getElem?.1 hy
  simp [pad_len (chunk_len hk)]
theorem cutB_flat : ∀ (m : Nat) (s : List UInt8), s.length ≤ m → (cutB s).flatten.take s.length = s := by
  intro m
  induction m with
  | zero => intro s h; have : s = [] := List.eq_nil_of_length_eq_zero (by omega); subst this; rfl
  | succ m ih =>
    intro s h
    by_cases hs : s = []
    · subst hs; rfl
    · have hl : 0 < s.length := List.length_pos_iff.2 hs
      rw [cutB_cons hs, List.flatten_cons]
      by_cases hc : s.length ≤ 512
      · rw [List.take_of_length_le hc]
        unfold pad
        rw [List.append_assoc, List.take_append_of_le_length (Nat.le_refl _), List.take_length]
      · have ht : (s.take 512).length = 512 := by simp; omega
        have hp : pad (s.take 512) = s.take 512 := by unfold pad; rw [ht]; simp
        rw [hp, List.take_append, ht, List.take_of_length_le (l := s.take 512) (by omega)]
        have := ih (s.drop 512) (by simp; omega)
        rw [List.length_drop] at this
        rw [this, List.take_append_drop]
theorem many_nch (m : Nat) : many m = (nch m : Int) := by unfold many nch; split <;> omega
theorem textB_cutB (s : List UInt8) : textB (cutB s) s.length = some s := by
  unfold textB
  rw [if_neg, Int.toNat_natCast, cutB_flat _ _ (Nat.le_refl _)]
  rw [cutB_may, cutB_len2, many_nch]
  simp
theorem longText_len {s : List UInt8} (h : longText s = true) : s ≠ [] ∧ s.length ≤ 300 ∧ indexByte s 0 < 0 := by
  simp [longText] at h; exact ⟨h.1.1, by omega, h.2⟩
theorem longHead_may {kind : UInt8} {s : List UInt8} (hk : kind = 75 ∨ kind = 76) (hs : s.length ≤ 300) : mayH (longHead kind s) = true := by
  have ht : (longHead kind s).typ = kind := rfl
  have h1 : may1 (longHead kind s) = true := by rcases hk with rfl | rfl <;> rfl
  have h2 : may2 (longHead kind s) = true := by rcases hk with rfl | rfl <;> rfl
  have hn : ¬ kind = 77 := by rcases hk with rfl | rfl <;> decide
  have h3 : (wordsL kind).all (okW (longHead kind s)) = true := by
    unfold wordsL; rw [if_neg hn]; rfl
  have h4 : (numsL kind).all (okN (longHead kind s)) = true := by
    unfold numsL; rw [if_neg hn, List.append_nil]
    have h5 : okN (longHead kind s) (124, 12, 6) = true := putN_small (n := (s.length : Int) + 1) (w := 12) (by omega) (by omega) (by
      show (s.length : Int) + 1 < 8 ^ 11
      omega)
    simp only [List.all_cons, List.all_nil, Bool.and_true, h5, Bool.true_and]
    rfl
  unfold mayH
  rw [ht, h1, h2, h3, h4]; rfl
theorem longHead_top {kind : UInt8} {s : List UInt8} (hs : s.length ≤ 300) (o : Nat) : hN (longHead kind s) o ≤ 9223372036854775807 := by
  unfold hN longHead Hd.none; split <;> simp <;> omega
theorem longHead_get {kind : UInt8} {s : List UInt8} (hk : kind = 75 ∨ kind = 76) (hs : s.length ≤ 300) : getH ((putH (longHead kind s)).getD []) = (longHead kind s, 0) := by
  rw [put_yes (longHead_may hk hs)]
  exact getH_page (longHead_may hk hs) (longHead_top hs)
theorem longPut_some {kind : UInt8} {s : List UInt8} (h : (longPut kind s).isSome = true) : (kind = 75 ∨ kind = 76) ∧ longText s = true ∧ (longPut kind s).getD [] = (putH (longHead kind s)).getD [] :: cutB (s ++ [0]) := by
  unfold longPut at h ⊢
  split at h
  · rename_i hc
    rw [if_pos hc]
    exact ⟨hc.1, hc.2, rfl⟩
  · cases h
theorem longPut_none {kind : UInt8} {s : List UInt8} (h : (longPut kind s).isSome = false) : (longPut kind s).getD [] = [] ∧ ¬ ((kind = 75 ∨ kind = 76) ∧ longText s = true) := by
  unfold longPut at h ⊢
  split at h
  · cases h
  · rename_i hc
    rw [if_neg hc]
    exact ⟨rfl, hc⟩
theorem cut_long {s : List UInt8} (h : longText s = true) : (cutB (s ++ [0])).length = 1 := by
  have := longText_len h
  rw [cutB_len2]; simp [nch]; omega
end Go.Proofs.Ytpgeogdmjgmimaa.Pl
