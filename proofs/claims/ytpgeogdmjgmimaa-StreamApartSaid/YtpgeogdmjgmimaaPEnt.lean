/-
  Plain: nodes as blocks. No program in sight.
-/
import Derived.Test.YtpgeogdmjgmimaaPLong2
import Derived.Test.YtpgeogdmjgmimaaW19
set_option linter.unusedVariables false
set_option linter.unusedSimpArgs false
namespace Go.Proofs.Ytpgeogdmjgmimaa.Pl
open Go.Lib Go.Proofs.Ytpgeogdmjgmimaa

theorem putN_big {n w : Int} (h0 : 0 ≤ n) (h : n ≤ 1099511627776) (hw : w = 8 ∨ w = 12) : (putN n w).isSome = true := by
  have hw2 : width w = true := by rcases hw with rfl | rfl <;> decide
  have hz : n / 256 ^ (w - 1).toNat = 0 := by
    refine Int.ediv_eq_zero_of_lt h0 ?_
    rcases hw with rfl | rfl
    · show n < 256 ^ 7; omega
    · show n < 256 ^ 11; omega
  unfold putN
  rw [if_neg (by rw [hw2]; simp; omega)]
  split
  · rfl
  · rw [hz, if_neg (by omega)]; rfl
theorem parts_slash (p : List UInt8) : ∃ x, parts (p ++ [47]) = x ++ [[]] ∧ x ≠ [] := by
  induction p with
  | nil => exact ⟨[[]], rfl, by simp⟩
  | cons c p ih =>
    obtain ⟨x, hx, hne⟩ := ih
    rw [List.cons_append, parts, hx]
    split
    · exact ⟨[] :: x, rfl, by simp⟩
    · cases x with
      | nil => exact absurd rfl hne
      | cons y x => exact ⟨(c :: y) :: x, rfl, by simp⟩
theorem may_slash {p : List UInt8} (h : pathMay (p ++ [47]) = true) : False := by
  obtain ⟨x, hx, _⟩ := parts_slash p
  unfold pathMay at h
  rw [Bool.and_eq_true, hx, List.all_eq_true] at h
  have := h.1 [] (by simp)
  simp [odd] at this
theorem may_ne {p : List UInt8} (h : pathMay p = true) : p ≠ [] ∧ p.length ≤ 300 ∧ indexByte p 0 < 0 := by
  have h' := h
  unfold pathMay at h
  simp only [Bool.and_eq_true, decide_eq_true_eq] at h
  refine ⟨?_, by omega, h.2.2⟩
  rintro rfl
  revert h'; decide
theorem no_zero_sub {s t : List UInt8} (h : indexByte s 0 < 0) (hs : ∀ x ∈ t, x ∈ s) : indexByte t 0 < 0 := by
  rw [indexByte_none] at h ⊢
  exact fun hm => h (hs 0 hm)
theorem may_long {p : List UInt8} (h : pathMay p = true) : longText p = true := by
  have := may_ne h
  simp [longText, this.1, this.2.2]; omega
theorem indexByte_at (s : List UInt8) (c : UInt8) (h : 0 ≤ indexByte s c) : s[(indexByte s c).toNat]? = some c := by
  induction s with
  | nil => simp [indexByte] at h
  | cons b l ih =>
    unfold indexByte at h ⊢
    split
    · rename_i e; simp at e; simp [e]
    · rename_i e
      rw [if_neg e] at h
      split
      · rename_i e2; rw [if_pos e2] at h; omega
      · rename_i e2
        rw [if_neg e2] at h
        have h0 : 0 ≤ indexByte l c := by
          have := Go.Lib.indexByte_ge l c
          have e3 : ¬ indexByte l c = -1 := by simpa using e2
          omega
        have e4 : (indexByte l c + 1).toNat = (indexByte l c).toNat + 1 := by omega
        rw [e4, List.getElem?_cons_succ]
        exact ih h0
theorem split_parts {p : List UInt8} (h : pathMay p = true) (hs : (split p).2.2 = true) : (split p).2.1 ≠ [] ∧ (split p).2.1.length ≤ 100 ∧ (split p).1.length ≤ 155 ∧ indexByte (split p).2.1 0 < 0 ∧ indexByte (split p).1 0 < 0 := by
  have hm := may_ne h
  have hz := hm.2.2
  have hnp : (!pathMay p) = false := by rw [h]; rfl
  by_cases h1 : (p.length : Int) ≤ 100
  · rw [split_short hnp h1]
    exact ⟨hm.1, by simp only; omega, by simp, hz, by rw [indexByte_none]; simp⟩
  · by_cases h2 : indexByte (p.drop (p.length - 101)) 47 < 0
    · rw [split_none hnp h1 (.inl h2)] at hs; cases hs
    · by_cases h3 : 155 < (p.length : Int) - 100 - 1 + indexByte (p.drop (p.length - 101)) 47
      · rw [split_none hnp h1 (.inr h3)] at hs; cases hs
      · rw [split_some hnp h1 h2 h3]
        have hi := indexByte_lt' (p.drop (p.length - 101)) 47 (by omega)
        rw [List.length_drop] at hi
        refine ⟨?_, by simp only [List.length_drop]; omega, by simp only [List.length_take]; omega, no_zero_sub hz (fun x hx => List.mem_of_mem_drop hx), no_zero_sub hz (fun x hx => List.mem_of_mem_take hx)⟩
        intro e
        have hlen : p.length ≤ p.length - 101 + (indexByte (p.drop (p.length - 101)) 47).toNat + 1 := by simpa using e
        have hq : p.length - 101 + (indexByte (p.drop (p.length - 101)) 47).toNat + 1 = p.length := by omega
        have hat : (p.drop (p.length - 101))[(indexByte (p.drop (p.length - 101)) 47).toNat]? = some 47 := indexByte_at _ _ (by omega)
        rw [List.getElem?_drop] at hat
        have hp : p = p.take (p.length - 1) ++ [47] := by
          have hd : p.drop (p.length - 1) = [47] := by
            have e1 : p.length - 101 + (indexByte (p.drop (p.length - 101)) 47).toNat = p.length - 1 := by omega
            rw [e1] at hat
            obtain ⟨hlt, he⟩ := List.getElem?_eq_some_iff.1 hat
            rw [List.drop_eq_getElem_cons hlt, he, List.drop_eq_nil_of_le (by omega)]
          rw [← hd, List.take_append_drop]
        rw [hp] at h
        exact may_slash h
theorem names_ok {n : Nd} (h : pathMay n.path = true) : (names n).1 ≠ [] ∧ (names n).1.length ≤ 100 ∧ (names n).2.1.length ≤ 155 ∧ indexByte (names n).1 0 < 0 ∧ indexByte (names n).2.1 0 < 0 := by
  have hm := may_ne h
  cases hs : (split n.path).2.2 with
  | true =>
    have hn : (needs n).1 = false := by simp [needs, hs]
    have := split_parts h hs
    unfold names; rw [hn]
    exact this
  | false =>
    have hn : (needs n).1 = true := by simp [needs, hs, h]
    have hsp : (split n.path).1 = [] := by
      have hnp : (!pathMay n.path) = false := by rw [h]; rfl
      by_cases h1 : (n.path.length : Int) ≤ 100
      · rw [split_short hnp h1]
      · by_cases h2 : indexByte (n.path.drop (n.path.length - 101)) 47 < 0 ∨ 155 < (n.path.length : Int) - 100 - 1 + indexByte (n.path.drop (n.path.length - 101)) 47
        · rw [split_none hnp h1 h2]
        · rw [split_some hnp h1 (fun h => h2 (.inl h)) (fun h => h2 (.inr h))] at hs; cases hs
    unfold names; rw [hn, hsp, if_pos rfl]
    refine ⟨?_, by simp [short]; omega, by simp, no_zero_sub hm.2.2 (fun x hx => List.mem_of_mem_take hx), by rw [indexByte_none]; simp⟩
    intro e
    have e2 : (short n.path).length = 0 := by rw [show short n.path = [] from e]; rfl
    have h3 : 0 < n.path.length := List.length_pos_iff.2 hm.1
    unfold short at e2
    rw [List.length_take] at e2
    omega
theorem kind_cases {n : Nd} (h : kindMay n = true) : (n.kind = 48 ∧ n.link = [] ∧ n.data.length ≤ 4000) ∨ (n.kind = 49 ∧ pathMay n.link = true ∧ n.data = [] ∧ n.mode = 0 ∧ n.uid = 0 ∧ n.gid = 0 ∧ n.mtime = 0) ∨ (n.kind = 50 ∧ longText n.link = true ∧ n.data = []) ∨ (n.kind = 53 ∧ n.link = [] ∧ n.data = []) := by
  unfold kindMay at h
  split at h
  · rename_i hk; simp at h; exact .inl ⟨hk, h.1, by omega⟩
  · split at h
    · rename_i _ hk
      simp only [Bool.and_eq_true, decide_eq_true_eq] at h
      have h1 := h.1
      refine .inr (.inl ⟨hk, h.2, ?_⟩)
      refine ⟨congrArg Nd.data h1, congrArg Nd.mode h1, congrArg Nd.uid h1, congrArg Nd.gid h1, congrArg Nd.mtime h1⟩
    · split at h
      · rename_i _ _ hk; simp at h; exact .inr (.inr (.inl ⟨hk, h.1, h.2⟩))
      · split at h
        · rename_i _ _ _ hk; simp at h; exact .inr (.inr (.inr ⟨hk, h.1, h.2⟩))
        · cases h
theorem link_ok {n : Nd} (h : kindMay n = true) : indexByte n.link 0 < 0 ∧ n.link.length ≤ 300 ∧ (100 < n.link.length → longText n.link = true) := by
  have nil : indexByte ([] : List UInt8) 0 < 0 := by rw [indexByte_none]; simp
  rcases kind_cases h with h | h | h | h
  · rw [h.2.1]; exact ⟨nil, by simp, by simp⟩
  · have := may_ne h.2.1; exact ⟨this.2.2, this.2.1, fun _ => may_long h.2.1⟩
  · have := longText_len h.2.1; exact ⟨this.2.2, this.2.1, fun _ => h.2.1⟩
  · rw [h.2.1]; exact ⟨nil, by simp, by simp⟩
theorem data_ok {n : Nd} (h : kindMay n = true) : n.data.length ≤ 4000 := by
  rcases kind_cases h with h | h | h | h
  · exact h.2.2
  · rw [h.2.2.1]; simp
  · rw [h.2.2]; simp
  · rw [h.2.2]; simp
theorem kind_in {n : Nd} (h : kindMay n = true) : n.kind = 48 ∨ n.kind = 49 ∨ n.kind = 50 ∨ n.kind = 53 := by
  rcases kind_cases h with h | h | h | h
  · exact .inl h.1
  · exact .inr (.inl h.1)
  · exact .inr (.inr (.inl h.1))
  · exact .inr (.inr (.inr h.1))
theorem okW_of {h : Hd} {x : Nat × Nat × Nat} (hl : (hS h x.2.2).length ≤ x.2.1) (hz : indexByte (hS h x.2.2) 0 < 0) : okW h x = true := by
  simp [okW]; exact ⟨by omega, hz⟩
theorem entHead_may {n : Nd} (h : one n = true) : mayH (entHead n) = true := by
  have hp := one_parts h
  have hn := names_ok hp.2.1
  have hl := link_ok hp.1
  have hd := data_ok hp.1
  have hk := kind_in hp.1
  have hne : ¬ n.kind = 77 := by rcases hk with h | h | h | h <;> rw [h] <;> decide
  have h1 : may1 (entHead n) = true := by
    have e : decide (indexByte kindsS n.kind < 0) = false := by rcases hk with h | h | h | h <;> rw [h] <;> decide
    show (!(decide ((names n).1 = []) || decide (indexByte kindsS n.kind < 0))) = true
    rw [e, decide_eq_false hn.1]; rfl
  have h2 : may2 (entHead n) = true := by
    show (!((decide (n.kind = 77) && !decide ((names n).2.1 = [])) || (!decide (n.kind = 77) && (!decide ((0 : Int) = 0) || !decide ((0 : Int) = 0))))) = true
    rw [decide_eq_false hne]; simp
  have h3 : (wordsL n.kind).all (okW (entHead n)) = true := by
    unfold wordsL; rw [if_neg hne]
    have a1 : okW (entHead n) (0, 100, 0) = true := okW_of hn.2.1 hn.2.2.2.1
    have a2 : okW (entHead n) (157, 100, 2) = true := okW_of (by show (short n.link).length ≤ 100; simp [short]; omega) (no_zero_sub hl.1 (fun x hx => List.mem_of_mem_take hx))
    have a3 : okW (entHead n) (345, 155, 1) = true := okW_of hn.2.2.1 hn.2.2.2.2
    simp only [List.cons_append, List.nil_append, List.all_cons, List.all_nil, a1, a2, a3, Bool.and_true]
  have h4 : (numsL n.kind).all (okN (entHead n)) = true := by
    unfold numsL; rw [if_neg hne]
    have a1 : okN (entHead n) (100, 8, 3) = true := putN_big (n := n.mode) (w := 8) hp.2.2.1.1 (by omega) (.inl rfl)
    have a2 : okN (entHead n) (108, 8, 4) = true := putN_big (n := n.uid) (w := 8) hp.2.2.2.1.1 (by omega) (.inl rfl)
    have a3 : okN (entHead n) (116, 8, 5) = true := putN_big (n := n.gid) (w := 8) hp.2.2.2.2.1.1 (by omega) (.inl rfl)
    have a4 : okN (entHead n) (124, 12, 6) = true := putN_big (n := (n.data.length : Int)) (w := 12) (by omega) (by omega) (.inr rfl)
    have a5 : okN (entHead n) (136, 12, 7) = true := putN_big (n := n.mtime) (w := 12) hp.2.2.2.2.2.1 (by omega) (.inr rfl)
    simp only [List.append_nil, List.all_cons, List.all_nil, a1, a2, a3, a4, a5, Bool.and_true]
  unfold mayH
  show (may1 (entHead n) && may2 (entHead n) && (wordsL n.kind).all (okW (entHead n)) && (numsL n.kind).all (okN (entHead n))) = true
  rw [h1, h2, h3, h4]; rfl
def entBlk (n : Nd) : List UInt8 := (putH (entHead n)).getD []
theorem entBlk_get {n : Nd} (h : one n = true) : getH (entBlk n) = (entHead n, 0) := by
  have hm := entHead_may h
  unfold entBlk
  rw [put_yes hm]
  exact getH_page hm (fun o => (entHead_range h (by have := data_ok (one_parts h).1; omega) o).2)
theorem entBlk_len {n : Nd} (h : one n = true) : (entBlk n).length = 512 := by
  have hm := entHead_may h
  unfold entBlk; rw [put_yes hm]; exact page_len hm
/-- A long text's blocks: the header, and one more. -/
theorem long_two {kind : UInt8} {s : List UInt8} (hk : kind = 75 ∨ kind = 76) (hs : longText s = true) : ∃ x y : List UInt8, (longPut kind s).getD [] = [x, y] ∧ getH x = (longHead kind s, 0) ∧ x.length = 512 ∧ y = pad (s ++ [0]) ∧ y.length = 512 := by
  have h1 : (longPut kind s).isSome = true := by unfold longPut; rw [if_pos ⟨hk, hs⟩]; rfl
  have h2 := (longPut_some h1).2.2
  have hl := longText_len hs
  have hm := longHead_may hk hl.2.1
  have hc : cutB (s ++ [0]) = [pad (s ++ [0])] := by
    rw [cutB_cons (by simp), List.take_of_length_le (by simp; omega), List.drop_eq_nil_of_le (by simp; omega), cutB_nil]
  refine ⟨_, pad (s ++ [0]), by rw [h2, hc], longHead_get hk hl.2.1, by rw [put_yes hm]; exact page_len hm, rfl, pad_len (by simp; omega)⟩
theorem ahead_eq {n : Nd} (h : one n = true) : ahead n = (if 100 < n.link.length then (longPut 75 n.link).getD [] else []) ++ (if (needs n).1 = true then (longPut 76 n.path).getD [] else []) := by
  unfold ahead aheadPart
  congr 1
  have : (needs n).2 = decide (100 < n.link.length) := by
    show decide (100 < (n.link.length : Int)) = _
    rw [decide_eq_decide]; omega
  rw [this]
  by_cases hc : 100 < n.link.length
  · rw [if_pos hc, if_pos (decide_eq_true hc)]
  · rw [if_neg hc, if_neg (by simp; omega)]
theorem entData_eq {n : Nd} (h : one n = true) : entData n = ((cutB n.data).length : Int) := by
  unfold entData; rw [if_pos h, many_nch, cutB_len2]
theorem entPut_eq {n : Nd} (h : one n = true) : entPut n = ahead n ++ entBlk n :: cutB n.data := by
  unfold entPut entBlocks entBlk; rw [if_pos h]; simp
theorem entPut_none {n : Nd} (h : one n = false) : entPut n = [] := by unfold entPut; rw [if_neg (by rw [h]; decide)]
/-- The first block: what it is. -/
theorem first_cases {n : Nd} (h : one n = true) : ∃ x, (entPut n)[0]? = some x ∧ (getH x).2 = 0 ∧
    (((entPut n).length : Int) = 1 + entData n → (getH x).1.typ = n.kind) ∧ (¬ ((entPut n).length : Int) = 1 + entData n → ((getH x).1.typ = 75 ∧ 100 < n.link.length) ∨ ((getH x).1.typ = 76 ∧ ¬ 100 < n.link.length)) := by
  have hp := one_parts h
  have e := entPut_eq h
  have ed := entData_eq h
  rw [ahead_eq h] at e
  by_cases h1 : 100 < n.link.length
  · obtain ⟨x, y, h2, h3, _⟩ := long_two (kind := 75) (.inl rfl) ((link_ok hp.1).2.2 h1)
    rw [if_pos h1, h2] at e
    refine ⟨x, by rw [e]; rfl, by rw [h3], fun hl => ?_, fun _ => .inl ⟨by rw [h3]; rfl, h1⟩⟩
    exfalso
    rw [ed, e] at hl
    simp at hl
    omega
  · rw [if_neg h1, List.nil_append] at e
    cases h4 : (needs n).1 with
    | true =>
      rw [h4, if_pos rfl] at e
      obtain ⟨x, y, h2, h3, _⟩ := long_two (kind := 76) (.inr rfl) (may_long hp.2.1)
      rw [h2] at e
      refine ⟨x, by rw [e]; rfl, by rw [h3], fun hl => ?_, fun _ => .inr ⟨by rw [h3]; rfl, h1⟩⟩
      exfalso
      rw [ed, e] at hl
      simp at hl
      omega
    | false =>
      rw [h4, if_neg (by decide), List.nil_append] at e
      refine ⟨entBlk n, by rw [e]; rfl, by rw [entBlk_get h], fun _ => by rw [entBlk_get h]; rfl, fun hl => ?_⟩
      exfalso
      apply hl
      rw [ed, e]
      simp; omega
theorem entPut_len {n : Nd} (h : one n = true) : (entPut n).length = (ahead n).length + 1 + (cutB n.data).length := by rw [entPut_eq h]; simp; omega
theorem entPut_at {n : Nd} (h : one n = true) : (entPut n)[(ahead n).length]? = some (entBlk n) := by rw [entPut_eq h]; simp
theorem drop_ent {n : Nd} (h : one n = true) : (entPut n).drop ((ahead n).length + 1) = cutB n.data := by
  rw [entPut_eq h, ← List.drop_drop, List.drop_left]; rfl
theorem long_may {kind : UInt8} {s : List UInt8} : mayB ((longPut kind s).getD []) = true := by
  cases h : (longPut kind s).isSome with
  | false => rw [(longPut_none h).1]; rfl
  | true =>
    have h1 := longPut_some h
    obtain ⟨x, y, h2, _, h3, _, h4⟩ := long_two h1.1 h1.2.1
    rw [h2]; simp [mayB, h3, h4]
theorem mayB_append (a b : List (List UInt8)) : mayB (a ++ b) = (mayB a && mayB b) := by unfold mayB; rw [List.all_append]
theorem ahead_may (n : Nd) : mayB (ahead n) = true := by
  unfold ahead aheadPart
  rw [mayB_append]
  have h1 := long_may (kind := 75) (s := n.link)
  have h2 := long_may (kind := 76) (s := n.path)
  split <;> split <;> simp [h1, h2] <;> rfl
theorem entPut_may {n : Nd} (h : one n = true) : mayB (entPut n) = true := by
  rw [entPut_eq h, mayB_append, ahead_may]
  have := cutB_may n.data
  unfold mayB at this ⊢
  rw [List.all_cons, this, entBlk_len h]; rfl
end Go.Proofs.Ytpgeogdmjgmimaa.Pl
