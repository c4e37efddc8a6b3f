/-
  Plain: headers that are got; who goes on. No program in sight.
-/
import Derived.Test.YtpgeogdmjgmimaaPParse
import Derived.Test.YtpgeogdmjgmimaaPEnt
import Derived.Test.YtpgeogdmjgmimaaW24
set_option linter.unusedVariables false
set_option linter.unusedSimpArgs false
namespace Go.Proofs.Ytpgeogdmjgmimaa.Pl
open Go.Lib Go.Proofs.Ytpgeogdmjgmimaa

/-- A header that is got may be, and its block is its own. -/
theorem may_of_put {h : Hd} {b : List UInt8} (e : putH h = some b) : mayH h = true := by
  cases hm : mayH h with
  | true => rfl
  | false => rw [put_no hm] at e; cases e
theorem ok_aux {b : List UInt8} {q : Hd} (e : getH b = (q, 0)) (e2 : putH q = some b) (hl : b.length = 512) : mayH (getH b).1 = true ∧ putH (getH b).1 = some b ∧ b.length = 512 := by
  rw [e]; exact ⟨may_of_put e2, e2, hl⟩
theorem getH_ok {b : List UInt8} (h : (getH b).2 = 0) : mayH (getH b).1 = true ∧ putH (getH b).1 = some b ∧ b.length = 512 := by
  by_cases h1 : (b.length : Int) = 512
  · cases h2 : zeroB b with
    | true => rw [get_zero h1 h2] at h; cases h
    | false =>
      by_cases h3 : (b.take 156).drop 148 = sumF b
      · by_cases h4 : putH (decH b) = some b
        · exact ok_aux (get_ok h1 h2 h3 h4) h4 (Int.ofNat.inj h1)
        · rw [get_form h1 h2 h3 h4] at h; cases h
      · rw [get_sum h1 h2 h3] at h; cases h
  · rw [get_len h1] at h; cases h
theorem mayH_word {h : Hd} (hm : mayH h = true) {x : Nat × Nat × Nat} (hx : x ∈ wordsL h.typ) : (hS h x.2.2).length ≤ x.2.1 := by
  obtain ⟨k, hk⟩ := List.mem_iff_getElem?.1 hx
  exact word_len hm hk
theorem putN_nonneg {n w : Int} (h : (putN n w).isSome = true) : 0 ≤ n := by
  unfold putN at h
  split at h
  · cases h
  · rename_i hc; omega
theorem mayH_num {h : Hd} (hm : mayH h = true) {x : Nat × Nat × Nat} (hx : x ∈ numsL h.typ) : 0 ≤ hN h x.2.2 := by
  have h1 := (may_split hm).2.2.2
  rw [List.all_eq_true] at h1
  exact putN_nonneg (h1 x hx)
theorem mayH_nonneg {h : Hd} (hm : mayH h = true) : 0 ≤ h.mode ∧ 0 ≤ h.uid ∧ 0 ≤ h.gid ∧ 0 ≤ h.size ∧ 0 ≤ h.mtime ∧ 0 ≤ h.off ∧ 0 ≤ h.real := by
  have i1 : ∀ x ∈ [((100 : Nat), (8 : Nat), (3 : Nat)), (108, 8, 4), (116, 8, 5), (124, 12, 6), (136, 12, 7)], x ∈ numsL h.typ := fun x hx => by unfold numsL; exact List.mem_append_left _ hx
  refine ⟨mayH_num hm (i1 (100, 8, 3) (by simp)), mayH_num hm (i1 (108, 8, 4) (by simp)), mayH_num hm (i1 (116, 8, 5) (by simp)), mayH_num hm (i1 (124, 12, 6) (by simp)), mayH_num hm (i1 (136, 12, 7) (by simp)), ?_⟩
  by_cases e : h.typ = 77
  · have i2 : ∀ x ∈ [((369 : Nat), (12 : Nat), (9 : Nat)), (483, 12, 10)], x ∈ numsL h.typ := fun x hx => by unfold numsL; rw [if_pos e]; exact List.mem_append_right _ hx
    exact ⟨mayH_num hm (i2 (369, 12, 9) (by simp)), mayH_num hm (i2 (483, 12, 10) (by simp))⟩
  · have h2 := (may_split hm).2.1
    have hp : h.off = 0 ∧ h.real = 0 := by simp [may2, e] at h2; exact h2
    omega
theorem mayH_name {h : Hd} (hm : mayH h = true) : h.name ≠ [] ∧ h.name.length ≤ 100 ∧ h.link.length ≤ 100 ∧ h.pre.length ≤ 155 := by
  have h1 := (may_split hm).1
  have w1 : ∀ x ∈ [((0 : Nat), (100 : Nat), (0 : Nat)), (157, 100, 2)], x ∈ wordsL h.typ := fun x hx => by unfold wordsL; exact List.mem_append_left _ hx
  refine ⟨by simp [may1] at h1; exact h1.1, mayH_word hm (w1 (0, 100, 0) (by simp)), mayH_word hm (w1 (157, 100, 2) (by simp)), ?_⟩
  by_cases e : h.typ = 77
  · have h2 := (may_split hm).2.1
    have hp : h.pre = [] := by simp [may2, e] at h2; exact h2
    rw [hp]; simp
  · exact mayH_word hm (x := (345, 155, 1)) (by unfold wordsL; rw [if_neg e]; simp)
theorem nx_ok {l : List (List UInt8)} {k : Nat} (h : (nx l k).2.1 = true) : ∃ b, l[k]? = some b ∧ (getH b).2 = 0 ∧ (nx l k).1 = (getH b).1 ∧ (nx l k).2.2 = k + 1 := by
  cases hx : l[k]? with
  | none =>
    have : l.length ≤ k := by
      rcases Nat.lt_or_ge k l.length with h1 | h1
      · rw [List.getElem?_eq_getElem h1] at hx; cases hx
      · exact h1
    rw [nx_no this] at h; cases h
  | some b =>
    rw [nx_at hx] at h ⊢
    exact ⟨b, rfl, by simpa using h, rfl, rfl⟩
theorem nextH_yes {l : List (List UInt8)} {k : Nat} (h : (nx l k).2.1 = true) : nextH l k = some (nx l k).1 := by
  obtain ⟨b, hb, he, h1, _⟩ := nx_ok h
  unfold nextH; rw [hb]; simp only; rw [if_pos he, h1]
theorem nextH_no {l : List (List UInt8)} {k : Nat} (h : (nx l k).2.1 = false) : nextH l k = none := by
  unfold nextH
  cases hx : l[k]? with
  | none => rfl
  | some b =>
    rw [nx_at hx] at h
    simp only
    rw [if_neg (by simpa using h)]
theorem cg_no1 {l : List (List UInt8)} (h : (nx l 0).2.1 = false) : contGet l = none := by unfold contGet; rw [nextH_no h]
theorem cg_a {l : List (List UInt8)} (h : (nx l 0).2.1 = true) (ht : ¬ (nx l 0).1.typ = 76) : contGet l = contEnd l 1 [] (nx l 0).1 := by
  unfold contGet; rw [nextH_yes h]; simp only; rw [if_neg ht]
theorem cg_b1 {l : List (List UInt8)} (h : (nx l 0).2.1 = true) (ht : (nx l 0).1.typ = 76) (hl : l.length ≤ 1) : contGet l = none := by
  unfold contGet; rw [nextH_yes h]; simp only; rw [if_pos ht, List.getElem?_eq_none hl]
theorem cg_b2 {l : List (List UInt8)} {b : List UInt8} (h : (nx l 0).2.1 = true) (ht : (nx l 0).1.typ = 76) (hb : l[1]? = some b) (hc : b.length ≠ 512 ∨ (nx l 0).1.size < 2 ∨ 301 < (nx l 0).1.size) : contGet l = none := by
  unfold contGet; rw [nextH_yes h]; simp only; rw [if_pos ht, hb]; simp only; rw [if_pos hc]
theorem cg_b3 {l : List (List UInt8)} {b : List UInt8} (h : (nx l 0).2.1 = true) (ht : (nx l 0).1.typ = 76) (hb : l[1]? = some b) (hc : ¬ (b.length ≠ 512 ∨ (nx l 0).1.size < 2 ∨ 301 < (nx l 0).1.size)) (h2 : (nx l 2).2.1 = false) : contGet l = none := by
  unfold contGet; rw [nextH_yes h]; simp only; rw [if_pos ht, hb]; simp only; rw [if_neg hc, nextH_no h2]
theorem cg_b {l : List (List UInt8)} {b : List UInt8} (h : (nx l 0).2.1 = true) (ht : (nx l 0).1.typ = 76) (hb : l[1]? = some b) (hc : ¬ (b.length ≠ 512 ∨ (nx l 0).1.size < 2 ∨ 301 < (nx l 0).1.size)) (h2 : (nx l 2).2.1 = true) :
    contGet l = contEnd l 3 (trimZ (b.take (nx l 0).1.size.toNat)) (nx l 2).1 := by
  unfold contGet; rw [nextH_yes h]; simp only; rw [if_pos ht, hb]; simp only; rw [if_neg hc, nextH_yes h2]
theorem ce_no {l : List (List UInt8)} {k : Nat} {nm : List UInt8} {h : Hd} (ht : ¬ h.typ = 77) : contEnd l k nm h = none := by unfold contEnd; rw [if_pos ht]
def contOk (n : Nd) (h : Hd) : Bool := pathMay n.path && (isFile n && (decide (h.real ≤ 4000) && (decide (h.off < h.real) && decide (h.off % 512 = 0))))
theorem contOk_eq (nm : List UInt8) (h : Hd) : contOk (contNode nm h) h = (pathMay nm && (isFile (contNode nm h) && (decide (h.real ≤ 4000) && (decide (h.off < h.real) && decide (h.off % 512 = 0))))) := rfl
theorem ce_eq {l : List (List UInt8)} {k : Nat} {nm : List UInt8} {h : Hd} (ht : h.typ = 77) (nm' : List UInt8) (hn : (if nm = [] then h.name else nm) = nm') :
    contEnd l k nm h = if contOk (contNode nm' h) h = true ∧ contRaw (contNode nm' h) h.off h.real = l.take k then some (contNode nm' h, h.off, h.real, k) else none := by
  unfold contEnd; rw [if_neg (by rw [ht]; simp)]; subst hn; rfl
theorem trimZ_suf (s : List UInt8) : trimSuf s [0] = trimZ s := by
  unfold trimSuf trimZ hasSuf
  rcases List.eq_nil_or_concat s with rfl | ⟨a, b, rfl⟩
  · rfl
  · have e1 : (a.concat b) = a ++ [b] := by simp
    rw [e1]
    have e2 : (a ++ [b]).length - [(0 : UInt8)].length = a.length := by simp
    rw [e2, List.drop_left, List.take_left]
    by_cases hb : b = 0
    · subst hb; simp; omega
    · simp [hb]
end Go.Proofs.Ytpgeogdmjgmimaa.Pl
namespace Go.Proofs.Ytpgeogdmjgmimaa.Pl
open Go.Lib Go.Proofs.Ytpgeogdmjgmimaa

def nd0 (n : Nd) : Nd := { n with data := [] }
theorem file_parts {n : Nd} (h : isFile n = true) : n.kind = 48 ∧ one n = true ∧ n.link = [] ∧ n.data.length ≤ 4000 := by
  unfold isFile at h
  rw [Bool.and_eq_true] at h
  have hk := of_decide_eq_true h.1
  refine ⟨hk, h.2, ?_⟩
  rcases kind_cases (one_parts h.2).1 with ⟨_, h1, h2⟩ | ⟨h1, _⟩ | ⟨h1, _⟩ | ⟨h1, _⟩
  · exact ⟨h1, h2⟩
  all_goals rw [hk] at h1; cases h1
theorem file_data {n : Nd} (h : isFile n = true) (d : List UInt8) (hd : d.length ≤ 4000) : isFile { n with data := d } = true := by
  have hp := file_parts h
  have ho := hp.2.1
  unfold one at ho
  rw [Bool.and_eq_true] at ho
  unfold isFile one
  rw [Bool.and_eq_true, Bool.and_eq_true]
  refine ⟨by simp [hp.1], ?_, ho.2⟩
  unfold kindMay
  rw [if_pos hp.1]
  simp [hp.2.2.1]; omega
theorem contHead_may {n : Nd} {off whole : Int} (h : one n = true) (h0 : 0 ≤ off) (h1 : off < whole) (h2 : whole ≤ 1000000) : mayH (contHead n off whole) = true := by
  have hp := one_parts h
  have hn := may_ne hp.2.1
  have m1 : may1 (contHead n off whole) = true := by
    have e : short n.path ≠ [] := by
      unfold short
      intro e
      have hl : 0 < n.path.length := List.length_pos_iff.2 hn.1
      rw [List.take_eq_nil_iff] at e
      rcases e with e | e
      · omega
      · exact hn.1 e
    have e2 : decide (indexByte kindsS 77 < 0) = false := by decide
    show (!(decide (short n.path = []) || decide (indexByte kindsS 77 < 0))) = true
    rw [e2, decide_eq_false e]; rfl
  have m2 : may2 (contHead n off whole) = true := by simp [may2, contHead]
  have m3 : (wordsL 77).all (okW (contHead n off whole)) = true := by
    have a1 : okW (contHead n off whole) (0, 100, 0) = true := okW_of (by show (short n.path).length ≤ 100; simp [short]; omega) (no_zero_sub hn.2.2 (fun x hx => List.mem_of_mem_take hx))
    have a2 : okW (contHead n off whole) (157, 100, 2) = true := okW_of (by show ([] : List UInt8).length ≤ 100; simp) (by show indexByte [] 0 < 0; decide)
    unfold wordsL; rw [if_pos rfl]
    simp only [List.append_nil, List.all_cons, List.all_nil, a1, a2, Bool.and_true]
  have m4 : (numsL 77).all (okN (contHead n off whole)) = true := by
    have a1 : okN (contHead n off whole) (100, 8, 3) = true := putN_big (n := n.mode) (w := 8) hp.2.2.1.1 (by omega) (.inl rfl)
    have a2 : okN (contHead n off whole) (108, 8, 4) = true := putN_big (n := n.uid) (w := 8) hp.2.2.2.1.1 (by omega) (.inl rfl)
    have a3 : okN (contHead n off whole) (116, 8, 5) = true := putN_big (n := n.gid) (w := 8) hp.2.2.2.2.1.1 (by omega) (.inl rfl)
    have a4 : okN (contHead n off whole) (124, 12, 6) = true := putN_big (n := whole - off) (w := 12) (by omega) (by omega) (.inr rfl)
    have a5 : okN (contHead n off whole) (136, 12, 7) = true := putN_big (n := n.mtime) (w := 12) hp.2.2.2.2.2.1 (by omega) (.inr rfl)
    have a6 : okN (contHead n off whole) (369, 12, 9) = true := putN_big (n := off) (w := 12) (by omega) (by omega) (.inr rfl)
    have a7 : okN (contHead n off whole) (483, 12, 10) = true := putN_big (n := whole) (w := 12) (by omega) (by omega) (.inr rfl)
    unfold numsL; rw [if_pos rfl]
    simp only [List.cons_append, List.nil_append, List.append_nil, List.all_cons, List.all_nil, a1, a2, a3, a4, a5, a6, a7, Bool.and_true]
  unfold mayH
  show (may1 (contHead n off whole) && may2 (contHead n off whole) && (wordsL 77).all (okW (contHead n off whole)) && (numsL 77).all (okN (contHead n off whole))) = true
  rw [m1, m2, m3, m4]; rfl
def contBlk (n : Nd) (off whole : Int) : List UInt8 := (putH (contHead n off whole)).getD []
theorem contBlk_get {n : Nd} {off whole : Int} (h : one n = true) (h0 : 0 ≤ off) (h1 : off < whole) (h2 : whole ≤ 1000000) : getH (contBlk n off whole) = (contHead n off whole, 0) ∧ (contBlk n off whole).length = 512 := by
  have hm := contHead_may h h0 h1 h2
  have hp := one_parts h
  unfold contBlk
  rw [put_yes hm]
  refine ⟨getH_page hm (fun o => ?_), page_len hm⟩
  unfold hN contHead
  split <;> simp only <;> omega
theorem contRaw_eq (n : Nd) (off whole : Int) : contRaw n off whole = (if 100 < n.path.length then (longPut 76 n.path).getD [] else []) ++ [contBlk n off whole] := rfl
theorem nextH_at {l : List (List UInt8)} {k : Nat} {b : List UInt8} {h : Hd} (hb : l[k]? = some b) (hg : getH b = (h, 0)) : nextH l k = some h := by
  unfold nextH; rw [hb]; simp only; rw [if_pos (by rw [hg]), hg]
theorem contEnd_back {n : Nd} {off whole : Int} {rest : List (List UInt8)} {nm : List UInt8} {k : Nat} (hf : isFile n = true) (h0 : 0 ≤ off) (h1 : off < whole) (h2 : whole ≤ 4000) (h3 : off % 512 = 0)
    (hnm : (if nm = [] then (contHead n off whole).name else nm) = n.path) (hk : k = (contRaw n off whole).length) :
    contEnd (contRaw n off whole ++ rest) k nm (contHead n off whole) = some (nd0 n, off, whole, k) := by
  have hp := file_parts hf
  have hn : contNode n.path (contHead n off whole) = nd0 n := by
    obtain ⟨a1, a2, a3, a4, a5, a6, a7, a8⟩ := n
    have q1 := hp.1
    have q2 := hp.2.2.1
    simp only at q1 q2
    subst q1; subst q2; rfl
  rw [ce_eq rfl n.path hnm, hn]
  refine (if_pos ⟨?_, ?_⟩).trans rfl
  · unfold contOk
    have hmay := (one_parts hp.2.1).2.1
    have hff := file_data hf [] (by simp)
    show (pathMay n.path && (isFile (nd0 n) && (decide (whole ≤ 4000) && (decide (off < whole) && decide (off % 512 = 0))))) = true
    have e : isFile (nd0 n) = true := hff
    rw [hmay, e, decide_eq_true h2, decide_eq_true h1, decide_eq_true h3]; rfl
  · rw [hk, List.take_left]; rfl
/-- What is put is got, whatever stands behind it. -/
theorem contGet_back {n : Nd} {off whole : Int} {rest : List (List UInt8)} (hf : isFile n = true) (h0 : 0 ≤ off) (h1 : off < whole) (h2 : whole ≤ 4000) (h3 : off % 512 = 0) :
    contGet (contRaw n off whole ++ rest) = some (nd0 n, off, whole, (contRaw n off whole).length) := by
  have hp := file_parts hf
  have hb := contBlk_get hp.2.1 h0 h1 (by omega : whole ≤ 1000000)
  have hmay := (one_parts hp.2.1).2.1
  have hne := may_ne hmay
  by_cases hl : 100 < n.path.length
  · obtain ⟨x, y, e, hx, hx5, hy, hy5⟩ := long_two (kind := 76) (.inr rfl) (may_long hmay)
    have er : contRaw n off whole = [x, y, contBlk n off whole] := by rw [contRaw_eq, if_pos hl, e]; rfl
    have hs : ((n.path.length : Int) + 1).toNat = n.path.length + 1 := by omega
    have ht : trimZ (y.take ((n.path.length : Int) + 1).toNat) = n.path := by
      rw [hs, hy]
      have : (pad (n.path ++ [0])).take (n.path.length + 1) = n.path ++ [0] := by
        unfold pad
        exact List.take_left' (by simp)
      rw [this]
      simp [trimZ]
    have key := contEnd_back (rest := rest) (nm := n.path) (k := 3) hf h0 h1 h2 h3 (by rw [if_neg hne.1]) (by rw [er]; rfl)
    unfold contGet
    rw [nextH_at (b := x) (h := longHead 76 n.path) (by rw [er]; rfl) hx]
    simp only
    rw [if_pos (show (longHead 76 n.path).typ = 76 from rfl)]
    have e1 : (contRaw n off whole ++ rest)[1]? = some y := by rw [er]; rfl
    rw [e1]
    simp only
    rw [if_neg (by
      show ¬ (y.length ≠ 512 ∨ (n.path.length : Int) + 1 < 2 ∨ 301 < (n.path.length : Int) + 1)
      omega), nextH_at (b := contBlk n off whole) (by rw [er]; rfl) hb.1]
    show contEnd _ 3 (trimZ (y.take ((n.path.length : Int) + 1).toNat)) _ = _
    rw [ht, key, er]; rfl
  · have er : contRaw n off whole = [contBlk n off whole] := by rw [contRaw_eq, if_neg hl]; rfl
    have hsh : short n.path = n.path := by unfold short; exact List.take_of_length_le (by omega)
    have key := contEnd_back (rest := rest) (nm := []) (k := 1) hf h0 h1 h2 h3 (by rw [if_pos rfl]; exact hsh) (by rw [er]; rfl)
    unfold contGet
    rw [nextH_at (b := contBlk n off whole) (by rw [er]; rfl) hb.1]
    simp only
    rw [if_neg (show ¬ (contHead n off whole).typ = 76 by show ¬ (77 : UInt8) = 76; decide), key, er]; rfl
theorem contRaw_len {n : Nd} {off whole : Int} (hf : isFile n = true) : ((contRaw n off whole).length : Int) = contMany n := by
  have hp := file_parts hf
  have hmay := (one_parts hp.2.1).2.1
  unfold contMany
  rw [if_neg (by rw [hf]; decide), contRaw_eq]
  by_cases hl : 100 < n.path.length
  · obtain ⟨x, y, e, _⟩ := long_two (kind := 76) (.inr rfl) (may_long hmay)
    rw [if_pos hl, if_pos hl, e]; rfl
  · rw [if_neg hl, if_neg hl]; rfl
theorem contRaw_mayB {n : Nd} {off whole : Int} (h : one n = true) (h0 : 0 ≤ off) (h1 : off < whole) (h2 : whole ≤ 1000000) : mayB (contRaw n off whole) = true := by
  have hb := (contBlk_get h h0 h1 h2).2
  rw [contRaw_eq, mayB_append]
  have h3 := long_may (kind := 76) (s := n.path)
  split
  · rw [h3]; simp [mayB, hb]
  · simp [mayB, hb]
theorem contRaw_last (n : Nd) (off whole : Int) : (contRaw n off whole)[(contRaw n off whole).length - 1]? = some (contBlk n off whole) := by
  rw [contRaw_eq]; simp
/-- What may go on: all that is said of it. -/
theorem contMay_all {n : Nd} {off : Int} (h : contMay n off = true) : isFile n = true ∧ 0 ≤ off ∧ off < n.data.length ∧ off % 512 = 0 ∧ (n.data.length : Int) ≤ 4000 := by
  unfold contMay at h
  simp only [Bool.and_eq_true, decide_eq_true_eq] at h
  have := (file_parts h.1).2.2.2
  exact ⟨h.1, h.2.1, h.2.2.1, h.2.2.2, by omega⟩
theorem contPut_some {n : Nd} {off : Int} (h : (contPut n off).isSome = true) : contMay n off = true ∧ contPut n off = some (contRaw n off n.data.length) := by
  unfold contPut at h ⊢
  cases hm : contMay n off with
  | true => exact ⟨rfl, by rw [if_pos rfl]⟩
  | false => rw [hm, if_neg (by decide)] at h; cases h
theorem contPut_none {n : Nd} {off : Int} (h : (contPut n off).isSome = false) : contMay n off = false ∧ contPut n off = none := by
  unfold contPut at h ⊢
  cases hm : contMay n off with
  | true => rw [hm, if_pos rfl] at h; cases h
  | false => exact ⟨rfl, by rw [if_neg (by decide)]⟩
/-- Two have the same headers just if they are the same but for the bytes. -/
theorem contRaw_inj {n m : Nd} {off at_ : Int} (h : contMay n off = true) (h' : contMay m at_ = true) : contRaw n off n.data.length = contRaw m at_ m.data.length ↔ nd0 n = nd0 m ∧ off = at_ ∧ (n.data.length : Int) = m.data.length := by
  have p := contMay_all h
  have q := contMay_all h'
  constructor
  · intro e
    have e1 := contGet_back (rest := []) p.1 p.2.1 p.2.2.1 p.2.2.2.2 p.2.2.2.1
    have e2 := contGet_back (rest := []) q.1 q.2.1 q.2.2.1 q.2.2.2.2 q.2.2.2.1
    rw [e, e2] at e1
    have := Option.some.inj e1
    simp only [Prod.mk.injEq] at this
    exact ⟨this.1.symm, this.2.1.symm, this.2.2.1.symm⟩
  · rintro ⟨e1, e2, e3⟩
    have a : ∀ (x : Nd) (o w : Int), contRaw x o w = contRaw (nd0 x) o w := fun _ _ _ => rfl
    rw [a n, a m, e1, e2, e3]
theorem nextH_some {l : List (List UInt8)} {k : Nat} {h : Hd} (e : nextH l k = some h) : mayH h = true ∧ k < l.length := by
  unfold nextH at e
  cases hx : l[k]? with
  | none => rw [hx] at e; cases e
  | some b =>
    rw [hx] at e
    simp only at e
    split at e
    · rename_i h0
      have := Option.some.inj e
      subst this
      exact ⟨(getH_ok h0).1, (List.getElem?_eq_some_iff.1 hx).1⟩
    · cases e
theorem contEnd_got {l : List (List UInt8)} {k k' : Nat} {nm : List UInt8} {h : Hd} {n : Nd} {off whole : Int} (hm : mayH h = true) (e : contEnd l k nm h = some (n, off, whole, k')) :
    n.data = [] ∧ isFile n = true ∧ 0 ≤ off ∧ off < whole ∧ whole ≤ 4000 ∧ off % 512 = 0 ∧ k' = k ∧ contRaw n off whole = l.take k := by
  by_cases ht : h.typ = 77
  · obtain ⟨nm', hnm⟩ : ∃ x, (if nm = [] then h.name else nm) = x := ⟨_, rfl⟩
    rw [ce_eq ht nm' hnm] at e
    split at e
    · rename_i hc
      simp only [Option.some.injEq, Prod.mk.injEq] at e
      obtain ⟨rfl, rfl, rfl, rfl⟩ := e
      have h1 := hc.1
      rw [contOk_eq] at h1
      simp only [Bool.and_eq_true, decide_eq_true_eq] at h1
      exact ⟨rfl, h1.2.1, (mayH_nonneg hm).2.2.2.2.2.1, h1.2.2.2.1, h1.2.2.1, h1.2.2.2.2, rfl, hc.2⟩
    · cases e
  · rw [ce_no ht] at e; cases e
/-- What is got may go on there. -/
theorem contGet_got {l : List (List UInt8)} {n : Nd} {off whole : Int} {k : Nat} (e : contGet l = some (n, off, whole, k)) :
    n.data = [] ∧ isFile n = true ∧ 0 ≤ off ∧ off < whole ∧ whole ≤ 4000 ∧ off % 512 = 0 ∧ (1 ≤ k ∧ k ≤ l.length) ∧ contRaw n off whole = l.take k := by
  unfold contGet at e
  cases h0 : nextH l 0 with
  | none => rw [h0] at e; cases e
  | some h =>
    rw [h0] at e
    have p0 := nextH_some h0
    simp only at e
    split at e
    · cases h1 : l[1]? with
      | none => rw [h1] at e; cases e
      | some b =>
        rw [h1] at e
        simp only at e
        split at e
        · cases e
        · cases h2 : nextH l 2 with
          | none => rw [h2] at e; cases e
          | some g =>
            rw [h2] at e
            have p2 := nextH_some h2
            obtain ⟨a1, a2, a3, a4, a5, a6, a7, a8⟩ := contEnd_got p2.1 e
            exact ⟨a1, a2, a3, a4, a5, a6, by omega, by rw [a7]; exact a8⟩
    · obtain ⟨a1, a2, a3, a4, a5, a6, a7, a8⟩ := contEnd_got p0.1 e
      exact ⟨a1, a2, a3, a4, a5, a6, by omega, by rw [a7]; exact a8⟩
/-- With as many bytes it is put again, as the blocks that told so. -/
theorem contGot_put {n : Nd} {off whole : Int} {d : List UInt8} (hf : isFile n = true) (h0 : 0 ≤ off) (h1 : off < whole) (h2 : whole ≤ 4000) (h3 : off % 512 = 0) (hd : (d.length : Int) = whole) :
    contPut { n with data := d } off = some (contRaw n off whole) := by
  have hff := file_data hf d (by omega)
  have hm : contMay { n with data := d } off = true := by
    unfold contMay
    show (isFile { n with data := d } && (decide (0 ≤ off) && (decide (off < (d.length : Int)) && decide (off % 512 = 0)))) = true
    rw [hff, decide_eq_true h0, decide_eq_true (by omega : off < (d.length : Int)), decide_eq_true h3]; rfl
  unfold contPut
  rw [if_pos hm]
  show some (contRaw { n with data := d } off (d.length : Int)) = _
  rw [hd]; rfl
end Go.Proofs.Ytpgeogdmjgmimaa.Pl
