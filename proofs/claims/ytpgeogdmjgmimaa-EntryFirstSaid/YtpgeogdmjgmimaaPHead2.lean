/-
  Plain: a header that is put is got again.
-/
import Derived.Test.YtpgeogdmjgmimaaW12
import Derived.Test.YtpgeogdmjgmimaaPNum2
set_option linter.unusedVariables false
set_option linter.unusedSimpArgs false
set_option maxRecDepth 4000
namespace Go.Proofs.Ytpgeogdmjgmimaa.Pl
open Go.Lib Go.Proofs.Ytpgeogdmjgmimaa

abbrev Fld := Nat × Nat × Nat
def apart (x y : Fld) : Prop := x.1 + x.2.1 ≤ y.1 ∨ y.1 + y.2.1 ≤ x.1
instance (x y : Fld) : Decidable (apart x y) := by unfold apart; infer_instance
def lay (val : Fld → List UInt8) (l : List Fld) (p : List UInt8) : List UInt8 := l.foldl (fun p x => wr p x.1 (val x)) p
theorem lay_len {val : Fld → List UInt8} {l : List Fld} : ∀ {p : List UInt8}, (∀ x ∈ l, (val x).length ≤ x.2.1 ∧ x.1 + x.2.1 ≤ p.length) → (lay val l p).length = p.length := by
  induction l with
  | nil => intro p _; rfl
  | cons y l ih =>
    intro p h
    have hy := h y (List.mem_cons_self ..)
    have e : (wr p y.1 (val y)).length = p.length := wr_len (by omega)
    have := ih (p := wr p y.1 (val y)) (fun x hx => by rw [e]; exact h x (List.mem_cons_of_mem _ hx))
    rw [← e, ← this]; rfl
theorem lay_apart {val : Fld → List UInt8} {l : List Fld} {a m : Nat} : ∀ {p : List UInt8}, (∀ x ∈ l, (val x).length ≤ x.2.1 ∧ x.1 + x.2.1 ≤ p.length) → (∀ x ∈ l, a + m ≤ x.1 ∨ x.1 + x.2.1 ≤ a) → seg (lay val l p) a m = seg p a m := by
  induction l with
  | nil => intro p _ _; rfl
  | cons y l ih =>
    intro p h hd
    have hy := h y (List.mem_cons_self ..)
    have hdy := hd y (List.mem_cons_self ..)
    have e : (wr p y.1 (val y)).length = p.length := wr_len (by omega)
    have := ih (p := wr p y.1 (val y)) (fun x hx => by rw [e]; exact h x (List.mem_cons_of_mem _ hx)) (fun x hx => hd x (List.mem_cons_of_mem _ hx))
    rw [← seg_ne (p := p) (x := val y) (i := y.1) (a := a) (m := m) (by omega) (by omega), ← this]; rfl
theorem lay_at {val : Fld → List UInt8} {l : List Fld} : ∀ {p : List UInt8}, (∀ x ∈ l, (val x).length ≤ x.2.1 ∧ x.1 + x.2.1 ≤ p.length) → l.Pairwise apart → ∀ x ∈ l, seg (lay val l p) x.1 x.2.1 = val x ++ seg p (x.1 + (val x).length) (x.2.1 - (val x).length) := by
  induction l with
  | nil => intro p _ _ x hx; cases hx
  | cons y l ih =>
    intro p h hp x hx
    rw [List.pairwise_cons] at hp
    have hy := h y (List.mem_cons_self ..)
    have e : (wr p y.1 (val y)).length = p.length := wr_len (by omega)
    have hl : ∀ x ∈ l, (val x).length ≤ x.2.1 ∧ x.1 + x.2.1 ≤ (wr p y.1 (val y)).length := fun x hx => by rw [e]; exact h x (List.mem_cons_of_mem _ hx)
    show seg (lay val l (wr p y.1 (val y))) x.1 x.2.1 = _
    rcases List.mem_cons.1 hx with rfl | hx
    · rw [lay_apart hl (fun z hz => by have := hp.1 z hz; unfold apart at this; exact this), seg_eq (by omega) hy.1]
    · rw [ih hl hp.2 x hx]
      have hxx := h x (List.mem_cons_of_mem _ hx)
      have := hp.1 x hx
      unfold apart at this
      rw [seg_ne (by omega) (by omega)]
theorem words_pw (t : UInt8) : (wordsL t).Pairwise apart := by unfold wordsL; split <;> decide
theorem nums_pw (t : UInt8) : (numsL t).Pairwise apart := by unfold numsL; split <;> decide
theorem words_in {t : UInt8} {x : Fld} (hx : x ∈ wordsL t) : x.1 + x.2.1 ≤ 500 ∧ (x.1 + x.2.1 ≤ 148 ∨ 157 ≤ x.1) ∧ (x.1 + x.2.1 ≤ 257 ∨ 265 ≤ x.1) := by
  unfold wordsL at hx
  split at hx <;> simp at hx
  · rcases hx with rfl | rfl <;> decide
  · rcases hx with rfl | rfl | rfl <;> decide
theorem nums_in {t : UInt8} {x : Fld} (hx : x ∈ numsL t) : x.1 + x.2.1 ≤ 495 ∧ (x.1 + x.2.1 ≤ 148 ∨ 157 ≤ x.1) ∧ (x.1 + x.2.1 ≤ 257 ∨ 265 ≤ x.1) := by
  unfold numsL at hx
  split at hx <;> simp at hx
  · rcases hx with rfl | rfl | rfl | rfl | rfl | rfl | rfl <;> decide
  · rcases hx with rfl | rfl | rfl | rfl | rfl <;> decide
theorem words_nums {t : UInt8} {x y : Fld} (hx : x ∈ wordsL t) (hy : y ∈ numsL t) : x.1 + x.2.1 ≤ y.1 ∨ y.1 + y.2.1 ≤ x.1 := by
  have h1 : ∀ x ∈ wordsL t, ∀ y ∈ numsL t, x.1 + x.2.1 ≤ y.1 ∨ y.1 + y.2.1 ≤ x.1 := by
    unfold wordsL numsL
    by_cases e : t = 77
    · rw [if_pos e, if_pos e]; decide
    · rw [if_neg e, if_neg e]; decide
  exact h1 x hx y hy
def valS (h : Hd) (x : Fld) : List UInt8 := hS h x.2.2
def valN (h : Hd) (x : Fld) : List UInt8 := (putN (hN h x.2.2) (x.2.1 : Nat)).getD []
theorem page1_lay (h : Hd) : page1 h = lay (valS h) (wordsL h.typ) (List.replicate 512 0) := rfl
theorem page2_lay (h : Hd) : page2 h = lay (valN h) (numsL h.typ) (page1 h) := rfl
theorem zero_head {p : List UInt8} (hl : p.length = 512) (hz : zeroB p = true) : decW p (0, 100, 0) = [] := by
  have h0 : p[0]? = some 0 := by
    obtain ⟨c, hc⟩ : ∃ c, p[0]? = some c := ⟨_, List.getElem?_eq_getElem (by omega)⟩
    unfold zeroB at hz
    rw [List.all_eq_true] at hz
    have := hz c (List.mem_of_getElem? hc)
    simp at this
    rw [hc, this]
  show (cutS (seg p 0 100) 0).1 = []
  have hs : (seg p 0 100)[0]? = some 0 := by rw [seg_get, if_pos (by omega), Nat.zero_add, h0]
  cases hq : seg p 0 100 with
  | nil => rw [hq] at hs; cases hs
  | cons c l =>
    rw [hq] at hs
    have : c = 0 := by simpa using hs
    rw [cutS_cons, if_pos this]
theorem sum_wr {p x : List UInt8} (hp : p.length = 512) (hx : x.length ≤ 8) : sumB (wr p 148 x) = sumB p := by
  have hl : (wr p 148 x).length = 512 := by rw [wr_len (by omega), hp]
  unfold sumB
  rw [if_pos hl, if_pos hp]
  have key : ∀ (l m : List UInt8) (i : Nat), l.length = m.length → (∀ j, ¬ (148 ≤ i + j ∧ i + j < 156) → l[j]? = m[j]?) → sumAt i l = sumAt i m := by
    intro l
    induction l with
    | nil => intro m i hlen _; cases m with
      | nil => rfl
      | cons _ _ => simp at hlen
    | cons c l ih =>
      intro m i hlen hj
      cases m with
      | nil => simp at hlen
      | cons d m =>
        rw [sumAt, sumAt, ih m (i + 1) (by simpa using hlen) (fun j hj2 => by have := hj (j + 1) (by omega); simpa using this)]
        by_cases hc : 148 ≤ i ∧ i < 156
        · rw [if_pos hc, if_pos hc]
        · rw [if_neg hc, if_neg hc]
          have := hj 0 (by omega)
          simp at this
          rw [this]
  refine key _ _ 0 (by rw [hl, hp]) (fun j hj => ?_)
  rw [wr_get (by omega), if_neg (by omega)]
theorem sumF_full {p : List UInt8} (hp : p.length = 512) : (sumF p).length = 8 := by
  have hr := sumB_range p
  have h0 : 0 ≤ sumB p := by unfold sumB; rw [if_pos hp]; exact (sumAt_range 0 p).1
  have hs : octal (sumB p) 6 = some (octD 6 (sumB p)) := by
    unfold octal
    rw [if_neg (by omega), if_neg (by
      show ¬ 0 < sumB p / 8 ^ 6
      omega)]
    rfl
  unfold sumF
  rw [hs]
  simp [octD_length]
theorem valS_ok {h : Hd} (hm : mayH h = true) : ∀ x ∈ wordsL h.typ, (valS h x).length ≤ x.2.1 ∧ x.1 + x.2.1 ≤ (List.replicate 512 (0 : UInt8)).length := fun x hx => by
  obtain ⟨k, hk⟩ := List.mem_iff_getElem?.1 hx
  have := words_in hx
  exact ⟨word_len hm hk, by simp; omega⟩
theorem valN_ok {h : Hd} (hm : mayH h = true) : ∀ x ∈ numsL h.typ, (valN h x).length ≤ x.2.1 ∧ x.1 + x.2.1 ≤ (page1 h).length := fun x hx => by
  obtain ⟨k, hk⟩ := List.mem_iff_getElem?.1 hx
  have := nums_in hx
  rw [page1_len hm]
  exact ⟨Nat.le_of_eq (num_len hm hk), by omega⟩
/-- What the last writes leave as it is. -/
theorem page_seg {h : Hd} (hm : mayH h = true) {a m : Nat} (h1 : a + m ≤ 148 ∨ 157 ≤ a) (h2 : a + m ≤ 257 ∨ 265 ≤ a) : seg (page h) a m = seg (page2 h) a m := by
  have hf := sumF_len (page3 h)
  have l2 := page2_len hm
  have l3 := page3_len hm
  have b1 : (wr (page2 h) 156 [h.typ]).length = 512 := by rw [wr_len (by rw [l2]; simp), l2]
  have b2 : (wr (wr (page2 h) 156 [h.typ]) 257 [117, 115, 116, 97, 114]).length = 512 := by rw [wr_len (by rw [b1]; simp), b1]
  have b3 : (wr (wr (wr (page2 h) 156 [h.typ]) 257 [117, 115, 116, 97, 114]) 262 [0]).length = 512 := by rw [wr_len (by rw [b2]; simp), b2]
  show seg (wr (page3 h) 148 (sumF (page3 h))) a m = _
  rw [seg_ne (by rw [l3]; omega) (by omega)]
  show seg (wr (wr (wr (wr (page2 h) 156 [h.typ]) 257 [117, 115, 116, 97, 114]) 262 [0]) 263 [48, 48]) a m = _
  rw [seg_ne (by rw [b3]; simp) (by simp; omega), seg_ne (by rw [b2]; simp) (by simp; omega), seg_ne (by rw [b1]; simp) (by simp; omega), seg_ne (by rw [l2]; simp) (by simp; omega)]
theorem decW_page {h : Hd} (hm : mayH h = true) : ∀ x ∈ wordsL h.typ, decW (page h) x = hS h x.2.2 := fun x hx => by
  have hi := words_in hx
  have hv := valS_ok hm x hx
  show (cutS (seg (page h) x.1 x.2.1) 0).1 = _
  rw [page_seg hm hi.2.1 hi.2.2, page2_lay, lay_apart (valN_ok hm) (fun y hy => words_nums hx hy), page1_lay, lay_at (valS_ok hm) (words_pw _) x hx, seg_zero (by simp at hv; omega)]
  have hz : indexByte (valS h x) 0 < 0 := by
    have h1 := (may_split hm).2.2.1
    rw [List.all_eq_true] at h1
    have := h1 x hx
    simp [okW] at this
    exact this.2
  exact cutS_pad hz _
theorem seg_num {h : Hd} (hm : mayH h = true) : ∀ x ∈ numsL h.typ, seg (page h) x.1 x.2.1 = valN h x := fun x hx => by
  have hi := nums_in hx
  have hv := valN_ok hm x hx
  obtain ⟨k, hk⟩ := List.mem_iff_getElem?.1 hx
  have hl : (valN h x).length = x.2.1 := num_len hm hk
  rw [page_seg hm hi.2.1 hi.2.2, page2_lay, lay_at (valN_ok hm) (nums_pw _) x hx]
  have : seg (page1 h) (x.1 + (valN h x).length) (x.2.1 - (valN h x).length) = [] := by
    rw [hl, Nat.sub_self]; unfold seg; simp
  rw [this, List.append_nil]
theorem decN_page {h : Hd} (hm : mayH h = true) (hr : ∀ o, hN h o ≤ 9223372036854775807) : ∀ x ∈ numsL h.typ, decN (page h) x = hN h x.2.2 := fun x hx => by
  show (getN (seg (page h) x.1 x.2.1)).getD 0 = _
  rw [seg_num hm x hx]
  have h1 := (may_split hm).2.2.2
  rw [List.all_eq_true] at h1
  have := h1 x hx
  unfold okN at this
  obtain ⟨s, hs⟩ := Option.isSome_iff_exists.1 this
  unfold valN
  rw [hs]
  show (getN s).getD 0 = _
  rw [getN_putN (hr _) hs]; rfl
theorem page_typ {h : Hd} (hm : mayH h = true) : (page h)[156]? = some h.typ := by
  have hf := sumF_len (page3 h)
  have l2 := page2_len hm
  have l3 := page3_len hm
  have b1 : (wr (page2 h) 156 [h.typ]).length = 512 := by rw [wr_len (by rw [l2]; simp), l2]
  have b2 : (wr (wr (page2 h) 156 [h.typ]) 257 [117, 115, 116, 97, 114]).length = 512 := by rw [wr_len (by rw [b1]; simp), b1]
  have b3 : (wr (wr (wr (page2 h) 156 [h.typ]) 257 [117, 115, 116, 97, 114]) 262 [0]).length = 512 := by rw [wr_len (by rw [b2]; simp), b2]
  show (wr (page3 h) 148 (sumF (page3 h)))[156]? = _
  rw [wr_get (by rw [l3]; omega), if_neg (by omega)]
  show (wr (wr (wr (wr (page2 h) 156 [h.typ]) 257 [117, 115, 116, 97, 114]) 262 [0]) 263 [48, 48])[156]? = _
  rw [wr_get (by rw [b3]; simp), if_neg (by omega), wr_get (by rw [b2]; simp), if_neg (by omega), wr_get (by rw [b1]; simp), if_neg (by omega), wr_get (by rw [l2]; simp), if_pos (by simp)]
  rfl
theorem decH_page {h : Hd} (hm : mayH h = true) (hr : ∀ o, hN h o ≤ 9223372036854775807) : decH (page h) = h := by
  have ht : (page h).getD 156 0 = h.typ := by rw [List.getD_eq_getElem?_getD, page_typ hm]; rfl
  unfold decH
  rw [ht]
  simp only
  have f1 : ∀ (l : List Fld) (q : Hd), (∀ x ∈ l, decW (page h) x = hS h x.2.2) → l.foldl (fun h' x => setS h' x.2.2 (decW (page h) x)) q = l.foldl (fun h' x => setS h' x.2.2 (hS h x.2.2)) q := by
    intro l
    induction l with
    | nil => intro q _; rfl
    | cons y l ih => intro q hq; rw [List.foldl_cons, List.foldl_cons, hq y (List.mem_cons_self ..)]; exact ih _ (fun x hx => hq x (List.mem_cons_of_mem _ hx))
  have f2 : ∀ (l : List Fld) (q : Hd), (∀ x ∈ l, decN (page h) x = hN h x.2.2) → l.foldl (fun h' x => setN h' x.2.2 (decN (page h) x)) q = l.foldl (fun h' x => setN h' x.2.2 (hN h x.2.2)) q := by
    intro l
    induction l with
    | nil => intro q _; rfl
    | cons y l ih => intro q hq; rw [List.foldl_cons, List.foldl_cons, hq y (List.mem_cons_self ..)]; exact ih _ (fun x hx => hq x (List.mem_cons_of_mem _ hx))
  rw [f1 _ _ (decW_page hm), f2 _ _ (decN_page hm hr)]
  have h2 := (may_split hm).2.1
  by_cases e : h.typ = 77
  · have hp : h.pre = [] := by simp [may2, e] at h2; exact h2
    rw [wordsL, numsL, if_pos e, if_pos e]
    simp only [List.append_nil, List.foldl_cons, List.foldl_nil, List.cons_append, List.nil_append, setS, setN, hS, hN, Hd.none]
    rw [← hp]
  · have hp : h.off = 0 ∧ h.real = 0 := by simp [may2, e] at h2; exact h2
    rw [wordsL, numsL, if_neg e, if_neg e]
    simp only [List.append_nil, List.foldl_cons, List.foldl_nil, List.cons_append, List.nil_append, setS, setN, hS, hN, Hd.none]
    obtain ⟨q1, q2⟩ := hp
    clear f1 f2 hm hr ht e h2
    obtain ⟨a1, a2, a3, a4, a5, a6, a7, a8, a9, a10, a11⟩ := h
    simp only at q1 q2
    subst q1 q2
    rfl
theorem page_sum {h : Hd} (hm : mayH h = true) : ((page h).take 156).drop 148 = sumF (page h) := by
  have l3 := page3_len hm
  have hf := sumF_full l3
  have e : sumF (page h) = sumF (page3 h) := by
    have e2 := sum_wr l3 (sumF_len (page3 h))
    show (octal (sumB (wr (page3 h) 148 (sumF (page3 h)))) 6).getD [] ++ [0, 32] = _
    rw [e2]; rfl
  rw [e]
  show seg (wr (page3 h) 148 (sumF (page3 h))) 148 8 = _
  exact seg_full (by rw [l3, hf]; omega) hf
theorem page_zero {h : Hd} (hm : mayH h = true) : zeroB (page h) = false := by
  have h1 := (may_split hm).1
  have hn : ¬ h.name = [] := by simp [may1] at h1; exact h1.1
  have hw : decW (page h) (0, 100, 0) = h.name := decW_page hm (0, 100, 0) (by unfold wordsL; simp)
  cases hz : zeroB (page h) with
  | false => rfl
  | true => exact absurd (hw.symm.trans (zero_head (page_len hm) hz)) hn
theorem getH_page {h : Hd} (hm : mayH h = true) (hr : ∀ o, hN h o ≤ 9223372036854775807) : getH (page h) = (h, 0) := by
  have hl := page_len hm
  have hd := decH_page hm hr
  have hp : putH h = some (page h) := put_yes hm
  have := get_ok (b := page h) (by omega) (page_zero hm) (page_sum hm) (by rw [hd]; exact hp)
  rw [this, hd]
end Go.Proofs.Ytpgeogdmjgmimaa.Pl
