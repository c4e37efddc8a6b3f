/-
  Walks, written by wip/gen/gen.py.
-/
import Derived.Test.YtpgeogdmjgmimaaK15
import Derived.Test.YtpgeogdmjgmimaaW10
set_option linter.unusedVariables false
set_option linter.unusedSimpArgs false
set_option maxRecDepth 4000
namespace Go.Proofs.Ytpgeogdmjgmimaa
open Go Go.RowKit K

/-- A literal's value. -/
theorem bld106_0 (x0 : Option Addr) (y0 z0 : Nat) (w : World) : (Instr.build 106 [(0, (.slice x0 y0 z0))].toArray).run Try.prog w = .ok (.agg #[.slice x0 y0 z0]) w := by kernel_rfl
/-- A literal's value. -/
theorem bld108_0 (x1000 : Option Addr) (y1000 z1000 : Nat) (w : World) : (Instr.build 108 [(0, (.agg #[.slice x1000 y1000 z1000]))].toArray).run Try.prog w = .ok (.agg #[.slice x1000 y1000 z1000]) w := by kernel_rfl
/-- A literal's value. -/
theorem bsl5_35_0_1_2_3_4 (x0 : Int) (x1 : Int) (x2 : Int) (x3 : Int) (x4 : Int) (w : World) : (Instr.buildSlice 35 5 [(0, (.int .u8 x0)), (1, (.int .u8 x1)), (2, (.int .u8 x2)), (3, (.int .u8 x3)), (4, (.int .u8 x4))].toArray).run Try.prog w = .ok (.slice (some ⟨w.heap.size, 0, none⟩) 5 5) (w.alloc (.cells [.int .u8 x0, .int .u8 x1, .int .u8 x2, .int .u8 x3, .int .u8 x4].toArray 5)) := by kernel_rfl
/-- A literal's value. -/
theorem bsl3_25_0_1_2 (x0 : Option Addr) (y0 z0 : Nat) (x1 : Option Addr) (y1 z1 : Nat) (x2 : Option Addr) (y2 z2 : Nat) (w : World) : (Instr.buildSlice 25 3 [(0, (.slice x0 y0 z0)), (1, (.slice x1 y1 z1)), (2, (.slice x2 y2 z2))].toArray).run Try.prog w = .ok (.slice (some ⟨w.heap.size, 0, none⟩) 3 3) (w.alloc (.cells [.slice x0 y0 z0, .slice x1 y1 z1, .slice x2 y2 z2].toArray 35)) := by kernel_rfl
def pw (h : Pl.Hd) (k : Nat) : List UInt8 := ((Pl.wordsL h.typ).take k).foldl (fun p x => Pl.wr p x.1 (Pl.hS h x.2.2)) (List.replicate 512 0)
def pn (h : Pl.Hd) (k : Nat) : List UInt8 := ((Pl.numsL h.typ).take k).foldl (fun p x => Pl.wr p x.1 ((Pl.putN (Pl.hN h x.2.2) (x.2.1 : Nat)).getD [])) (Pl.page1 h)
theorem pw_next {h : Pl.Hd} {k : Nat} {x : Nat × Nat × Nat} (hx : (Pl.wordsL h.typ)[k]? = some x) : pw h (k + 1) = Pl.wr (pw h k) x.1 (Pl.hS h x.2.2) := by
  unfold pw; rw [List.take_add_one, hx]; simp
theorem pn_next {h : Pl.Hd} {k : Nat} {x : Nat × Nat × Nat} (hx : (Pl.numsL h.typ)[k]? = some x) : pn h (k + 1) = Pl.wr (pn h k) x.1 ((Pl.putN (Pl.hN h x.2.2) (x.2.1 : Nat)).getD []) := by
  unfold pn; rw [List.take_add_one, hx]; simp
theorem pw_all {h : Pl.Hd} {k : Nat} (hk : (Pl.wordsL h.typ).length ≤ k) : pw h k = Pl.page1 h := by unfold pw; rw [List.take_of_length_le hk]; rfl
theorem pn_all {h : Pl.Hd} {k : Nat} (hk : (Pl.numsL h.typ).length ≤ k) : pn h k = Pl.page2 h := by unfold pn; rw [List.take_of_length_le hk]; rfl
theorem may_split {h : Pl.Hd} (hm : Pl.mayH h = true) : Pl.may1 h = true ∧ Pl.may2 h = true ∧ (Pl.wordsL h.typ).all (Pl.okW h) = true ∧ (Pl.numsL h.typ).all (Pl.okN h) = true := by
  simp only [Pl.mayH, Bool.and_eq_true] at hm; exact ⟨hm.1.1.1, hm.1.1.2, hm.1.2, hm.2⟩
theorem word_len {h : Pl.Hd} (hm : Pl.mayH h = true) {k : Nat} {x : Nat × Nat × Nat} (hx : (Pl.wordsL h.typ)[k]? = some x) : (Pl.hS h x.2.2).length ≤ x.2.1 := by
  have h1 := (may_split hm).2.2.1
  rw [List.all_eq_true] at h1
  have := h1 x (List.mem_of_getElem? hx)
  simp [Pl.okW] at this
  exact this.1
theorem putN_len {n w : Int} {s : List UInt8} (h : Pl.putN n w = some s) : s.length = w.toNat := by
  unfold Pl.putN at h
  split at h
  · cases h
  · rename_i hc
    have hw : Pl.width w = true := by
      cases hb : Pl.width w with
      | true => rfl
      | false => exact absurd (.inr hb) hc
    have hr := Pl.width_range hw
    split at h
    · rename_i s' hs
      cases h
      have := Pl.octal_length hs
      simp [this]; omega
    · split at h
      · cases h
      · cases h
        simp [Pl.byD_length]; omega
theorem num_len {h : Pl.Hd} (hm : Pl.mayH h = true) {k : Nat} {x : Nat × Nat × Nat} (hx : (Pl.numsL h.typ)[k]? = some x) : ((Pl.putN (Pl.hN h x.2.2) (x.2.1 : Nat)).getD []).length = x.2.1 := by
  have h1 := (may_split hm).2.2.2
  rw [List.all_eq_true] at h1
  have := h1 x (List.mem_of_getElem? hx)
  unfold Pl.okN at this
  obtain ⟨s, hs⟩ := Option.isSome_iff_exists.1 this
  rw [hs]
  have := putN_len hs
  simpa using this
theorem pw_len {h : Pl.Hd} (hm : Pl.mayH h = true) (k : Nat) : (pw h k).length = 512 := by
  induction k with
  | zero => simp [pw]
  | succ k ih =>
    cases hx : (Pl.wordsL h.typ)[k]? with
    | none =>
      have : (Pl.wordsL h.typ).length ≤ k := List.getElem?_eq_none_iff.1 hx
      rw [pw_all (by omega), ← pw_all this, ih]
    | some x =>
      have h1 := word_len hm hx
      have h2 := word_room hx
      rw [pw_next hx, Pl.wr_len (by omega), ih]
theorem page1_len {h : Pl.Hd} (hm : Pl.mayH h = true) : (Pl.page1 h).length = 512 := by rw [← pw_all (Nat.le_refl _)]; exact pw_len hm _
theorem pn_len {h : Pl.Hd} (hm : Pl.mayH h = true) (k : Nat) : (pn h k).length = 512 := by
  induction k with
  | zero => simpa [pn] using page1_len hm
  | succ k ih =>
    cases hx : (Pl.numsL h.typ)[k]? with
    | none =>
      have : (Pl.numsL h.typ).length ≤ k := List.getElem?_eq_none_iff.1 hx
      rw [pn_all (by omega), ← pn_all this, ih]
    | some x =>
      have h1 := num_len hm hx
      have h2 := num_room hx
      rw [pn_next hx, Pl.wr_len (by omega), ih]
theorem page2_len {h : Pl.Hd} (hm : Pl.mayH h = true) : (Pl.page2 h).length = 512 := by rw [← pn_all (Nat.le_refl _)]; exact pn_len hm _
theorem page2b_len {h : Pl.Hd} (hm : Pl.mayH h = true) : (Pl.wrs (Pl.page2 h) 156 [[h.typ]]).length = 512 := by rw [Pl.wrs_len (by rw [page2_len hm]; simp), page2_len hm]
theorem byt_ne {w : World} {g g' : Nat} {t : TypeId} {bs : List UInt8} {m : Nat} (h : Blk w g t (bs.map u8)) (hm : m = bs.length) (hne : g ≠ g' ∧ m ≤ 9223372036854775807) : Byt (fun b => b ≠ g') w (.slice (some ⟨g, 0, none⟩) m m) bs :=
  (Blk.byt h m hm (by omega) (by omega)).mono (fun b hb => by subst hb; exact hne.1)
theorem rows_ne {w : World} {g g' : Nat} {t : TypeId} {vs : List Value} {l : List (List UInt8)} {m : Nat} (h : Blk w g t vs) (hV : Vec (fun b => b ≠ g') w vs l) (hm : m = l.length) (hne : g ≠ g' ∧ m ≤ 9223372036854775807) : Rws (fun b => b ≠ g') w (.slice (some ⟨g, 0, none⟩) m m) l :=
  (Rws.of_blk h hV m hm hne.2).mono (fun b hb => by rcases hb with rfl | hb; exact hne.1; exact hb)
theorem e68 : List.map u8 [117, 115, 116, 97, 114] = [.int .u8 117, .int .u8 115, .int .u8 116, .int .u8 97, .int .u8 114] := by simp [u8]
theorem e70 : List.map u8 [0] = [.int .u8 0] := by simp [u8]
theorem e71 : List.map u8 [48, 48] = [.int .u8 48, .int .u8 48] := by simp [u8]
theorem page3_len {h : Pl.Hd} (hm : Pl.mayH h = true) : (Pl.page3 h).length = 512 := by
  unfold Pl.page3
  rw [Pl.wrs_len (by rw [Pl.wrs_len (by rw [page2_len hm]; simp), page2_len hm]; simp), Pl.wrs_len (by rw [page2_len hm]; simp), page2_len hm]
theorem sumF_len (b : List UInt8) : (Pl.sumF b).length ≤ 8 := by
  unfold Pl.sumF; rw [List.length_append, oct_len]; split <;> simp
theorem page_len {h : Pl.Hd} (hm : Pl.mayH h = true) : (Pl.page h).length = 512 := by
  unfold Pl.page
  have := sumF_len (Pl.page3 h)
  rw [Pl.wrs_len (by rw [page3_len hm]; simp; omega), page3_len hm]
theorem put_no {h : Pl.Hd} (hm : Pl.mayH h = false) : Pl.putH h = none := by rw [Pl.putH, hm]; rfl
theorem put_yes {h : Pl.Hd} (hm : Pl.mayH h = true) : Pl.putH h = some (Pl.page h) := by rw [Pl.putH, hm]; rfl

set_option maxHeartbeats 600000 in
/-- head.Put -/
theorem c_headPut (h : Pl.Hd) (w : World) (hr : HdR h) :
  C Try.prog 77 [hdV h] w fun v w' => (∃ q, v = .tuple #[q, .bool (Pl.putH h).isSome] ∧ Byt (fun b => w.heap.size ≤ b) w' q ((Pl.putH h).getD [])) ∧ Kept w w' := by
 refine enterE Try.func77 rfl 84 rfl rfl fun a0 h0 => ?_
 have hB := Kept.refl w
 refine sq fun K1 hK1 => ?_
 refine reg [some 1, some 2, some 3] rfl ?_
 refine bxv h0 rfl rfl rfl fun a1 w1 g1 h1 hk1 hz1 hg1 => ?_
 have hleg1 := Nat.le_trans hB.size hz1
 replace hB := Kept.trans hB hk1
 refine asg h1 rfl rfl fun a2 h2 => ?_
 refine asg h2 rfl rfl fun a3 h3 => ?_
 clear h0 h1 h2 a0 a1 a2
 refine wpL_nil (hK1 _ _ ?_)
 refine sq fun K2 hK2 => ?_
 refine sq fun K3 hK3 => ?_
 refine reg [some 11, some 12, some 13] rfl ?_
 refine ldbn h3 hg1 ([str h.name, str h.pre, str h.link, .int .i64 h.mode, .int .i64 h.uid, .int .i64 h.gid, .int .i64 h.size, .int .i64 h.mtime, u8 h.typ, .int .i64 h.off, .int .i64 h.real]) rfl Try.isAgg41 Try.sizeOf41 rfl rfl fun a4 h4 => ?_
 refine cal h4 Try.call45 rfl (c_headMay _ _ hr) rfl ?_
 rintro v2 w2 a5 ⟨rfl, hk2⟩ h5
 replace hB := Kept.trans hB hk2
 replace hg1 := hg1.kept hk2
 refine unot h5 rfl rfl fun a6 h6 => ?_
 clear hK1 h3 h4 h5 K1 a3 a4 a5
 refine wpL_nil (hK3 _ _ ?_)
 refine spl h6 (d := 13) rfl (fun hb1 => ?_) (fun hb1 => ?_)
 ·
  refine cdt h6 rfl (bnf (bunt hb1)) ?_
  refine sq fun K4 hK4 => ?_
  refine reg [some 2, some 3] rfl ?_
  refine asg h6 rfl rfl fun a7 h7 => ?_
  refine asg h7 rfl rfl fun a8 h8 => ?_
  clear hK3 h6 h7 K3 a6 a7
  refine wpL_nil (hK4 _ _ ?_)
  refine rtn (leave h8 (res2 h8 rfl (rvt rfl) (rvt rfl)) ?_)
  exact ⟨_, rfl, ⟨_, by rw [put_no (bunt hb1)]; rfl, by rw [put_no (bunt hb1)]; exact Byt.nil _ _⟩, hB⟩
 ·
  have hm : Pl.mayH h = true := bunf hb1
  refine cdf h6 rfl (bnt (bunf hb1)) ?_
  refine skp (hK2 _ _ ?_)
  refine sq fun K5 hK5 => ?_
  refine reg [some 14, some 15, some 16, some 4, none] rfl ?_
  refine mks h6 (m := 512) (z := .int .u8 0) rfl rfl (by omega) Try.underlying35 (b := 1) (by kernel_rfl) rfl (by omega) (by omega) rfl fun a9 w3 g14 h9 hk3 hz14 hg14 => ?_
  have hleg14 := Nat.le_trans hB.size hz14
  have hneg1g14 := Nat.lt_of_lt_of_le hg1.lt hz14
  replace hB := Kept.trans hB hk3
  replace hg1 := hg1.kept hk3
  refine bld h9 rfl (bld106_0 _ _ _) rfl fun a10 h10 => ?_
  refine bld h10 rfl (bld108_0 _ _ _) rfl fun a11 h11 => ?_
  refine alc h11 Try.zeroValue108 rfl rfl fun a12 w4 g4 h12 hk4 hz4 hg4 => ?_
  have hleg4 := Nat.le_trans hB.size hz4
  have hneg1g4 := Nat.lt_of_lt_of_le hg1.lt hz4
  have hneg14g4 := Nat.lt_of_lt_of_le hg14.lt hz4
  replace hB := Kept.trans hB hk4
  replace hg1 := hg1.kept hk4
  replace hg14 := hg14.kept hk4
  refine stb h12 hg4 rfl rfl _ rfl Try.sizeOf108 (by first | exact wc_one _ _ | simp [Value.oneCell']) _ (by simp [wc]) rfl fun w5 hg4' hk5 => ?_
  replace hB := Kept.but hB hk5 (by omega)
  replace hg1 := hg1.but hk5 (by omega)
  replace hg14 := hg14.but hk5 (by omega)
  clear hg4; have hg4 := hg4'; clear hg4'
  clear hK3 hK2 h6 h9 h10 h11 K3 K2 a6 a9 a10 a11
  refine wpL_nil (hK5 _ _ ?_)
  refine sq fun K6 hK6 => ?_
  refine sq fun K7 hK7 => ?_
  refine reg [some 17, some 18, some 19] rfl ?_
  have hsz6 := hB.size
  have hlg16 := hg1.lt
  have hlg146 := hg14.lt
  have hlg46 := hg4.lt
  refine cal h12 Try.call90 rfl (c_words _ _ _ hg1) rfl ?_
  rintro v6 w6 a13 ⟨hW6, hk6⟩ h13
  replace hB := Kept.trans hB hk6
  replace hg1 := hg1.kept hk6
  replace hg14 := hg14.kept hk6
  replace hg4 := hg4.kept hk6
  replace hW6 := hW6.lt
  refine lnx h13 rfl Try.underlying111 rfl hW6.isl rfl fun a14 h14 => ?_
  refine mv h14 rfl rfl fun a15 h15 => ?_
  clear hK5 h12 h13 h14 K5 a12 a13 a14
  refine wpL_nil (hK7 _ _ ?_)
  refine blc ?_
  clear hK7 K7
  refine lp (fun (k : Nat) (a : Act) (W : World) => ∃ (vW : Value), ∃ (nL : Nat), ∃ (nW : Nat), Has [] 84 [(1, .pointer (some ⟨g1, 0, none⟩)), (4, .pointer (some ⟨g4, 0, none⟩)), (17, vW), (18, .int .i64 ((Pl.wordsL h.typ).length : Int)), (19, .int .i64 (k : Int))] a ∧ (k ≤ (Pl.wordsL h.typ).length) ∧ (Sts (wc g1) (fun b => nL ≤ b ∧ b < nW) W vW (Pl.wordsL h.typ)) ∧ (Blk W g14 5 ((pw h k).map u8)) ∧ (Blk W g1 41 (hdCells h)) ∧ (Blk W g4 108 [.slice (some ⟨g14, 0, none⟩) 512 512]) ∧ (g14 < nL) ∧ (nW ≤ W.heap.size) ∧ (Kept w W)) (fun (k : Nat) => (Pl.wordsL h.typ).length - k) (0) ⟨_, _, _, (h15.cons' rfl (h15.cons' rfl (h15.cons' rfl (h15.cons' rfl (h15.cons' rfl (h15.nil')))))), Nat.zero_le _, hW6, (by rw [zero_row] at hg14; exact hg14), hg1, hg4, (by assumption), Nat.le_refl _, hB⟩ ?_
  clear h15 hW6 hg4 hg14 hg1 hB
  rintro k a16 w7 ⟨vW, nL, nW, h16, hk, hW, hg14, hg1, hg4, hgL, hnW, hB⟩
  refine sq fun K8 hK8 => ?_
  refine reg [some 20] rfl ?_
  refine lss h16 rfl rfl rfl fun a17 h17 => ?_
  clear h16 a16
  refine wpL_nil (hK8 _ _ ?_)
  refine sq fun K9 hK9 => ?_
  refine spl h17 (d := 20) rfl (fun hb2 => ?_) (fun hb2 => ?_)
  ·
   have hp2 := of_decide_eq_true hb2
   obtain ⟨x, hx⟩ : ∃ x, (Pl.wordsL h.typ)[k]? = some x := ⟨_, List.getElem?_eq_getElem (by have := of_decide_eq_true hb2; omega)⟩
   have hwl := words_len h.typ
   have hxl := word_len hm hx
   have hxr := word_room hx
   refine cdt h17 rfl hb2 ?_
   refine skp (hK9 _ _ ?_)
   refine sq fun K10 hK10 => ?_
   refine blc ?_
   refine sq fun K11 hK11 => ?_
   refine reg [some 21, some 22, some 6, none] rfl ?_
   refine ixS (k := k) (wc_len _) hW h17 rfl rfl Try.underlying111 Try.sizeOf116 (by decide) (by simp) (hx) rfl fun a18 ad21 h18 hI21 => ?_
   refine ldS h18 hI21 rfl Try.isAgg116 Try.sizeOf116 rfl fun a19 h19 => ?_
   refine alc h19 Try.zeroValue116 rfl rfl fun a20 w8 g6 h20 hk8 hz6 hg6 => ?_
   have hneg14g6 := Nat.lt_of_lt_of_le hg14.lt hz6
   have hneg1g6 := Nat.lt_of_lt_of_le hg1.lt hz6
   have hneg4g6 := Nat.lt_of_lt_of_le hg4.lt hz6
   have hNhnWg6 := Nat.le_trans hnW hz6
   have hleg6 := Nat.le_trans hB.size hz6
   replace hW := hW.kept hk8
   replace hg14 := hg14.kept hk8
   replace hg1 := hg1.kept hk8
   replace hg4 := hg4.kept hk8
   replace hnW := Nat.le_trans hnW hk8.size
   replace hB := Kept.trans hB hk8
   replace hI21 := hI21.kept hk8
   refine stb h20 hg6 rfl rfl _ rfl Try.sizeOf116 (by first | exact wc_one _ _ | simp [Value.oneCell']) _ (by simp [wc]) rfl fun w9 hg6' hk9 => ?_
   replace hW := hW.but hk9 (by intro h; have := h.2; omega)
   replace hg14 := hg14.but hk9 (by omega)
   replace hg1 := hg1.but hk9 (by omega)
   replace hg4 := hg4.but hk9 (by omega)
   replace hnW := Nat.le_trans hnW hk9.size
   replace hB := Kept.but hB hk9 (by omega)
   replace hI21 := hI21.but hk9 (by intro h; have := h.2; omega)
   clear hg6; have hg6 := hg6'; clear hg6'
   clear hK8 hK9 h17 h18 h19 K8 K9 a17 a18 a19
   refine wpL_nil (hK11 _ _ ?_)
   clear hK11 K11
   have hgR := hg14.lt
   refine drwL h20 [some 23, some 24, some 25, some 26, some 27, some 28, some 29, some 30, some 31, some 32, some 33] rfl [Fx (.pointer (some ⟨g4, 0, none⟩)), Fx (.agg #[.slice (some ⟨g14, 0, none⟩) 512 512]), Fx (.pointer (some ⟨g6, 0, none⟩)), Fx (.int .i64 (x.1 : Int)), Fx (.pointer (some ⟨g6, 2, none⟩)), Fx (.pointer (some ⟨g1, x.2.2, none⟩)), Fx (.pointer (some ⟨g1, x.2.2, none⟩)), Fx (str (Pl.hS h x.2.2)), fun v w' => Byt (fun b => w9.heap.size ≤ b) w' v (Pl.hS h x.2.2), fun v w' => Rws (fun b => w9.heap.size ≤ b) w' v [Pl.hS h x.2.2], fun v w' => v = .tuple #[] ∧ Blk w' g14 5 ((Pl.wrs (pw h k) (x.1) [Pl.hS h x.2.2]).map u8)] Kept (But g14) 10 [true, true, true, true, true, true, true, true, true, true, true] rfl rfl rfl rfl rfl rfl (drewKept _) keptT (fun _ _ _ h k => But.trans (Kept.toBut h _) k) (fun _ _ _ h k => But.trans h (Kept.toBut k _)) (fun _ _ h => Kept.toBut h _) ((mcons mfx (mcons mfx (mcons mfx (mcons mfx (mcons mfx (mcons mfx (mcons mfx (mcons mfx (mcons (fun v w w' hk h => h.kept hk) (mcons (fun v w w' hk h => h.kept hk) (mcons (fun v w w' hk h => ⟨h.1, h.2.kept hk⟩) mnil)))))))))))) (MonoX.all (mconsX (fun _ => mfx) (mconsX (fun _ => mfx) (mconsX (fun _ => mfx) (mconsX (fun _ => mfx) (mconsX (fun _ => mfx) (mconsX (fun _ => mfx) (mconsX (fun _ => mfx) (mconsX (fun _ => mfx) (mconsX (fun _ => (fun v w w' hk h => h.but hk (by show ¬ (_ ≤ _); omega))) (mconsX (fun _ => (fun v w w' hk h => h.but hk (by show ¬ (_ ≤ _); omega))) (mconsX (fun h => absurd rfl h) mnilX)))))))))))) ⟨?_, ?_, ?_, ?_, ?_, ?_, ?_, ?_, ?_, ?_, ?_, trivial⟩ ?_
   ·
    intro L a w_ hH hb hR hd ho
    have hl4 := hb 4 _ rfl
    replace hR : Kept w9 w_ := hR
    refine fab hH hl4 Try.underlying108 rfl Try.sizeOf106 rfl 0 rfl rfl fun a21 h21 => ?_
    exact wpL_nil ⟨_, h21, Kept.refl _, rfl⟩
   ·
    intro L a w_ hH hb hR hd ho
    obtain ⟨_, hl23, rfl⟩ := hd 0 rfl
    replace hR : Kept w9 w_ := hR
    replace hg4 := hg4.kept hR
    refine ldbn hH hg4 ([.slice (some ⟨g14, 0, none⟩) 512 512]) hl23 Try.isAgg106 Try.sizeOf106 rfl rfl fun a22 h22 => ?_
    exact wpL_nil ⟨_, h22, Kept.refl _, rfl⟩
   ·
    intro L a w_ hH hb hR hd ho
    have hl6 := hb 6 _ rfl
    replace hR : Kept w9 w_ := hR
    refine fab hH hl6 Try.underlying116 rfl Try.sizeOf3 rfl 0 rfl rfl fun a23 h23 => ?_
    exact wpL_nil ⟨_, h23, Kept.refl _, rfl⟩
   ·
    intro L a w_ hH hb hR hd ho
    obtain ⟨_, hl25, rfl⟩ := hd 2 rfl
    replace hR : Kept w9 w_ := hR
    replace hg6 := hg6.kept hR
    refine ldb hH hg6 hl25 Try.isAgg3 rfl rfl fun a24 h24 => ?_
    exact wpL_nil ⟨_, h24, Kept.refl _, rfl⟩
   ·
    intro L a w_ hH hb hR hd ho
    have hl6 := hb 6 _ rfl
    replace hR : Kept w9 w_ := hR
    refine fab hH hl6 Try.underlying116 rfl Try.sizeOf114 rfl 2 rfl rfl fun a25 h25 => ?_
    exact wpL_nil ⟨_, h25, Kept.refl _, rfl⟩
   ·
    intro L a w_ hH hb hR hd ho
    obtain ⟨_, hl27, rfl⟩ := hd 4 rfl
    replace hR : Kept w9 w_ := hR
    replace hg6 := hg6.kept hR
    refine ldb hH hg6 hl27 Try.isAgg114 rfl rfl fun a26 h26 => ?_
    exact wpL_nil ⟨_, h26, Kept.refl _, rfl⟩
   ·
    intro L a w_ hH hb hR hd ho
    obtain ⟨_, hl28, rfl⟩ := hd 5 rfl
    replace hR : Kept w9 w_ := hR
    refine nlc hH hl28 rfl fun a27 h27 => ?_
    exact wpL_nil ⟨_, h27, Kept.refl _, rfl⟩
   ·
    intro L a w_ hH hb hR hd ho
    obtain ⟨_, hl29, rfl⟩ := hd 6 rfl
    replace hR : Kept w9 w_ := hR
    replace hg1 := hg1.kept hR
    refine ldb hH hg1 hl29 Try.isAgg9 (word_cell h hx) rfl fun a28 h28 => ?_
    exact wpL_nil ⟨_, h28, Kept.refl _, rfl⟩
   ·
    intro L a w_ hH hb hR hd ho
    obtain ⟨_, hl30, rfl⟩ := hd 7 rfl
    replace hR : Kept w9 w_ := hR
    refine stob hH hl30 Try.underlying9 Try.underlying35 Try.underlying5 (by omega) rfl fun a29 v31' w10 h29 hk10 hO31 => ?_
    exact wpL_nil ⟨_, h29, hk10, (Own.byt hO31).mono (fun b hb => Nat.le_trans hR.size hb)⟩
   ·
    intro L a w_ hH hb hR hd ho
    obtain ⟨v31, hl31, hf31⟩ := hd 8 rfl
    replace hR : Kept w9 w_ := hR
    replace hg1 := hg1.kept hR
    replace hg4 := hg4.kept hR
    replace hg6 := hg6.kept hR
    replace hg14 := hg14.kept hR
    obtain ⟨A31, c31, rfl⟩ := hf31.isl
    refine bsl hH (evpc hl31 evp0) (bsl1_25_0 _ _ _) rfl fun a30 w11 g32 h30 hk11 hz32 hg32 => ?_
    have hneg1g32 := Nat.lt_of_lt_of_le hg1.lt hz32
    have hneg4g32 := Nat.lt_of_lt_of_le hg4.lt hz32
    have hneg6g32 := Nat.lt_of_lt_of_le hg6.lt hz32
    have hneg14g32 := Nat.lt_of_lt_of_le hg14.lt hz32
    exact wpL_nil ⟨_, h30, hk11, (Rws.of_blk hg32 (Vec.one (hf31.kept hk11)) 1 rfl (by omega)).mono (fun b hb => by rcases hb with hb | hb; exact hb ▸ Nat.le_trans hR.size hz32; exact hb)⟩
   ·
    intro L a w_ hH hb hR hd ho
    obtain ⟨_, hl24, rfl⟩ := hd 1 rfl
    obtain ⟨_, hl26, rfl⟩ := hd 3 rfl
    obtain ⟨v32, hl32, hf32⟩ := hd 9 rfl
    replace hR : Kept w9 w_ := hR
    replace hg14 := hg14.kept hR
    refine cal hH Try.call130 (evs3 hl24 hl26 hl32) (c_put g14 (pw h k) (x.1) _ [Pl.hS h x.2.2] _ hg14 (pw_len hm k) hf32 (by show ¬ (_ ≤ _); omega) (by simp; omega)) rfl ?_
    rintro v12 w12 a31 ⟨rfl, hg14', hbut12⟩ h31
    exact wpL_nil ⟨_, h31, hbut12, ⟨rfl, hg14'⟩⟩
   intro L13 a32 w13 h32 hbh32 hRh32 hdh32
   obtain ⟨_, hl23, rfl⟩ := hdh32 0 (by decide)
   obtain ⟨_, hl24, rfl⟩ := hdh32 1 (by decide)
   obtain ⟨_, hl25, rfl⟩ := hdh32 2 (by decide)
   obtain ⟨_, hl26, rfl⟩ := hdh32 3 (by decide)
   obtain ⟨_, hl27, rfl⟩ := hdh32 4 (by decide)
   obtain ⟨_, hl28, rfl⟩ := hdh32 5 (by decide)
   obtain ⟨_, hl29, rfl⟩ := hdh32 6 (by decide)
   obtain ⟨_, hl30, rfl⟩ := hdh32 7 (by decide)
   obtain ⟨v31, hl31, hf31⟩ := hdh32 8 (by decide)
   obtain ⟨v32, hl32, hf32⟩ := hdh32 9 (by decide)
   obtain ⟨v33, hl33, hf33⟩ := hdh32 10 (by decide)
   have h33 := Has.under h32 hbh32
   have h34 := (h32.add hl33 (h32.add hl32 (h32.add hl31 (h32.add hl30 (h32.add hl29 (h32.add hl28 (h32.add hl27 (h32.add hl26 (h32.add hl25 (h32.add hl24 (h32.add hl23 h33)))))))))))
   clear h33 hl23 hl24 hl25 hl26 hl27 hl28 hl29 hl30 hl31 hl32 hl33 hbh32 hdh32
   obtain ⟨rfl, hg14'⟩ := hf33
   replace hW := hW.but hRh32 (by intro h; have := h.1; omega)
   clear hg14; have hg14 := hg14'; clear hg14'
   replace hg1 := hg1.but hRh32 (by omega)
   replace hg4 := hg4.but hRh32 (by omega)
   replace hnW := Nat.le_trans hnW hRh32.size
   replace hB := Kept.but hB hRh32 (by omega)
   replace hI21 := hI21.but hRh32 (by intro h; have := h.1; omega)
   refine hK10 _ _ ?_
   refine reg [some 34, some 19] rfl ?_
   refine add h34 rfl rfl rfl (by omega) fun a35 h35 => ?_
   refine mv h35 rfl rfl fun a36 h36 => ?_
   clear hK10 h34 h35 K10 a35
   refine wpL_nil ?_
   exact ⟨k + 1, ⟨_, _, _, (h36.cons' rfl (h36.cons' rfl (h36.cons' rfl (h36.cons' rfl (h36.cons' (lke rfl (by simp)) (h36.nil')))))), by omega, hW, (by rw [pw_next hx]; exact hg14), hg1, hg4, hgL, hnW, hB⟩, by omega⟩
  ·
   have hp2 := of_decide_eq_false hb2
   refine cdf h17 rfl hb2 ?_
   refine xit (hK6 _ _ ?_)
   refine sq fun K12 hK12 => ?_
   refine sq fun K13 hK13 => ?_
   refine reg [some 35, some 36, some 37] rfl ?_
   have hlg1414 := hg14.lt
   have hlg114 := hg1.lt
   have hlg414 := hg4.lt
   have hsz14 := hB.size
   refine cal h17 Try.call92 rfl (c_numbers _ _ _ hg1) rfl ?_
   rintro v14 w14 a37 ⟨hW14, hk14⟩ h37
   replace hg14 := hg14.kept hk14
   replace hg1 := hg1.kept hk14
   replace hg4 := hg4.kept hk14
   replace hnW := Nat.le_trans hnW hk14.size
   replace hB := Kept.trans hB hk14
   replace hW14 := hW14.lt
   refine lnx h37 rfl Try.underlying119 rfl hW14.isl rfl fun a38 h38 => ?_
   refine mv h38 rfl rfl fun a39 h39 => ?_
   clear hK8 hK6 hK9 h17 h37 h38 K8 K6 K9 a17 a37 a38
   refine wpL_nil (hK13 _ _ ?_)
   refine blc ?_
   clear hK13 K13
   refine lp (fun (k : Nat) (a : Act) (W : World) => ∃ (vN : Value), ∃ (nL : Nat), ∃ (nW : Nat), Has [] 84 [(1, .pointer (some ⟨g1, 0, none⟩)), (4, .pointer (some ⟨g4, 0, none⟩)), (35, vN), (36, .int .i64 ((Pl.numsL h.typ).length : Int)), (37, .int .i64 (k : Int))] a ∧ (k ≤ (Pl.numsL h.typ).length) ∧ (Sts (wc g1) (fun b => nL ≤ b ∧ b < nW) W vN (Pl.numsL h.typ)) ∧ (Blk W g14 5 ((pn h k).map u8)) ∧ (Blk W g1 41 (hdCells h)) ∧ (Blk W g4 108 [.slice (some ⟨g14, 0, none⟩) 512 512]) ∧ (g14 < nL) ∧ (nW ≤ W.heap.size) ∧ (Kept w W)) (fun (k : Nat) => (Pl.numsL h.typ).length - k) (0) ⟨_, _, _, (h39.cons' rfl (h39.cons' rfl (h39.cons' rfl (h39.cons' rfl (h39.cons' rfl (h39.nil')))))), Nat.zero_le _, hW14, (by rw [pw_all (by omega)] at hg14; exact hg14), hg1, hg4, (by assumption), Nat.le_refl _, hB⟩ ?_
   clear h39 hW14 hB hnW hgL hg4 hg1 hg14 hW hk
   rintro k a40 w15 ⟨vN, nL, nW, h40, hk, hW2, hg14, hg1, hg4, hgL, hnW, hB⟩
   refine sq fun K14 hK14 => ?_
   refine reg [some 38] rfl ?_
   refine lss h40 rfl rfl rfl fun a41 h41 => ?_
   clear h40 a40
   refine wpL_nil (hK14 _ _ ?_)
   refine sq fun K15 hK15 => ?_
   refine spl h41 (d := 38) rfl (fun hb3 => ?_) (fun hb3 => ?_)
   ·
    have hp3 := of_decide_eq_true hb3
    obtain ⟨x, hx⟩ : ∃ x, (Pl.numsL h.typ)[k]? = some x := ⟨_, List.getElem?_eq_getElem (by have := of_decide_eq_true hb3; omega)⟩
    have hwl := nums_len h.typ
    have hxl := num_len hm hx
    have hxr := num_room hx
    refine cdt h41 rfl hb3 ?_
    refine skp (hK15 _ _ ?_)
    refine sq fun K16 hK16 => ?_
    refine blc ?_
    refine sq fun K17 hK17 => ?_
    refine reg [some 39, some 40, some 8, none] rfl ?_
    refine ixS (k := k) (wc_len _) hW2 h41 rfl rfl Try.underlying119 Try.sizeOf123 (by decide) (by simp) (hx) rfl fun a42 ad39 h42 hI39 => ?_
    refine ldS h42 hI39 rfl Try.isAgg123 Try.sizeOf123 rfl fun a43 h43 => ?_
    refine alc h43 Try.zeroValue123 rfl rfl fun a44 w16 g8 h44 hk16 hz8 hg8 => ?_
    have hneg14g8 := Nat.lt_of_lt_of_le hg14.lt hz8
    have hneg1g8 := Nat.lt_of_lt_of_le hg1.lt hz8
    have hneg4g8 := Nat.lt_of_lt_of_le hg4.lt hz8
    have hNhnWg8 := Nat.le_trans hnW hz8
    have hleg8 := Nat.le_trans hB.size hz8
    replace hW2 := hW2.kept hk16
    replace hg14 := hg14.kept hk16
    replace hg1 := hg1.kept hk16
    replace hg4 := hg4.kept hk16
    replace hnW := Nat.le_trans hnW hk16.size
    replace hB := Kept.trans hB hk16
    replace hI39 := hI39.kept hk16
    refine stb h44 hg8 rfl rfl _ rfl Try.sizeOf123 (by first | exact wc_one _ _ | simp [Value.oneCell']) _ (by simp [wc]) rfl fun w17 hg8' hk17 => ?_
    replace hW2 := hW2.but hk17 (by intro h; have := h.2; omega)
    replace hg14 := hg14.but hk17 (by omega)
    replace hg1 := hg1.but hk17 (by omega)
    replace hg4 := hg4.but hk17 (by omega)
    replace hnW := Nat.le_trans hnW hk17.size
    replace hB := Kept.but hB hk17 (by omega)
    replace hI39 := hI39.but hk17 (by intro h; have := h.2; omega)
    clear hg8; have hg8 := hg8'; clear hg8'
    clear hK14 hK15 h41 h42 h43 K14 K15 a41 a42 a43
    refine wpL_nil (hK17 _ _ ?_)
    refine sq fun K18 hK18 => ?_
    clear hK17 K17
    have hgR := hg14.lt
    refine drw h44 [some 42, some 43, some 44, some 45, some 46, some 47, some 48, some 41, some 49, some 50, some 9, some 10] rfl [Fx (.pointer (some ⟨g8, 2, none⟩)), Fx (.pointer (some ⟨g1, x.2.2, none⟩)), Fx (.pointer (some ⟨g1, x.2.2, none⟩)), Fx (.int .i64 (Pl.hN h x.2.2)), Fx (.pointer (some ⟨g8, 1, none⟩)), Fx (.int .i64 (x.2.1 : Int)), fun v w' => ∃ q, v = .tuple #[q, .bool (Pl.putN (Pl.hN h x.2.2) (x.2.1 : Nat)).isSome] ∧ Byt (fun b => w17.heap.size ≤ b) w' q ((Pl.putN (Pl.hN h x.2.2) (x.2.1 : Nat)).getD []), fun v w' => ∃ q, v = .tuple #[q, .bool (Pl.putN (Pl.hN h x.2.2) (x.2.1 : Nat)).isSome] ∧ Byt (fun b => w17.heap.size ≤ b) w' q ((Pl.putN (Pl.hN h x.2.2) (x.2.1 : Nat)).getD []), fun v w' => Byt (fun b => w17.heap.size ≤ b) w' v ((Pl.putN (Pl.hN h x.2.2) (x.2.1 : Nat)).getD []), Fx (.bool (Pl.putN (Pl.hN h x.2.2) (x.2.1 : Nat)).isSome), fun v w' => Byt (fun b => w17.heap.size ≤ b) w' v ((Pl.putN (Pl.hN h x.2.2) (x.2.1 : Nat)).getD []), Fx (.bool (Pl.putN (Pl.hN h x.2.2) (x.2.1 : Nat)).isSome)] Kept rfl rfl rfl rfl (drewKept _) keptT (mcons mfx (mcons mfx (mcons mfx (mcons mfx (mcons mfx (mcons mfx (mcons (fun v w w' hk h => by obtain ⟨q, h1, h2⟩ := h; exact ⟨q, h1, h2.kept hk⟩) (mcons (fun v w w' hk h => by obtain ⟨q, h1, h2⟩ := h; exact ⟨q, h1, h2.kept hk⟩) (mcons (fun v w w' hk h => h.kept hk) (mcons mfx (mcons (fun v w w' hk h => h.kept hk) (mcons mfx mnil)))))))))))) ⟨?_, ?_, ?_, ?_, ?_, ?_, ?_, ?_, ?_, ?_, ?_, ?_, trivial⟩ ?_
    ·
     intro L a w_ hH hb hR hd ho
     have hl8 := hb 8 _ rfl
     refine fab hH hl8 Try.underlying123 rfl Try.sizeOf121 rfl 2 rfl rfl fun a45 h45 => ?_
     exact wpL_nil ⟨_, h45, Kept.refl _, rfl⟩
    ·
     intro L a w_ hH hb hR hd ho
     obtain ⟨_, hl42, rfl⟩ := hd 0 rfl
     replace hg8 := hg8.kept hR
     refine ldb hH hg8 hl42 Try.isAgg121 rfl rfl fun a46 h46 => ?_
     exact wpL_nil ⟨_, h46, Kept.refl _, rfl⟩
    ·
     intro L a w_ hH hb hR hd ho
     obtain ⟨_, hl43, rfl⟩ := hd 1 rfl
     refine nlc hH hl43 rfl fun a47 h47 => ?_
     exact wpL_nil ⟨_, h47, Kept.refl _, rfl⟩
    ·
     intro L a w_ hH hb hR hd ho
     obtain ⟨_, hl44, rfl⟩ := hd 2 rfl
     replace hg1 := hg1.kept hR
     refine ldb hH hg1 hl44 Try.isAgg3 (num_cell h hx) rfl fun a48 h48 => ?_
     exact wpL_nil ⟨_, h48, Kept.refl _, rfl⟩
    ·
     intro L a w_ hH hb hR hd ho
     have hl8 := hb 8 _ rfl
     refine fab hH hl8 Try.underlying123 rfl Try.sizeOf3 rfl 1 rfl rfl fun a49 h49 => ?_
     exact wpL_nil ⟨_, h49, Kept.refl _, rfl⟩
    ·
     intro L a w_ hH hb hR hd ho
     obtain ⟨_, hl46, rfl⟩ := hd 4 rfl
     replace hg8 := hg8.kept hR
     refine ldb hH hg8 hl46 Try.isAgg3 rfl rfl fun a50 h50 => ?_
     exact wpL_nil ⟨_, h50, Kept.refl _, rfl⟩
    ·
     intro L a w_ hH hb hR hd ho
     obtain ⟨_, hl45, rfl⟩ := hd 3 rfl
     obtain ⟨_, hl47, rfl⟩ := hd 5 rfl
     refine cal hH Try.call101 (evs2 hl45 hl47) (c_numPut _ _ _ (hr _) (by have := num_room hx; omega)) rfl ?_
     rintro v18 w18 a51 ⟨u48, rfl, hu48, hk18⟩ h51
     exact wpL_nil ⟨_, h51, hk18, ⟨_, rfl, hu48.mono (fun b hb => Nat.le_trans hR.size hb)⟩⟩
    ·
     intro L a w_ hH hb hR hd ho
     obtain ⟨v48, hl48, hf48⟩ := hd 6 rfl
     refine mv hH hl48 rfl fun a52 h52 => ?_
     exact wpL_nil ⟨_, h52, Kept.refl _, hf48⟩
    ·
     intro L a w_ hH hb hR hd ho
     obtain ⟨v41, hl41, hf41⟩ := hd 7 rfl
     obtain ⟨u41, rfl, hu41⟩ := hf41
     refine ext2_0 hH hl41 rfl fun a53 h53 => ?_
     exact wpL_nil ⟨_, h53, Kept.refl _, hu41⟩
    ·
     intro L a w_ hH hb hR hd ho
     obtain ⟨v41, hl41, hf41⟩ := hd 7 rfl
     obtain ⟨u41, rfl, hu41⟩ := hf41
     refine ext2_1 hH hl41 rfl fun a54 h54 => ?_
     exact wpL_nil ⟨_, h54, Kept.refl _, rfl⟩
    ·
     intro L a w_ hH hb hR hd ho
     obtain ⟨v49, hl49, hf49⟩ := hd 8 rfl
     refine asg hH hl49 rfl fun a55 h55 => ?_
     exact wpL_nil ⟨_, h55, Kept.refl _, hf49⟩
    ·
     intro L a w_ hH hb hR hd ho
     obtain ⟨_, hl50, rfl⟩ := hd 9 rfl
     refine asg hH hl50 rfl fun a56 h56 => ?_
     exact wpL_nil ⟨_, h56, Kept.refl _, rfl⟩
    intro L19 a57 w19 h57 hbh57 hRh57 hdh57
    obtain ⟨_, hl42, rfl⟩ := hdh57 0 (by decide)
    obtain ⟨_, hl43, rfl⟩ := hdh57 1 (by decide)
    obtain ⟨_, hl44, rfl⟩ := hdh57 2 (by decide)
    obtain ⟨_, hl45, rfl⟩ := hdh57 3 (by decide)
    obtain ⟨_, hl46, rfl⟩ := hdh57 4 (by decide)
    obtain ⟨_, hl47, rfl⟩ := hdh57 5 (by decide)
    obtain ⟨v48, hl48, hf48⟩ := hdh57 6 (by decide)
    obtain ⟨v41, hl41, hf41⟩ := hdh57 7 (by decide)
    obtain ⟨v49, hl49, hf49⟩ := hdh57 8 (by decide)
    obtain ⟨_, hl50, rfl⟩ := hdh57 9 (by decide)
    obtain ⟨v9, hl9, hf9⟩ := hdh57 10 (by decide)
    obtain ⟨_, hl10, rfl⟩ := hdh57 11 (by decide)
    have h58 := Has.under h57 hbh57
    have h59 := (h57.add hl10 (h57.add hl9 (h57.add hl50 (h57.add hl49 (h57.add hl41 (h57.add hl48 (h57.add hl47 (h57.add hl46 (h57.add hl45 (h57.add hl44 (h57.add hl43 (h57.add hl42 h58))))))))))))
    clear h58 hl42 hl43 hl44 hl45 hl46 hl47 hl48 hl41 hl49 hl50 hl9 hl10 hbh57 hdh57
    replace hW2 := hW2.kept hRh57
    replace hg14 := hg14.kept hRh57
    replace hg1 := hg1.kept hRh57
    replace hg4 := hg4.kept hRh57
    replace hnW := Nat.le_trans hnW hRh57.size
    replace hB := Kept.trans hB hRh57
    replace hI39 := hI39.kept hRh57
    replace hg8 := hg8.kept hRh57
    obtain ⟨A9, c9, rfl⟩ := hf9.isl
    refine hK18 _ _ ?_
    refine reg [some 51, some 52, some 53, some 54, some 55, some 56, some 57] rfl ?_
    refine fab h59 rfl Try.underlying108 rfl Try.sizeOf106 rfl 0 rfl rfl fun a60 h60 => ?_
    refine ldbn h60 hg4 ([.slice (some ⟨g14, 0, none⟩) 512 512]) rfl Try.isAgg106 Try.sizeOf106 rfl rfl fun a61 h61 => ?_
    refine fab h61 rfl Try.underlying123 rfl Try.sizeOf3 rfl 0 rfl rfl fun a62 h62 => ?_
    refine ldb h62 hg8 rfl Try.isAgg3 rfl rfl fun a63 h63 => ?_
    refine mv h63 rfl rfl fun a64 h64 => ?_
    refine bsl h64 rfl (bsl1_25_0 _ _ _) rfl fun a65 w20 g56 h65 hk20 hz56 hg56 => ?_
    have hneg14g56 := Nat.lt_of_lt_of_le hg14.lt hz56
    have hneg1g56 := Nat.lt_of_lt_of_le hg1.lt hz56
    have hneg4g56 := Nat.lt_of_lt_of_le hg4.lt hz56
    have hNhnWg56 := Nat.le_trans hnW hz56
    have hleg56 := Nat.le_trans hB.size hz56
    have hneg8g56 := Nat.lt_of_lt_of_le hg8.lt hz56
    replace hW2 := hW2.kept hk20
    replace hg14 := hg14.kept hk20
    replace hg1 := hg1.kept hk20
    replace hg4 := hg4.kept hk20
    replace hnW := Nat.le_trans hnW hk20.size
    replace hB := Kept.trans hB hk20
    replace hI39 := hI39.kept hk20
    replace hf9 := hf9.kept hk20
    refine cal h65 Try.call130 rfl (c_put g14 (pn h k) x.1 _ [((Pl.putN (Pl.hN h x.2.2) (x.2.1 : Nat)).getD [])] _ hg14 (pn_len hm k) (Rws.of_blk hg56 (Vec.one hf9) 1 rfl (by omega)) (by rintro (h | h) <;> omega) (by simp; omega)) rfl ?_
    rintro v21 w21 a66 ⟨rfl, hg14', hbut21⟩ h66
    replace hW2 := hW2.but hbut21 (by intro h; have := h.1; omega)
    clear hg14; have hg14 := hg14'; clear hg14'
    replace hg1 := hg1.but hbut21 (by omega)
    replace hg4 := hg4.but hbut21 (by omega)
    replace hnW := Nat.le_trans hnW hbut21.size
    replace hB := Kept.but hB hbut21 (by omega)
    replace hI39 := hI39.but hbut21 (by intro h; have := h.1; omega)
    clear hK18 h59 h60 h61 h62 h63 h64 h65 K18 a60 a61 a62 a63 a64 a65
    refine wpL_nil (hK16 _ _ ?_)
    refine reg [some 58, some 37] rfl ?_
    refine add h66 rfl rfl rfl (by omega) fun a67 h67 => ?_
    refine mv h67 rfl rfl fun a68 h68 => ?_
    clear hK16 h66 h67 K16 a66 a67
    refine wpL_nil ?_
    exact ⟨k + 1, ⟨_, _, _, (h68.cons' rfl (h68.cons' rfl (h68.cons' rfl (h68.cons' rfl (h68.cons' (lke rfl (by simp)) (h68.nil')))))), by omega, hW2, (by rw [pn_next hx]; exact hg14), hg1, hg4, hgL, hnW, hB⟩, by omega⟩
   ·
    have hp3 := of_decide_eq_false hb3
    rw [pn_all (by have := of_decide_eq_false hb3; omega)] at hg14
    refine cdf h41 rfl hb3 ?_
    refine xit (hK12 _ _ ?_)
    refine sq fun K19 hK19 => ?_
    refine reg [some 59, some 60, some 61, some 62, some 63, some 64, some 65] rfl ?_
    refine fab h41 rfl Try.underlying108 rfl Try.sizeOf106 rfl 0 rfl rfl fun a69 h69 => ?_
    refine ldbn h69 hg4 ([.slice (some ⟨g14, 0, none⟩) 512 512]) rfl Try.isAgg106 Try.sizeOf106 rfl rfl fun a70 h70 => ?_
    refine fab h70 rfl Try.underlying41 rfl Try.sizeOf5 rfl 8 rfl rfl fun a71 h71 => ?_
    refine ldb h71 hg1 rfl Try.isAgg5 rfl rfl fun a72 h72 => ?_
    refine bsl h72 rfl (bsl1_35_0 _) rfl fun a73 w22 g63 h73 hk22 hz63 hg63 => ?_
    have hneg14g63 := Nat.lt_of_lt_of_le hg14.lt hz63
    have hneg1g63 := Nat.lt_of_lt_of_le hg1.lt hz63
    have hneg4g63 := Nat.lt_of_lt_of_le hg4.lt hz63
    have hNhnWg63 := Nat.le_trans hnW hz63
    have hleg63 := Nat.le_trans hB.size hz63
    replace hW2 := hW2.kept hk22
    replace hg14 := hg14.kept hk22
    replace hg1 := hg1.kept hk22
    replace hg4 := hg4.kept hk22
    replace hnW := Nat.le_trans hnW hk22.size
    replace hB := Kept.trans hB hk22
    refine bsl h73 rfl (bsl1_25_0 _ _ _) rfl fun a74 w23 g64 h74 hk23 hz64 hg64 => ?_
    have hneg14g64 := Nat.lt_of_lt_of_le hg14.lt hz64
    have hneg1g64 := Nat.lt_of_lt_of_le hg1.lt hz64
    have hneg4g64 := Nat.lt_of_lt_of_le hg4.lt hz64
    have hNhnWg64 := Nat.le_trans hnW hz64
    have hleg64 := Nat.le_trans hB.size hz64
    have hneg63g64 := Nat.lt_of_lt_of_le hg63.lt hz64
    replace hW2 := hW2.kept hk23
    replace hg14 := hg14.kept hk23
    replace hg1 := hg1.kept hk23
    replace hg4 := hg4.kept hk23
    replace hnW := Nat.le_trans hnW hk23.size
    replace hB := Kept.trans hB hk23
    replace hg63 := hg63.kept hk23
    refine cal h74 Try.call130 rfl (c_put g14 (Pl.page2 h) 156 _ [[h.typ]] _ hg14 (page2_len hm) (Rws.of_blk hg64 (Vec.one (Blk.byt (bs := [h.typ]) hg63 1 rfl (by simp) (by omega))) 1 rfl (by omega)) (by rintro (h | h) <;> omega) (by simp)) rfl ?_
    rintro v24 w24 a75 ⟨rfl, hg14', hbut24⟩ h75
    replace hW2 := hW2.but hbut24 (by intro h; have := h.1; omega)
    clear hg14; have hg14 := hg14'; clear hg14'
    replace hg1 := hg1.but hbut24 (by omega)
    replace hg4 := hg4.but hbut24 (by omega)
    replace hnW := Nat.le_trans hnW hbut24.size
    replace hB := Kept.but hB hbut24 (by omega)
    replace hg63 := hg63.but hbut24 (by omega)
    replace hg64 := hg64.but hbut24 (by omega)
    clear hK14 hK12 hK15 h41 h69 h70 h71 h72 h73 h74 K14 K12 K15 a41 a69 a70 a71 a72 a73 a74
    refine wpL_nil (hK19 _ _ ?_)
    refine sq fun K20 hK20 => ?_
    refine reg [some 66, some 67, some 68, some 69, some 70, some 71, some 72, some 73, some 74] rfl ?_
    refine fab h75 rfl Try.underlying108 rfl Try.sizeOf106 rfl 0 rfl rfl fun a76 h76 => ?_
    refine ldbn h76 hg4 ([.slice (some ⟨g14, 0, none⟩) 512 512]) rfl Try.isAgg106 Try.sizeOf106 rfl rfl fun a77 h77 => ?_
    refine bsl h77 rfl (bsl5_35_0_1_2_3_4 _ _ _ _ _) rfl fun a78 w25 g68 h78 hk25 hz68 hg68 => ?_
    have hneg14g68 := Nat.lt_of_lt_of_le hg14.lt hz68
    have hneg1g68 := Nat.lt_of_lt_of_le hg1.lt hz68
    have hneg4g68 := Nat.lt_of_lt_of_le hg4.lt hz68
    have hNhnWg68 := Nat.le_trans hnW hz68
    have hleg68 := Nat.le_trans hB.size hz68
    have hneg63g68 := Nat.lt_of_lt_of_le hg63.lt hz68
    have hneg64g68 := Nat.lt_of_lt_of_le hg64.lt hz68
    replace hW2 := hW2.kept hk25
    replace hg14 := hg14.kept hk25
    replace hg1 := hg1.kept hk25
    replace hg4 := hg4.kept hk25
    replace hnW := Nat.le_trans hnW hk25.size
    replace hB := Kept.trans hB hk25
    replace hg63 := hg63.kept hk25
    replace hg64 := hg64.kept hk25
    refine cvi h78 rfl Try.underlying35 Try.underlying5 hg68 rfl fun a79 w26 h79 hg68' hk26 => ?_
    replace hW2 := hW2.but hk26 (by first | (show ¬ (_ < _); omega) | (simp; omega))
    replace hg14 := hg14.but hk26 (by omega)
    replace hg1 := hg1.but hk26 (by omega)
    replace hg4 := hg4.but hk26 (by omega)
    replace hnW := Nat.le_trans hnW hk26.size
    replace hB := Kept.but hB hk26 (by omega)
    replace hg63 := hg63.but hk26 (by omega)
    replace hg64 := hg64.but hk26 (by omega)
    clear hg68; have hg68 := hg68'; clear hg68'
    refine bsl h79 rfl (bsl1_35_0 _) rfl fun a80 w27 g70 h80 hk27 hz70 hg70 => ?_
    have hneg14g70 := Nat.lt_of_lt_of_le hg14.lt hz70
    have hneg1g70 := Nat.lt_of_lt_of_le hg1.lt hz70
    have hneg4g70 := Nat.lt_of_lt_of_le hg4.lt hz70
    have hNhnWg70 := Nat.le_trans hnW hz70
    have hleg70 := Nat.le_trans hB.size hz70
    have hneg63g70 := Nat.lt_of_lt_of_le hg63.lt hz70
    have hneg64g70 := Nat.lt_of_lt_of_le hg64.lt hz70
    have hneg68g70 := Nat.lt_of_lt_of_le hg68.lt hz70
    replace hW2 := hW2.kept hk27
    replace hg14 := hg14.kept hk27
    replace hg1 := hg1.kept hk27
    replace hg4 := hg4.kept hk27
    replace hnW := Nat.le_trans hnW hk27.size
    replace hB := Kept.trans hB hk27
    replace hg63 := hg63.kept hk27
    replace hg64 := hg64.kept hk27
    replace hg68 := hg68.kept hk27
    refine bsl h80 rfl (bsl2_35_0_1 _ _) rfl fun a81 w28 g71 h81 hk28 hz71 hg71 => ?_
    have hneg14g71 := Nat.lt_of_lt_of_le hg14.lt hz71
    have hneg1g71 := Nat.lt_of_lt_of_le hg1.lt hz71
    have hneg4g71 := Nat.lt_of_lt_of_le hg4.lt hz71
    have hNhnWg71 := Nat.le_trans hnW hz71
    have hleg71 := Nat.le_trans hB.size hz71
    have hneg63g71 := Nat.lt_of_lt_of_le hg63.lt hz71
    have hneg64g71 := Nat.lt_of_lt_of_le hg64.lt hz71
    have hneg68g71 := Nat.lt_of_lt_of_le hg68.lt hz71
    have hneg70g71 := Nat.lt_of_lt_of_le hg70.lt hz71
    replace hW2 := hW2.kept hk28
    replace hg14 := hg14.kept hk28
    replace hg1 := hg1.kept hk28
    replace hg4 := hg4.kept hk28
    replace hnW := Nat.le_trans hnW hk28.size
    replace hB := Kept.trans hB hk28
    replace hg63 := hg63.kept hk28
    replace hg64 := hg64.kept hk28
    replace hg68 := hg68.kept hk28
    replace hg70 := hg70.kept hk28
    refine cvi h81 rfl Try.underlying35 Try.underlying5 hg71 rfl fun a82 w29 h82 hg71' hk29 => ?_
    replace hW2 := hW2.but hk29 (by first | (show ¬ (_ < _); omega) | (simp; omega))
    replace hg14 := hg14.but hk29 (by omega)
    replace hg1 := hg1.but hk29 (by omega)
    replace hg4 := hg4.but hk29 (by omega)
    replace hnW := Nat.le_trans hnW hk29.size
    replace hB := Kept.but hB hk29 (by omega)
    replace hg63 := hg63.but hk29 (by omega)
    replace hg64 := hg64.but hk29 (by omega)
    replace hg68 := hg68.but hk29 (by omega)
    replace hg70 := hg70.but hk29 (by omega)
    clear hg71; have hg71 := hg71'; clear hg71'
    refine bsl h82 rfl (bsl3_25_0_1_2 _ _ _ _ _ _ _ _ _) rfl fun a83 w30 g73 h83 hk30 hz73 hg73 => ?_
    have hneg14g73 := Nat.lt_of_lt_of_le hg14.lt hz73
    have hneg1g73 := Nat.lt_of_lt_of_le hg1.lt hz73
    have hneg4g73 := Nat.lt_of_lt_of_le hg4.lt hz73
    have hNhnWg73 := Nat.le_trans hnW hz73
    have hleg73 := Nat.le_trans hB.size hz73
    have hneg63g73 := Nat.lt_of_lt_of_le hg63.lt hz73
    have hneg64g73 := Nat.lt_of_lt_of_le hg64.lt hz73
    have hneg68g73 := Nat.lt_of_lt_of_le hg68.lt hz73
    have hneg70g73 := Nat.lt_of_lt_of_le hg70.lt hz73
    have hneg71g73 := Nat.lt_of_lt_of_le hg71.lt hz73
    replace hW2 := hW2.kept hk30
    replace hg14 := hg14.kept hk30
    replace hg4 := hg4.kept hk30
    replace hnW := Nat.le_trans hnW hk30.size
    replace hB := Kept.trans hB hk30
    replace hg68 := hg68.kept hk30
    replace hg70 := hg70.kept hk30
    replace hg71 := hg71.kept hk30
    have hr68 : Byt (fun b => b ≠ g14) w30 (.slice (some ⟨g68, 0, none⟩) 5 5) [117, 115, 116, 97, 114] := byt_ne (by rw [e68]; exact hg68) (by simp) (by omega)
    have hr70 : Byt (fun b => b ≠ g14) w30 (.slice (some ⟨g70, 0, none⟩) 1 1) [0] := byt_ne (by rw [e70]; exact hg70) (by simp) (by omega)
    have hr71 : Byt (fun b => b ≠ g14) w30 (.slice (some ⟨g71, 0, none⟩) 2 2) [48, 48] := byt_ne (by rw [e71]; exact hg71) (by simp) (by omega)
    have hr73 : Rws (fun b => b ≠ g14) w30 (.slice (some ⟨g73, 0, none⟩) 3 3) [[117, 115, 116, 97, 114], [0], [48, 48]] := rows_ne hg73 (Vec.cons hr68 (Vec.cons hr70 (Vec.one hr71))) (by rfl) (by omega)
    refine cal h83 Try.call130 rfl (c_put g14 (Pl.wrs (Pl.page2 h) 156 [[h.typ]]) 257 _ _ _ hg14 (page2b_len hm) hr73 (fun h => h rfl) (by decide)) rfl ?_
    rintro v31 w31 a84 ⟨rfl, hg14', hbut31⟩ h84
    replace hW2 := hW2.but hbut31 (by intro h; have := h.1; omega)
    clear hg14; have hg14 := hg14'; clear hg14'
    replace hg4 := hg4.but hbut31 (by omega)
    replace hnW := Nat.le_trans hnW hbut31.size
    replace hB := Kept.but hB hbut31 (by omega)
    clear hK19 h75 h76 h77 h78 h79 h80 h81 h82 h83 K19 a75 a76 a77 a78 a79 a80 a81 a82 a83
    refine wpL_nil (hK20 _ _ ?_)
    refine sq fun K21 hK21 => ?_
    clear hK20 K20
    have hgR := hg14.lt
    refine drwL h84 [some 75, some 76, some 77, some 78, some 79, some 80] rfl [Fx (.pointer (some ⟨g4, 0, none⟩)), Fx (.agg #[.slice (some ⟨g14, 0, none⟩) 512 512]), Fx (.agg #[.slice (some ⟨g14, 0, none⟩) 512 512]), fun v w' => Byt (fun b => w31.heap.size ≤ b) w' v (Pl.sumF (Pl.page3 h)), fun v w' => Rws (fun b => w31.heap.size ≤ b) w' v [Pl.sumF (Pl.page3 h)], fun v w' => v = .tuple #[] ∧ Blk w' g14 5 ((Pl.wrs (Pl.page3 h) (148) [Pl.sumF (Pl.page3 h)]).map u8)] Kept (But g14) 5 [true, true, true, true, true, true] rfl rfl rfl rfl rfl rfl (drewKept _) keptT (fun _ _ _ h k => But.trans (Kept.toBut h _) k) (fun _ _ _ h k => But.trans h (Kept.toBut k _)) (fun _ _ h => Kept.toBut h _) ((mcons mfx (mcons mfx (mcons mfx (mcons (fun v w w' hk h => h.kept hk) (mcons (fun v w w' hk h => h.kept hk) (mcons (fun v w w' hk h => ⟨h.1, h.2.kept hk⟩) mnil))))))) (MonoX.all (mconsX (fun _ => mfx) (mconsX (fun _ => mfx) (mconsX (fun _ => mfx) (mconsX (fun _ => (fun v w w' hk h => h.but hk (by show ¬ (_ ≤ _); omega))) (mconsX (fun _ => (fun v w w' hk h => h.but hk (by show ¬ (_ ≤ _); omega))) (mconsX (fun h => absurd rfl h) mnilX))))))) ⟨?_, ?_, ?_, ?_, ?_, ?_, trivial⟩ ?_
    ·
     intro L a w_ hH hb hR hd ho
     have hl4 := hb 4 _ rfl
     replace hR : Kept w31 w_ := hR
     refine fab hH hl4 Try.underlying108 rfl Try.sizeOf106 rfl 0 rfl rfl fun a85 h85 => ?_
     exact wpL_nil ⟨_, h85, Kept.refl _, rfl⟩
    ·
     intro L a w_ hH hb hR hd ho
     obtain ⟨_, hl75, rfl⟩ := hd 0 rfl
     replace hR : Kept w31 w_ := hR
     replace hg4 := hg4.kept hR
     refine ldbn hH hg4 ([.slice (some ⟨g14, 0, none⟩) 512 512]) hl75 Try.isAgg106 Try.sizeOf106 rfl rfl fun a86 h86 => ?_
     exact wpL_nil ⟨_, h86, Kept.refl _, rfl⟩
    ·
     intro L a w_ hH hb hR hd ho
     have hl4 := hb 4 _ rfl
     replace hR : Kept w31 w_ := hR
     replace hg4 := hg4.kept hR
     refine ldbn hH hg4 ([.slice (some ⟨g14, 0, none⟩) 512 512]) hl4 Try.isAgg108 Try.sizeOf108 rfl rfl fun a87 h87 => ?_
     exact wpL_nil ⟨_, h87, Kept.refl _, rfl⟩
    ·
     intro L a w_ hH hb hR hd ho
     obtain ⟨_, hl77, rfl⟩ := hd 2 rfl
     replace hR : Kept w31 w_ := hR
     replace hg14 := hg14.kept hR
     refine cal hH Try.call89 (evs1 hl77) (c_ssum _ (Pl.page3 h) _ (Blk.byt hg14 512 (page3_len hm).symm (Nat.le_of_eq (page3_len hm)) (by omega))) rfl ?_
     rintro v32 w32 a88 ⟨hO78, hk32⟩ h88
     exact wpL_nil ⟨_, h88, hk32, (Own.byt hO78).mono (fun b hb => Nat.le_trans hR.size hb)⟩
    ·
     intro L a w_ hH hb hR hd ho
     obtain ⟨v78, hl78, hf78⟩ := hd 3 rfl
     replace hR : Kept w31 w_ := hR
     replace hg4 := hg4.kept hR
     replace hg14 := hg14.kept hR
     obtain ⟨A78, c78, rfl⟩ := hf78.isl
     refine bsl hH (evpc hl78 evp0) (bsl1_25_0 _ _ _) rfl fun a89 w33 g79 h89 hk33 hz79 hg79 => ?_
     have hneg4g79 := Nat.lt_of_lt_of_le hg4.lt hz79
     have hneg14g79 := Nat.lt_of_lt_of_le hg14.lt hz79
     exact wpL_nil ⟨_, h89, hk33, (Rws.of_blk hg79 (Vec.one (hf78.kept hk33)) 1 rfl (by omega)).mono (fun b hb => by rcases hb with hb | hb; exact hb ▸ Nat.le_trans hR.size hz79; exact hb)⟩
    ·
     intro L a w_ hH hb hR hd ho
     obtain ⟨_, hl76, rfl⟩ := hd 1 rfl
     obtain ⟨v79, hl79, hf79⟩ := hd 4 rfl
     replace hR : Kept w31 w_ := hR
     replace hg14 := hg14.kept hR
     refine cal hH Try.call130 (evs3 hl76 rfl hl79) (c_put g14 (Pl.page3 h) (148) _ [Pl.sumF (Pl.page3 h)] _ hg14 (page3_len hm) hf79 (by show ¬ (_ ≤ _); omega) (by have := sumF_len (Pl.page3 h); simp; omega)) rfl ?_
     rintro v34 w34 a90 ⟨rfl, hg14', hbut34⟩ h90
     exact wpL_nil ⟨_, h90, hbut34, ⟨rfl, hg14'⟩⟩
    intro L35 a91 w35 h91 hbh91 hRh91 hdh91
    obtain ⟨_, hl75, rfl⟩ := hdh91 0 (by decide)
    obtain ⟨_, hl76, rfl⟩ := hdh91 1 (by decide)
    obtain ⟨_, hl77, rfl⟩ := hdh91 2 (by decide)
    obtain ⟨v78, hl78, hf78⟩ := hdh91 3 (by decide)
    obtain ⟨v79, hl79, hf79⟩ := hdh91 4 (by decide)
    obtain ⟨v80, hl80, hf80⟩ := hdh91 5 (by decide)
    have h92 := Has.under h91 hbh91
    have h93 := (h91.add hl80 (h91.add hl79 (h91.add hl78 (h91.add hl77 (h91.add hl76 (h91.add hl75 h92))))))
    clear h92 hl75 hl76 hl77 hl78 hl79 hl80 hbh91 hdh91
    obtain ⟨rfl, hg14'⟩ := hf80
    replace hW2 := hW2.but hRh91 (by intro h; have := h.1; omega)
    clear hg14; have hg14 := hg14'; clear hg14'
    replace hg4 := hg4.but hRh91 (by omega)
    replace hnW := Nat.le_trans hnW hRh91.size
    replace hB := Kept.but hB hRh91 (by omega)
    refine hK21 _ _ ?_
    refine sq fun K22 hK22 => ?_
    refine reg [some 81, some 82, some 83, some 2, some 3] rfl ?_
    refine fab h93 rfl Try.underlying108 rfl Try.sizeOf106 rfl 0 rfl rfl fun a94 h94 => ?_
    refine fab h94 rfl Try.underlying106 rfl Try.sizeOf35 rfl 0 rfl rfl fun a95 h95 => ?_
    refine ldb h95 hg4 rfl Try.isAgg35 rfl rfl fun a96 h96 => ?_
    refine asg h96 rfl rfl fun a97 h97 => ?_
    refine asg h97 rfl rfl fun a98 h98 => ?_
    clear hK21 h93 h94 h95 h96 h97 K21 a94 a95 a96 a97
    refine wpL_nil (hK22 _ _ ?_)
    refine rtn (leave h98 (res2 h98 rfl (rvt rfl) (rvt rfl)) ?_)
    exact ⟨_, rfl, ⟨_, by rw [put_yes hm]; rfl, by rw [put_yes hm]; exact (Blk.byt (bs := Pl.page h) hg14 512 (page_len hm).symm (Nat.le_of_eq (page_len hm)) (by omega)).mono (fun b hb => by omega)⟩, hB⟩

end Go.Proofs.Ytpgeogdmjgmimaa
