/-
  Walks, written by wip/gen/gen.py.
-/
import Derived.Test.YtpgeogdmjgmimaaW17
import Derived.Test.YtpgeogdmjgmimaaPTree
set_option linter.unusedVariables false
set_option linter.unusedSimpArgs false
set_option maxRecDepth 4000
namespace Go.Proofs.Ytpgeogdmjgmimaa
open Go Go.RowKit K

def few6 (t : List Pl.Nd) : Bool := decide (t.length ≤ 30) && t.all few5
theorem few6_no {t : List Pl.Nd} {k : Nat} {x : Pl.Nd} (hx : t[k]? = some x) (h : few5 x = false) : few6 t = false := by
  unfold few6; rw [all_not hx h, Bool.and_false]
theorem few6_end {t : List Pl.Nd} {k : Nat} (h : (t.take k).all few5 = true) (hk : t.length ≤ k ∨ 30 < k) (hkl : k ≤ t.length) : few6 t = decide ((t.length : Int) ≤ 30) := by
  unfold few6
  rcases hk with hk | hk
  · rw [List.take_of_length_le hk] at h; rw [h, Bool.and_true, decide_eq_decide]; omega
  · rw [decide_eq_false (by omega), Bool.false_and, decide_eq_false (by omega)]
theorem few6_at {t : List Pl.Nd} (h : few6 t = true) : t.length ≤ 30 ∧ ∀ n ∈ t, few5 n = true := by
  simp [few6] at h; exact h
noncomputable def mapF : List Pl.Nd → Value → Option Value
  | [] => fun _ => none
  | n :: l => upd (mapF l) (str n.path) (u8 n.kind)
theorem str_inj {a b : List UInt8} : (str a = str b) = (a = b) := by
  apply propext; constructor
  · intro h; injection h with h; injection h with h; simpa using h
  · rintro rfl; rfl
theorem mapF_at (l : List Pl.Nd) (p : List UInt8) : (mapF l (str p)).getD (.int .u8 0) = u8 (Pl.kindAt l p) := by
  induction l with
  | nil => rfl
  | cons x l ih =>
    unfold mapF Pl.kindAt upd
    by_cases h : p = x.path
    · subst h; rw [if_pos rfl, if_pos rfl]; rfl
    · rw [if_neg (by rw [str_inj]; exact h), if_neg (fun e => h e.symm)]; exact ih
theorem may_step {t : List Pl.Nd} {sn : List Pl.Nd} {la : List UInt8} {k : Nat} {x : Pl.Nd} (hq : Pl.mayFrom [] [] t = Pl.mayFrom sn la (t.drop k)) (hx : t[k]? = some x) : Pl.mayFrom [] [] t = (Pl.nodeOk sn la x && Pl.mayFrom (x :: sn) x.path (t.drop (k + 1))) := by
  obtain ⟨hk, e⟩ := List.getElem?_eq_some_iff.1 hx
  rw [hq, List.drop_eq_getElem_cons hk, e]; rfl
theorem u8d {a : UInt8} {q : UInt8} : decide ((a.toNat : Int) = (q.toNat : Int)) = decide (a = q) := by rw [decide_eq_decide, u8inj]
theorem may_none {t : List Pl.Nd} {k : Nat} {sn : List Pl.Nd} {la : List UInt8} (hl : t.length ≤ 20) (hq : Pl.mayFrom [] [] t = Pl.mayFrom sn la (t.drop k)) (hk : t.length ≤ k) : Pl.treeMay t = true := by
  unfold Pl.treeMay; rw [hq, List.drop_eq_nil_of_le hk, decide_eq_true hl]; rfl
theorem u8d53 {a : UInt8} : decide ((a.toNat : Int) = 53) = decide (a = 53) := u8d (q := 53)
theorem u8d49 {a : UInt8} : decide ((a.toNat : Int) = 49) = decide (a = 49) := u8d (q := 49)
theorem u8d48 {a : UInt8} : decide ((a.toNat : Int) = 48) = decide (a = 48) := u8d (q := 48)

/-- reelkeeperlaw06.Few -/
theorem c_few6 {S : Nat → Prop} (v : Value) (l : List Pl.Nd) (w : World) (hv : Sts ndCells S w v l) :
  C Try.prog 25 [v] w fun v w' => v = .bool (few6 l) ∧ Kept w w' := by
 have hbd := hv.bound
 refine enterE Try.func25 rfl 25 rfl rfl fun a0 h0 => ?_
 have hB := Kept.refl w
 refine sq fun K1 hK1 => ?_
 refine reg [some 2] rfl ?_
 refine asg h0 rfl rfl fun a1 h1 => ?_
 clear h0 a0
 refine wpL_nil (hK1 _ _ ?_)
 refine sq fun K2 hK2 => ?_
 refine sq fun K3 hK3 => ?_
 refine reg [some 3] rfl ?_
 refine asg h1 rfl rfl fun a2 h2 => ?_
 clear hK1 h1 K1 a1
 refine wpL_nil (hK3 _ _ ?_)
 refine blc ?_
 clear hK3 K3
 refine lp (fun (k : Nat) (a : Act) (W : World) => Has [] 25 [(0, v), (3, .int .i64 (k : Int))] a ∧ (k ≤ l.length ∧ k ≤ 31) ∧ ((l.take k).all few5 = true) ∧ (Sts ndCells S W v l) ∧ (Kept w W)) (fun (k : Nat) => l.length - k) (0) ⟨(h2.cons' rfl (h2.cons' rfl (h2.nil'))), ⟨Nat.zero_le _, by omega⟩, rfl, hv, hB⟩ ?_
 clear h2 hv hB
 rintro k a3 w1 ⟨h3, hk, hq, hv, hB⟩
 refine sq fun K4 hK4 => ?_
 refine sq fun K5 hK5 => ?_
 refine reg [some 5, some 6, some 7, some 8, some 9, some 10, some 11, some 12] rfl ?_
 refine mv h3 rfl rfl fun a4 h4 => ?_
 refine mv h4 rfl rfl fun a5 h5 => ?_
 refine lnx h5 rfl Try.underlying22 rfl hv.isl rfl fun a6 h6 => ?_
 refine lss h6 rfl rfl rfl fun a7 h7 => ?_
 refine mv h7 rfl rfl fun a8 h8 => ?_
 refine spl h8 (d := 9) rfl (fun hb1 => ?_) (fun hb1 => ?_)
 ·
  have hp1 := of_decide_eq_true hb1
  obtain ⟨x, hx⟩ : ∃ x, l[k]? = some x := ⟨_, List.getElem?_eq_getElem (by have := of_decide_eq_true hb1; omega)⟩
  refine gon h8 (d := 9) rfl rfl hb1 ?_
  refine mv h8 rfl rfl fun a9 h9 => ?_
  refine gon h9 (d := 9) rfl rfl hb1 ?_
  refine leq h9 rfl rfl rfl fun a10 h10 => ?_
  refine pkt h10 rfl hb1 rfl rfl fun a11 h11 => ?_
  clear h3 h4 h5 h6 h7 h8 h9 h10 a3 a4 a5 a6 a7 a8 a9 a10
  refine wpL_nil (hK5 _ _ ?_)
  refine spl h11 (d := 12) rfl (fun hb2 => ?_) (fun hb2 => ?_)
  ·
   have hp2 := of_decide_eq_true hb2
   refine cdt h11 rfl hb2 ?_
   refine skp (hK4 _ _ ?_)
   refine sq fun K6 hK6 => ?_
   refine blc ?_
   refine sq fun K7 hK7 => ?_
   refine reg [some 15, some 16, some 17, some 18, some 19, some 4] rfl ?_
   refine mv h11 rfl rfl fun a12 h12 => ?_
   refine mv h12 rfl rfl fun a13 h13 => ?_
   refine ixS (k := k) nd_len hv h13 rfl rfl Try.underlying22 Try.sizeOf32 (by decide) (by simp) (hx) rfl fun a14 ad17 h14 hI17 => ?_
   refine ldS h14 hI17 rfl Try.isAgg32 Try.sizeOf32 rfl fun a15 h15 => ?_
   refine cal h15 Try.call40 rfl (c_few5 _ _) rfl ?_
   rintro v2 w2 a16 ⟨rfl, hk2⟩ h16
   replace hv := hv.kept hk2
   replace hB := Kept.trans hB hk2
   refine asg h16 rfl rfl fun a17 h17 => ?_
   clear hK5 hK4 h11 h12 h13 h14 h15 h16 K5 K4 a11 a12 a13 a14 a15 a16
   refine wpL_nil (hK7 _ _ ?_)
   refine sq fun K8 hK8 => ?_
   refine reg [some 20, some 21] rfl ?_
   refine mv h17 rfl rfl fun a18 h18 => ?_
   refine unot h18 rfl rfl fun a19 h19 => ?_
   clear hK7 h17 h18 K7 a17 a18
   refine wpL_nil (hK8 _ _ ?_)
   refine spl h19 (d := 21) rfl (fun hb3 => ?_) (fun hb3 => ?_)
   ·
    refine cdt h19 rfl (bnf (bunt hb3)) ?_
    refine sq fun K9 hK9 => ?_
    refine reg [some 2] rfl ?_
    refine asg h19 rfl rfl fun a20 h20 => ?_
    clear hK8 h19 K8 a19
    refine wpL_nil (hK9 _ _ ?_)
    refine rtn (leave h20 (res1 h20 rfl (rvt rfl)) ?_)
    exact ⟨_, rfl, by rw [few6_no hx (bunt hb3)], hB⟩
   ·
    refine cdf h19 rfl (bnt (bunf hb3)) ?_
    refine skp (hK6 _ _ ?_)
    refine reg [some 13, some 14, some 3] rfl ?_
    refine mv h19 rfl rfl fun a21 h21 => ?_
    refine add h21 rfl rfl rfl (by omega) fun a22 h22 => ?_
    refine asg h22 rfl rfl fun a23 h23 => ?_
    clear hK8 hK6 h19 h21 h22 K8 K6 a19 a21 a22
    refine wpL_nil ?_
    exact ⟨k + 1, ⟨(h23.cons' rfl (h23.cons' (lke rfl (by simp)) (h23.nil'))), by omega, (all_next hq hx (bunf hb3)), hv, hB⟩, by omega⟩
  ·
   have hp2 := of_decide_eq_false hb2
   refine cdf h11 rfl hb2 ?_
   refine xit (hK2 _ _ ?_)
   refine sq fun K10 hK10 => ?_
   refine reg [some 22, some 23, some 24, some 2] rfl ?_
   refine mv h11 rfl rfl fun a24 h24 => ?_
   refine lnx h24 rfl Try.underlying22 rfl hv.isl rfl fun a25 h25 => ?_
   refine leq h25 rfl rfl rfl fun a26 h26 => ?_
   refine asg h26 rfl rfl fun a27 h27 => ?_
   clear hK5 hK2 hK4 h11 h24 h25 h26 K5 K2 K4 a11 a24 a25 a26
   refine wpL_nil (hK10 _ _ ?_)
   refine rtn (leave h27 (res1 h27 rfl (rvt rfl)) ?_)
   exact ⟨_, rfl, by rw [few6_end hq (by omega) (by omega)], hB⟩
 ·
  have hp1 := of_decide_eq_false hb1
  refine goff h8 (d := 9) rfl rfl hb1 rfl fun a28 h28 => ?_
  refine goff h28 (d := 9) rfl rfl hb1 rfl fun a29 h29 => ?_
  refine pkf h29 rfl hb1 rfl rfl fun a30 h30 => ?_
  clear h3 h4 h5 h6 h7 h8 h28 h29 a3 a4 a5 a6 a7 a8 a28 a29
  refine wpL_nil (hK5 _ _ ?_)
  refine cdf h30 rfl rfl ?_
  refine xit (hK2 _ _ ?_)
  refine sq fun K11 hK11 => ?_
  refine reg [some 22, some 23, some 24, some 2] rfl ?_
  refine mv h30 rfl rfl fun a31 h31 => ?_
  refine lnx h31 rfl Try.underlying22 rfl hv.isl rfl fun a32 h32 => ?_
  refine leq h32 rfl rfl rfl fun a33 h33 => ?_
  refine asg h33 rfl rfl fun a34 h34 => ?_
  clear hK5 hK2 hK4 h30 h31 h32 h33 K5 K2 K4 a30 a31 a32 a33
  refine wpL_nil (hK11 _ _ ?_)
  refine rtn (leave h34 (res1 h34 rfl (rvt rfl)) ?_)
  exact ⟨_, rfl, by rw [few6_end hq (by omega) (by omega)], hB⟩

/-- tree.May -/
theorem c_treeMay {S : Nat → Prop} (v : Value) (l : List Pl.Nd) (w : World) (hv : Sts ndCells S w v l) (hl : ∀ n ∈ l, NdL n) :
  C Try.prog 26 [v] w fun v w' => v = .bool (Pl.treeMay l) ∧ Kept w w' := by
 have hbd := hv.bound
 replace hv := hv.lt
 have hWle := Nat.le_refl w.heap.size
 refine enterE Try.func26 rfl 59 rfl rfl fun a0 h0 => ?_
 have hB := Kept.refl w
 refine sq fun K1 hK1 => ?_
 refine reg [some 2] rfl ?_
 refine asg h0 rfl rfl fun a1 h1 => ?_
 clear h0 a0
 refine wpL_nil (hK1 _ _ ?_)
 refine sq fun K2 hK2 => ?_
 refine sq fun K3 hK3 => ?_
 refine reg [some 9, some 10, some 11] rfl ?_
 refine mv h1 rfl rfl fun a2 h2 => ?_
 refine lnx h2 rfl Try.underlying22 rfl hv.isl rfl fun a3 h3 => ?_
 refine gtr h3 rfl rfl rfl fun a4 h4 => ?_
 clear hK1 h1 h2 h3 K1 a1 a2 a3
 refine wpL_nil (hK3 _ _ ?_)
 refine spl h4 (d := 11) rfl (fun hb1 => ?_) (fun hb1 => ?_)
 ·
  have hp1 := of_decide_eq_true hb1
  refine cdt h4 rfl hb1 ?_
  refine sq fun K4 hK4 => ?_
  refine reg [some 2] rfl ?_
  refine asg h4 rfl rfl fun a5 h5 => ?_
  clear hK3 h4 K3 a4
  refine wpL_nil (hK4 _ _ ?_)
  refine rtn (leave h5 (res1 h5 rfl (rvt rfl)) ?_)
  exact ⟨_, rfl, by unfold Pl.treeMay; rw [decide_eq_false (by omega), Bool.false_and], hB⟩
 ·
  have hp1 := of_decide_eq_false hb1
  refine cdf h4 rfl hb1 ?_
  refine skp (hK2 _ _ ?_)
  refine sq fun K5 hK5 => ?_
  refine reg [some 12, some 3] rfl ?_
  refine mkm (.string) h4 rfl fun a6 w1 g12 h6 hk1 hz12 hg12 => ?_
  have hleg12 := Nat.le_trans hB.size hz12
  have hNhWleg12 := Nat.le_trans hWle hz12
  replace hB := Kept.trans hB hk1
  replace hv := hv.kept hk1
  replace hWle := Nat.le_trans hWle hk1.size
  refine asg h6 rfl rfl fun a7 h7 => ?_
  clear hK3 hK2 h4 h6 K3 K2 a4 a6
  refine wpL_nil (hK5 _ _ ?_)
  refine sq fun K6 hK6 => ?_
  refine reg [some 4] rfl ?_
  refine asg h7 rfl rfl fun a8 h8 => ?_
  clear hK5 h7 K5 a7
  refine wpL_nil (hK6 _ _ ?_)
  refine sq fun K7 hK7 => ?_
  refine sq fun K8 hK8 => ?_
  refine reg [some 13, some 14, some 15] rfl ?_
  refine mv h8 rfl rfl fun a9 h9 => ?_
  refine lnx h9 rfl Try.underlying22 rfl hv.isl rfl fun a10 h10 => ?_
  refine mv h10 rfl rfl fun a11 h11 => ?_
  clear hK6 h8 h9 h10 K6 a8 a9 a10
  refine wpL_nil (hK8 _ _ ?_)
  refine blc ?_
  clear hK8 K8
  refine lp (fun (k : Nat) (a : Act) (W : World) => ∃ (sn : List Pl.Nd), ∃ (la : List UInt8), Has [] 59 [(3, .map (some g12)), (4, str la), (13, v), (14, .int .i64 (l.length : Int)), (15, .int .i64 (k : Int))] a ∧ (k ≤ l.length) ∧ (Pl.mayFrom [] [] l = Pl.mayFrom sn la (l.drop k)) ∧ (Sts ndCells (fun b => S b ∧ b < w.heap.size) W v l) ∧ (w.heap.size ≤ W.heap.size) ∧ (Mp .string (mapF sn) W g12) ∧ (Kept w W)) (fun (k : Nat) => l.length - k) (0) ⟨[], [], (h11.cons' rfl (h11.cons' rfl (h11.cons' rfl (h11.cons' rfl (h11.cons' rfl (h11.nil')))))), Nat.zero_le _, rfl, hv, hWle, hg12, hB⟩ ?_
  clear h11 hg12 hWle hv hB
  rintro k a12 w2 ⟨sn, la, h12, hk, hq, hv, hWle, hg12, hB⟩
  refine sq fun K9 hK9 => ?_
  refine reg [some 16] rfl ?_
  refine lss h12 rfl rfl rfl fun a13 h13 => ?_
  clear h12 a12
  refine wpL_nil (hK9 _ _ ?_)
  refine sq fun K10 hK10 => ?_
  refine spl h13 (d := 16) rfl (fun hb2 => ?_) (fun hb2 => ?_)
  ·
   have hp2 := of_decide_eq_true hb2
   have hlt := of_decide_eq_true hb2
   obtain ⟨x, hx⟩ : ∃ x, l[k]? = some x := ⟨_, List.getElem?_eq_getElem (by omega)⟩
   obtain ⟨hn1, hn2, hn3⟩ := hl x (List.mem_of_getElem? hx)
   refine cdt h13 rfl hb2 ?_
   refine skp (hK10 _ _ ?_)
   refine sq fun K11 hK11 => ?_
   refine blc ?_
   refine sq fun K12 hK12 => ?_
   refine reg [some 17, some 18, some 6, none] rfl ?_
   refine ixS (k := k) nd_len hv h13 rfl rfl Try.underlying22 Try.sizeOf32 (by decide) (by simp) (hx) rfl fun a14 ad17 h14 hI17 => ?_
   refine ldS h14 hI17 rfl Try.isAgg32 Try.sizeOf32 rfl fun a15 h15 => ?_
   refine alc h15 Try.zeroValue32 rfl rfl fun a16 w3 g6 h16 hk3 hz6 hg6 => ?_
   have hNhWleg6 := Nat.le_trans hWle hz6
   have hneg12g6 := Nat.lt_of_lt_of_le hg12.lt hz6
   have hleg6 := Nat.le_trans hB.size hz6
   replace hv := hv.kept hk3
   replace hWle := Nat.le_trans hWle hk3.size
   replace hg12 := hg12.kept hk3
   replace hB := Kept.trans hB hk3
   refine stb h16 hg6 rfl rfl _ rfl Try.sizeOf32 (nd_one _) _ (by simp [ndCells]) rfl fun w4 hg6' hk4 => ?_
   replace hv := hv.but hk4 (by first | (show ¬ (_ < _); omega) | (simp; omega))
   replace hWle := Nat.le_trans hWle hk4.size
   replace hg12 := hg12.but hk4 (by omega)
   replace hB := Kept.but hB hk4 (by omega)
   clear hg6; have hg6 := hg6'; clear hg6'
   clear hK9 hK10 h13 h14 h15 K9 K10 a13 a14 a15
   refine wpL_nil (hK12 _ _ ?_)
   refine sq fun K13 hK13 => ?_
   refine sq fun K14 hK14 => ?_
   refine reg [some 19, some 20, some 21, some 22, some 23, some 24, some 25, some 26, some 27] rfl ?_
   refine ldbn h16 hg6 (ndCells x) rfl Try.isAgg32 Try.sizeOf32 rfl rfl fun a17 h17 => ?_
   refine cal h17 Try.call41 rfl (c_one _ _ ⟨hn1, hn2, hn3⟩) rfl ?_
   rintro v5 w5 a18 ⟨rfl, hk5⟩ h18
   replace hv := hv.kept hk5
   replace hWle := Nat.le_trans hWle hk5.size
   replace hg12 := hg12.kept hk5
   replace hB := Kept.trans hB hk5
   replace hg6 := hg6.kept hk5
   refine unot h18 rfl rfl fun a19 h19 => ?_
   refine mv h19 rfl rfl fun a20 h20 => ?_
   refine spl h20 (d := 22) rfl (fun hb3 => ?_) (fun hb3 => ?_)
   ·
    refine goff h20 (d := 22) rfl rfl (bnf (bunt hb3)) rfl fun a21 h21 => ?_
    refine goff h21 (d := 22) rfl rfl (bnf (bunt hb3)) rfl fun a22 h22 => ?_
    refine goff h22 (d := 22) rfl rfl (bnf (bunt hb3)) rfl fun a23 h23 => ?_
    refine goff h23 (d := 22) rfl rfl (bnf (bunt hb3)) rfl fun a24 h24 => ?_
    refine pkt h24 rfl (bnf (bunt hb3)) rfl rfl fun a25 h25 => ?_
    clear hK12 h16 h17 h18 h19 h20 h21 h22 h23 h24 K12 a16 a17 a18 a19 a20 a21 a22 a23 a24
    refine wpL_nil (hK14 _ _ ?_)
    refine cdt h25 rfl rfl ?_
    refine sq fun K15 hK15 => ?_
    refine reg [some 2] rfl ?_
    refine asg h25 rfl rfl fun a26 h26 => ?_
    clear hK14 h25 K14 a25
    refine wpL_nil (hK15 _ _ ?_)
    refine rtn (leave h26 (res1 h26 rfl (rvt rfl)) ?_)
    exact ⟨_, rfl, by unfold Pl.treeMay; rw [may_step hq hx]; unfold Pl.nodeOk; simp only [← u8d53, ← u8d49, ← u8d48, hb2, (bunt hb3), Bool.true_or, Bool.false_or, Bool.or_true, Bool.not_true, Bool.not_false, Bool.true_and, Bool.false_and, Bool.and_true, Bool.and_false], hB⟩
   ·
    refine gon h20 (d := 22) rfl rfl (bnt (bunf hb3)) ?_
    refine fab h20 rfl Try.underlying32 rfl Try.sizeOf9 rfl 0 rfl rfl fun a27 h27 => ?_
    refine gon h27 (d := 22) rfl rfl (bnt (bunf hb3)) ?_
    refine ldb h27 hg6 rfl Try.isAgg9 rfl rfl fun a28 h28 => ?_
    refine gon h28 (d := 22) rfl rfl (bnt (bunf hb3)) ?_
    refine mv h28 rfl rfl fun a29 h29 => ?_
    refine gon h29 (d := 22) rfl rfl (bnt (bunf hb3)) ?_
    refine sleq h29 rfl rfl rfl fun a30 h30 => ?_
    refine pkf h30 rfl (bnt (bunf hb3)) rfl rfl fun a31 h31 => ?_
    clear hK12 h16 h17 h18 h19 h20 h27 h28 h29 h30 K12 a16 a17 a18 a19 a20 a27 a28 a29 a30
    refine wpL_nil (hK14 _ _ ?_)
    refine spl h31 (d := 27) rfl (fun hb4 => ?_) (fun hb4 => ?_)
    ·
     refine cdt h31 rfl hb4 ?_
     refine sq fun K16 hK16 => ?_
     refine reg [some 2] rfl ?_
     refine asg h31 rfl rfl fun a32 h32 => ?_
     clear hK14 h31 K14 a31
     refine wpL_nil (hK16 _ _ ?_)
     refine rtn (leave h32 (res1 h32 rfl (rvt rfl)) ?_)
     exact ⟨_, rfl, by unfold Pl.treeMay; rw [may_step hq hx]; unfold Pl.nodeOk; simp only [← u8d53, ← u8d49, ← u8d48, hb2, (bunf hb3), hb4, Bool.true_or, Bool.false_or, Bool.or_true, Bool.not_true, Bool.not_false, Bool.true_and, Bool.false_and, Bool.and_true, Bool.and_false], hB⟩
    ·
     refine cdf h31 rfl hb4 ?_
     refine skp (hK13 _ _ ?_)
     refine sq fun K17 hK17 => ?_
     refine sq fun K18 hK18 => ?_
     refine reg [some 29, some 30, some 31, some 28, some 32, some 33, some 7, some 8] rfl ?_
     refine fab h31 rfl Try.underlying32 rfl Try.sizeOf9 rfl 0 rfl rfl fun a33 h33 => ?_
     refine ldb h33 hg6 rfl Try.isAgg9 rfl rfl fun a34 h34 => ?_
     refine cal h34 Try.call74 rfl (c_parent _ _ (by omega)) rfl ?_
     rintro v6 w6 a35 ⟨rfl, hk6⟩ h35
     replace hv := hv.kept hk6
     replace hWle := Nat.le_trans hWle hk6.size
     replace hg12 := hg12.kept hk6
     replace hB := Kept.trans hB hk6
     replace hg6 := hg6.kept hk6
     refine mv h35 rfl rfl fun a36 h36 => ?_
     refine ext2_0 h36 rfl rfl fun a37 h37 => ?_
     refine ext2_1 h37 rfl rfl fun a38 h38 => ?_
     refine asg h38 rfl rfl fun a39 h39 => ?_
     refine asg h39 rfl rfl fun a40 h40 => ?_
     clear hK14 hK13 h31 h33 h34 h35 h36 h37 h38 h39 K14 K13 a31 a33 a34 a35 a36 a37 a38 a39
     refine wpL_nil (hK18 _ _ ?_)
     refine sq fun K19 hK19 => ?_
     refine reg [some 34, some 35, some 36, some 37, some 38, some 39, some 40] rfl ?_
     refine mv h40 rfl rfl fun a41 h41 => ?_
     refine mv h41 rfl rfl fun a42 h42 => ?_
     refine spl h42 (d := 35) rfl (fun hb5 => ?_) (fun hb5 => ?_)
     ·
      refine gon h42 (d := 35) rfl rfl hb5 ?_
      refine mv h42 rfl rfl fun a43 h43 => ?_
      refine gon h43 (d := 35) rfl rfl hb5 ?_
      refine mv h43 rfl rfl fun a44 h44 => ?_
      refine gon h44 (d := 35) rfl rfl hb5 ?_
      refine lku h44 hg12 rfl rfl (by first | trivial | rfl) Try.underlying87 Try.underlying9 Try.zeroValue5 rfl fun a45 h45 => ?_
      rw [mapF_at] at h45
      refine gon h45 (d := 35) rfl rfl hb5 ?_
      refine ineq h45 rfl rfl rfl fun a46 h46 => ?_
      refine pkt h46 rfl hb5 rfl rfl fun a47 h47 => ?_
      clear hK18 h40 h41 h42 h43 h44 h45 h46 K18 a40 a41 a42 a43 a44 a45 a46
      refine wpL_nil (hK19 _ _ ?_)
      refine spl h47 (d := 40) rfl (fun hb6 => ?_) (fun hb6 => ?_)
      ·
       have hp6 := of_decide_eq_false (bunt hb6)
       refine cdt h47 rfl (bnf (bunt hb6)) ?_
       refine sq fun K20 hK20 => ?_
       refine reg [some 2] rfl ?_
       refine asg h47 rfl rfl fun a48 h48 => ?_
       clear hK19 h47 K19 a47
       refine wpL_nil (hK20 _ _ ?_)
       refine rtn (leave h48 (res1 h48 rfl (rvt rfl)) ?_)
       exact ⟨_, rfl, by unfold Pl.treeMay; rw [may_step hq hx]; unfold Pl.nodeOk; simp only [← u8d53, ← u8d49, ← u8d48, hb2, (bunf hb3), hb4, hb5, (bunt hb6), Bool.true_or, Bool.false_or, Bool.or_true, Bool.not_true, Bool.not_false, Bool.true_and, Bool.false_and, Bool.and_true, Bool.and_false], hB⟩
      ·
       have hp6 := of_decide_eq_true (bunf hb6)
       refine cdf h47 rfl (bnt (bunf hb6)) ?_
       refine skp (hK17 _ _ ?_)
       refine sq fun K21 hK21 => ?_
       refine sq fun K22 hK22 => ?_
       refine reg [some 41, some 42, some 43, some 44, some 45, some 46, some 47, some 48, some 49, some 50] rfl ?_
       refine fab h47 rfl Try.underlying32 rfl Try.sizeOf5 rfl 2 rfl rfl fun a49 h49 => ?_
       refine ldb h49 hg6 rfl Try.isAgg5 rfl rfl fun a50 h50 => ?_
       refine ieq h50 rfl rfl rfl fun a51 h51 => ?_
       refine mv h51 rfl rfl fun a52 h52 => ?_
       refine spl h52 (d := 44) rfl (fun hb7 => ?_) (fun hb7 => ?_)
       ·
        have hp7 := of_decide_eq_true hb7
        refine gon h52 (d := 44) rfl rfl hb7 ?_
        refine mv h52 rfl rfl fun a53 h53 => ?_
        refine gon h53 (d := 44) rfl rfl hb7 ?_
        refine fab h53 rfl Try.underlying32 rfl Try.sizeOf9 rfl 1 rfl rfl fun a54 h54 => ?_
        refine gon h54 (d := 44) rfl rfl hb7 ?_
        refine ldb h54 hg6 rfl Try.isAgg9 rfl rfl fun a55 h55 => ?_
        refine gon h55 (d := 44) rfl rfl hb7 ?_
        refine lku h55 hg12 rfl rfl (by first | trivial | rfl) Try.underlying87 Try.underlying9 Try.zeroValue5 rfl fun a56 h56 => ?_
        rw [mapF_at] at h56
        refine gon h56 (d := 44) rfl rfl hb7 ?_
        refine ineq h56 rfl rfl rfl fun a57 h57 => ?_
        refine pkt h57 rfl hb7 rfl rfl fun a58 h58 => ?_
        clear hK19 hK17 h47 h49 h50 h51 h52 h53 h54 h55 h56 h57 K19 K17 a47 a49 a50 a51 a52 a53 a54 a55 a56 a57
        refine wpL_nil (hK22 _ _ ?_)
        refine spl h58 (d := 50) rfl (fun hb8 => ?_) (fun hb8 => ?_)
        ·
         have hp8 := of_decide_eq_false (bunt hb8)
         refine cdt h58 rfl (bnf (bunt hb8)) ?_
         refine sq fun K23 hK23 => ?_
         refine reg [some 2] rfl ?_
         refine asg h58 rfl rfl fun a59 h59 => ?_
         clear hK22 h58 K22 a58
         refine wpL_nil (hK23 _ _ ?_)
         refine rtn (leave h59 (res1 h59 rfl (rvt rfl)) ?_)
         exact ⟨_, rfl, by unfold Pl.treeMay; rw [may_step hq hx]; unfold Pl.nodeOk; simp only [← u8d53, ← u8d49, ← u8d48, hb2, (bunf hb3), hb4, hb5, (bunf hb6), hb7, (bunt hb8), Bool.true_or, Bool.false_or, Bool.or_true, Bool.not_true, Bool.not_false, Bool.true_and, Bool.false_and, Bool.and_true, Bool.and_false], hB⟩
        ·
         have hp8 := of_decide_eq_true (bunf hb8)
         refine cdf h58 rfl (bnt (bunf hb8)) ?_
         refine skp (hK21 _ _ ?_)
         clear hK22 hK21 K22 K21
         refine drwL h58 [some 51, some 52, some 53, some 54, some 55, some 56, some 57, none, some 4] rfl [Fx (.map (some g12)), Fx (.pointer (some ⟨g6, 0, none⟩)), Fx (str x.path), Fx (.pointer (some ⟨g6, 2, none⟩)), Fx (u8 x.kind), Fx (.pointer (some ⟨g6, 0, none⟩)), Fx (str x.path), fun _ w' => Mp .string (mapF (x :: sn)) w' g12, Fx (str x.path)] Kept (But g12) 7 [true, true, true, true, true, false, false, true, false] rfl rfl rfl rfl rfl rfl (drewKept _) keptT (fun _ _ _ h k => But.trans (Kept.toBut h _) k) (fun _ _ _ h k => But.trans h (Kept.toBut k _)) (fun _ _ h => Kept.toBut h _) ((mcons mfx (mcons mfx (mcons mfx (mcons mfx (mcons mfx (mcons mfx (mcons mfx (mcons (fun v w w' hk h => h.kept hk) (mcons mfx mnil)))))))))) (MonoX.all (mconsX (fun _ => mfx) (mconsX (fun _ => mfx) (mconsX (fun _ => mfx) (mconsX (fun _ => mfx) (mconsX (fun _ => mfx) (mconsX (fun _ => mfx) (mconsX (fun _ => mfx) (mconsX (fun h => absurd rfl h) (mconsX (fun _ => mfx) mnilX)))))))))) ⟨?_, ?_, ?_, ?_, ?_, ?_, ?_, ?_, ?_, trivial⟩ ?_
         ·
          intro L a w_ hH hb hR hd ho
          have hl3 := hb 3 _ rfl
          replace hR : Kept w6 w_ := hR
          refine mv hH hl3 rfl fun a60 h60 => ?_
          exact wpL_nil ⟨_, h60, Kept.refl _, rfl⟩
         ·
          intro L a w_ hH hb hR hd ho
          have hl6 := hb 6 _ rfl
          replace hR : Kept w6 w_ := hR
          refine fab hH hl6 Try.underlying32 rfl Try.sizeOf9 rfl 0 rfl rfl fun a61 h61 => ?_
          exact wpL_nil ⟨_, h61, Kept.refl _, rfl⟩
         ·
          intro L a w_ hH hb hR hd ho
          obtain ⟨_, hl52, rfl⟩ := hd 1 rfl
          replace hR : Kept w6 w_ := hR
          replace hg6 := hg6.kept hR
          refine ldb hH hg6 hl52 Try.isAgg9 rfl rfl fun a62 h62 => ?_
          exact wpL_nil ⟨_, h62, Kept.refl _, rfl⟩
         ·
          intro L a w_ hH hb hR hd ho
          have hl6 := hb 6 _ rfl
          replace hR : Kept w6 w_ := hR
          refine fab hH hl6 Try.underlying32 rfl Try.sizeOf5 rfl 2 rfl rfl fun a63 h63 => ?_
          exact wpL_nil ⟨_, h63, Kept.refl _, rfl⟩
         ·
          intro L a w_ hH hb hR hd ho
          obtain ⟨_, hl54, rfl⟩ := hd 3 rfl
          replace hR : Kept w6 w_ := hR
          replace hg6 := hg6.kept hR
          refine ldb hH hg6 hl54 Try.isAgg5 rfl rfl fun a64 h64 => ?_
          exact wpL_nil ⟨_, h64, Kept.refl _, rfl⟩
         ·
          intro L a w_ hH hb hR hd ho
          have hl6 := hb 6 _ rfl
          replace hR : But g12 w6 w_ := hR
          refine fab hH hl6 Try.underlying32 rfl Try.sizeOf9 rfl 0 rfl rfl fun a65 h65 => ?_
          exact wpL_nil ⟨_, h65, Kept.refl _, rfl⟩
         ·
          intro L a w_ hH hb hR hd ho
          obtain ⟨_, hl56, rfl⟩ := hd 5 rfl
          replace hR : But g12 w6 w_ := hR
          replace hg6 := hg6.but hR (by omega)
          refine ldb hH hg6 hl56 Try.isAgg9 rfl rfl fun a66 h66 => ?_
          exact wpL_nil ⟨_, h66, Kept.refl _, rfl⟩
         ·
          intro L a w_ hH hb hR hd ho
          obtain ⟨_, hl51, rfl⟩ := hd 0 rfl
          obtain ⟨_, hl53, rfl⟩ := hd 2 rfl
          obtain ⟨_, hl55, rfl⟩ := hd 4 rfl
          replace hR : Kept w6 w_ := hR
          replace hg12 := hg12.kept hR
          refine mup hH hg12 hl51 hl53 hl55 trivial Try.underlying87 Try.underlying9 fun w7 hg12' hk7 => ?_
          exact wpL_nil ⟨undef, hH, hk7, hg12'⟩
         ·
          intro L a w_ hH hb hR hd ho
          obtain ⟨_, hl57, rfl⟩ := hd 6 rfl
          replace hR : But g12 w6 w_ := hR
          refine asg hH hl57 rfl fun a67 h67 => ?_
          exact wpL_nil ⟨_, h67, Kept.refl _, rfl⟩
         intro L8 a68 w8 h68 hbh68 hRh68 hdh68
         obtain ⟨_, hl51, rfl⟩ := hdh68 0 (by decide)
         obtain ⟨_, hl52, rfl⟩ := hdh68 1 (by decide)
         obtain ⟨_, hl53, rfl⟩ := hdh68 2 (by decide)
         obtain ⟨_, hl54, rfl⟩ := hdh68 3 (by decide)
         obtain ⟨_, hl55, rfl⟩ := hdh68 4 (by decide)
         obtain ⟨_, hl56, rfl⟩ := hdh68 5 (by decide)
         obtain ⟨_, hl57, rfl⟩ := hdh68 6 (by decide)
         obtain ⟨_, hl4, rfl⟩ := hdh68 8 (by decide)
         have hs7 := hdh68 7 (by decide)
         have h69 := Has.under h68 hbh68
         have h70 := (h68.add hl4 (h68.add hl57 (h68.add hl56 (h68.add hl55 (h68.add hl54 (h68.add hl53 (h68.add hl52 (h68.add hl51 h69))))))))
         clear h69 hl51 hl52 hl53 hl54 hl55 hl56 hl57 hl4 hbh68 hdh68
         have hg12' := hs7
         replace hv := hv.but hRh68 (by first | (show ¬ (_ < _); omega) | (simp; omega))
         replace hWle := Nat.le_trans hWle hRh68.size
         clear hg12; have hg12 := hg12'; clear hg12'
         replace hB := Kept.but hB hRh68 (by omega)
         refine hK11 _ _ ?_
         refine reg [some 58, some 15] rfl ?_
         refine add h70 rfl rfl rfl (by omega) fun a71 h71 => ?_
         refine mv h71 rfl rfl fun a72 h72 => ?_
         clear hK11 h70 h71 K11 a71
         refine wpL_nil ?_
         have hqn : Pl.mayFrom [] [] l = Pl.mayFrom (x :: sn) x.path (l.drop (k + 1)) := by rw [may_step hq hx]; unfold Pl.nodeOk; simp only [← u8d53, ← u8d49, ← u8d48, hb2, (bunf hb3), hb4, hb5, (bunf hb6), hb7, (bunf hb8), Bool.true_or, Bool.false_or, Bool.or_true, Bool.or_false, Bool.not_true, Bool.not_false, Bool.true_and, Bool.false_and, Bool.and_true, Bool.and_false]
         exact ⟨k + 1, ⟨x :: sn, x.path, (h72.cons' rfl (h72.cons' rfl (h72.cons' rfl (h72.cons' rfl (h72.cons' (lke rfl (by simp)) (h72.nil')))))), by omega, hqn, hv, hWle, hg12, hB⟩, by omega⟩
       ·
        have hp7 := of_decide_eq_false hb7
        refine goff h52 (d := 44) rfl rfl hb7 rfl fun a73 h73 => ?_
        refine goff h73 (d := 44) rfl rfl hb7 rfl fun a74 h74 => ?_
        refine goff h74 (d := 44) rfl rfl hb7 rfl fun a75 h75 => ?_
        refine goff h75 (d := 44) rfl rfl hb7 rfl fun a76 h76 => ?_
        refine goff h76 (d := 44) rfl rfl hb7 rfl fun a77 h77 => ?_
        refine pkf h77 rfl hb7 rfl rfl fun a78 h78 => ?_
        clear hK19 hK17 h47 h49 h50 h51 h52 h73 h74 h75 h76 h77 K19 K17 a47 a49 a50 a51 a52 a73 a74 a75 a76 a77
        refine wpL_nil (hK22 _ _ ?_)
        refine cdf h78 rfl rfl ?_
        refine skp (hK21 _ _ ?_)
        clear hK22 hK21 K22 K21
        refine drwL h78 [some 51, some 52, some 53, some 54, some 55, some 56, some 57, none, some 4] rfl [Fx (.map (some g12)), Fx (.pointer (some ⟨g6, 0, none⟩)), Fx (str x.path), Fx (.pointer (some ⟨g6, 2, none⟩)), Fx (u8 x.kind), Fx (.pointer (some ⟨g6, 0, none⟩)), Fx (str x.path), fun _ w' => Mp .string (mapF (x :: sn)) w' g12, Fx (str x.path)] Kept (But g12) 7 [true, true, true, true, true, false, false, true, false] rfl rfl rfl rfl rfl rfl (drewKept _) keptT (fun _ _ _ h k => But.trans (Kept.toBut h _) k) (fun _ _ _ h k => But.trans h (Kept.toBut k _)) (fun _ _ h => Kept.toBut h _) ((mcons mfx (mcons mfx (mcons mfx (mcons mfx (mcons mfx (mcons mfx (mcons mfx (mcons (fun v w w' hk h => h.kept hk) (mcons mfx mnil)))))))))) (MonoX.all (mconsX (fun _ => mfx) (mconsX (fun _ => mfx) (mconsX (fun _ => mfx) (mconsX (fun _ => mfx) (mconsX (fun _ => mfx) (mconsX (fun _ => mfx) (mconsX (fun _ => mfx) (mconsX (fun h => absurd rfl h) (mconsX (fun _ => mfx) mnilX)))))))))) ⟨?_, ?_, ?_, ?_, ?_, ?_, ?_, ?_, ?_, trivial⟩ ?_
        ·
         intro L a w_ hH hb hR hd ho
         have hl3 := hb 3 _ rfl
         replace hR : Kept w6 w_ := hR
         refine mv hH hl3 rfl fun a79 h79 => ?_
         exact wpL_nil ⟨_, h79, Kept.refl _, rfl⟩
        ·
         intro L a w_ hH hb hR hd ho
         have hl6 := hb 6 _ rfl
         replace hR : Kept w6 w_ := hR
         refine fab hH hl6 Try.underlying32 rfl Try.sizeOf9 rfl 0 rfl rfl fun a80 h80 => ?_
         exact wpL_nil ⟨_, h80, Kept.refl _, rfl⟩
        ·
         intro L a w_ hH hb hR hd ho
         obtain ⟨_, hl52, rfl⟩ := hd 1 rfl
         replace hR : Kept w6 w_ := hR
         replace hg6 := hg6.kept hR
         refine ldb hH hg6 hl52 Try.isAgg9 rfl rfl fun a81 h81 => ?_
         exact wpL_nil ⟨_, h81, Kept.refl _, rfl⟩
        ·
         intro L a w_ hH hb hR hd ho
         have hl6 := hb 6 _ rfl
         replace hR : Kept w6 w_ := hR
         refine fab hH hl6 Try.underlying32 rfl Try.sizeOf5 rfl 2 rfl rfl fun a82 h82 => ?_
         exact wpL_nil ⟨_, h82, Kept.refl _, rfl⟩
        ·
         intro L a w_ hH hb hR hd ho
         obtain ⟨_, hl54, rfl⟩ := hd 3 rfl
         replace hR : Kept w6 w_ := hR
         replace hg6 := hg6.kept hR
         refine ldb hH hg6 hl54 Try.isAgg5 rfl rfl fun a83 h83 => ?_
         exact wpL_nil ⟨_, h83, Kept.refl _, rfl⟩
        ·
         intro L a w_ hH hb hR hd ho
         have hl6 := hb 6 _ rfl
         replace hR : But g12 w6 w_ := hR
         refine fab hH hl6 Try.underlying32 rfl Try.sizeOf9 rfl 0 rfl rfl fun a84 h84 => ?_
         exact wpL_nil ⟨_, h84, Kept.refl _, rfl⟩
        ·
         intro L a w_ hH hb hR hd ho
         obtain ⟨_, hl56, rfl⟩ := hd 5 rfl
         replace hR : But g12 w6 w_ := hR
         replace hg6 := hg6.but hR (by omega)
         refine ldb hH hg6 hl56 Try.isAgg9 rfl rfl fun a85 h85 => ?_
         exact wpL_nil ⟨_, h85, Kept.refl _, rfl⟩
        ·
         intro L a w_ hH hb hR hd ho
         obtain ⟨_, hl51, rfl⟩ := hd 0 rfl
         obtain ⟨_, hl53, rfl⟩ := hd 2 rfl
         obtain ⟨_, hl55, rfl⟩ := hd 4 rfl
         replace hR : Kept w6 w_ := hR
         replace hg12 := hg12.kept hR
         refine mup hH hg12 hl51 hl53 hl55 trivial Try.underlying87 Try.underlying9 fun w9 hg12' hk9 => ?_
         exact wpL_nil ⟨undef, hH, hk9, hg12'⟩
        ·
         intro L a w_ hH hb hR hd ho
         obtain ⟨_, hl57, rfl⟩ := hd 6 rfl
         replace hR : But g12 w6 w_ := hR
         refine asg hH hl57 rfl fun a86 h86 => ?_
         exact wpL_nil ⟨_, h86, Kept.refl _, rfl⟩
        intro L10 a87 w10 h87 hbh87 hRh87 hdh87
        obtain ⟨_, hl51, rfl⟩ := hdh87 0 (by decide)
        obtain ⟨_, hl52, rfl⟩ := hdh87 1 (by decide)
        obtain ⟨_, hl53, rfl⟩ := hdh87 2 (by decide)
        obtain ⟨_, hl54, rfl⟩ := hdh87 3 (by decide)
        obtain ⟨_, hl55, rfl⟩ := hdh87 4 (by decide)
        obtain ⟨_, hl56, rfl⟩ := hdh87 5 (by decide)
        obtain ⟨_, hl57, rfl⟩ := hdh87 6 (by decide)
        obtain ⟨_, hl4, rfl⟩ := hdh87 8 (by decide)
        have hs7 := hdh87 7 (by decide)
        have h88 := Has.under h87 hbh87
        have h89 := (h87.add hl4 (h87.add hl57 (h87.add hl56 (h87.add hl55 (h87.add hl54 (h87.add hl53 (h87.add hl52 (h87.add hl51 h88))))))))
        clear h88 hl51 hl52 hl53 hl54 hl55 hl56 hl57 hl4 hbh87 hdh87
        have hg12' := hs7
        replace hv := hv.but hRh87 (by first | (show ¬ (_ < _); omega) | (simp; omega))
        replace hWle := Nat.le_trans hWle hRh87.size
        clear hg12; have hg12 := hg12'; clear hg12'
        replace hB := Kept.but hB hRh87 (by omega)
        refine hK11 _ _ ?_
        refine reg [some 58, some 15] rfl ?_
        refine add h89 rfl rfl rfl (by omega) fun a90 h90 => ?_
        refine mv h90 rfl rfl fun a91 h91 => ?_
        clear hK11 h89 h90 K11 a90
        refine wpL_nil ?_
        have hqn : Pl.mayFrom [] [] l = Pl.mayFrom (x :: sn) x.path (l.drop (k + 1)) := by rw [may_step hq hx]; unfold Pl.nodeOk; simp only [← u8d53, ← u8d49, ← u8d48, hb2, (bunf hb3), hb4, hb5, (bunf hb6), hb7, Bool.true_or, Bool.false_or, Bool.or_true, Bool.or_false, Bool.not_true, Bool.not_false, Bool.true_and, Bool.false_and, Bool.and_true, Bool.and_false]
        exact ⟨k + 1, ⟨x :: sn, x.path, (h91.cons' rfl (h91.cons' rfl (h91.cons' rfl (h91.cons' rfl (h91.cons' (lke rfl (by simp)) (h91.nil')))))), by omega, hqn, hv, hWle, hg12, hB⟩, by omega⟩
     ·
      refine goff h42 (d := 35) rfl rfl hb5 rfl fun a92 h92 => ?_
      refine goff h92 (d := 35) rfl rfl hb5 rfl fun a93 h93 => ?_
      refine goff h93 (d := 35) rfl rfl hb5 rfl fun a94 h94 => ?_
      refine goff h94 (d := 35) rfl rfl hb5 rfl fun a95 h95 => ?_
      refine pkf h95 rfl hb5 rfl rfl fun a96 h96 => ?_
      clear hK18 h40 h41 h42 h92 h93 h94 h95 K18 a40 a41 a42 a92 a93 a94 a95
      refine wpL_nil (hK19 _ _ ?_)
      refine cdf h96 rfl rfl ?_
      refine skp (hK17 _ _ ?_)
      refine sq fun K24 hK24 => ?_
      refine sq fun K25 hK25 => ?_
      refine reg [some 41, some 42, some 43, some 44, some 45, some 46, some 47, some 48, some 49, some 50] rfl ?_
      refine fab h96 rfl Try.underlying32 rfl Try.sizeOf5 rfl 2 rfl rfl fun a97 h97 => ?_
      refine ldb h97 hg6 rfl Try.isAgg5 rfl rfl fun a98 h98 => ?_
      refine ieq h98 rfl rfl rfl fun a99 h99 => ?_
      refine mv h99 rfl rfl fun a100 h100 => ?_
      refine spl h100 (d := 44) rfl (fun hb9 => ?_) (fun hb9 => ?_)
      ·
       have hp9 := of_decide_eq_true hb9
       refine gon h100 (d := 44) rfl rfl hb9 ?_
       refine mv h100 rfl rfl fun a101 h101 => ?_
       refine gon h101 (d := 44) rfl rfl hb9 ?_
       refine fab h101 rfl Try.underlying32 rfl Try.sizeOf9 rfl 1 rfl rfl fun a102 h102 => ?_
       refine gon h102 (d := 44) rfl rfl hb9 ?_
       refine ldb h102 hg6 rfl Try.isAgg9 rfl rfl fun a103 h103 => ?_
       refine gon h103 (d := 44) rfl rfl hb9 ?_
       refine lku h103 hg12 rfl rfl (by first | trivial | rfl) Try.underlying87 Try.underlying9 Try.zeroValue5 rfl fun a104 h104 => ?_
       rw [mapF_at] at h104
       refine gon h104 (d := 44) rfl rfl hb9 ?_
       refine ineq h104 rfl rfl rfl fun a105 h105 => ?_
       refine pkt h105 rfl hb9 rfl rfl fun a106 h106 => ?_
       clear hK19 hK17 h96 h97 h98 h99 h100 h101 h102 h103 h104 h105 K19 K17 a96 a97 a98 a99 a100 a101 a102 a103 a104 a105
       refine wpL_nil (hK25 _ _ ?_)
       refine spl h106 (d := 50) rfl (fun hb10 => ?_) (fun hb10 => ?_)
       ·
        have hp10 := of_decide_eq_false (bunt hb10)
        refine cdt h106 rfl (bnf (bunt hb10)) ?_
        refine sq fun K26 hK26 => ?_
        refine reg [some 2] rfl ?_
        refine asg h106 rfl rfl fun a107 h107 => ?_
        clear hK25 h106 K25 a106
        refine wpL_nil (hK26 _ _ ?_)
        refine rtn (leave h107 (res1 h107 rfl (rvt rfl)) ?_)
        exact ⟨_, rfl, by unfold Pl.treeMay; rw [may_step hq hx]; unfold Pl.nodeOk; simp only [← u8d53, ← u8d49, ← u8d48, hb2, (bunf hb3), hb4, hb5, hb9, (bunt hb10), Bool.true_or, Bool.false_or, Bool.or_true, Bool.not_true, Bool.not_false, Bool.true_and, Bool.false_and, Bool.and_true, Bool.and_false], hB⟩
       ·
        have hp10 := of_decide_eq_true (bunf hb10)
        refine cdf h106 rfl (bnt (bunf hb10)) ?_
        refine skp (hK24 _ _ ?_)
        clear hK25 hK24 K25 K24
        refine drwL h106 [some 51, some 52, some 53, some 54, some 55, some 56, some 57, none, some 4] rfl [Fx (.map (some g12)), Fx (.pointer (some ⟨g6, 0, none⟩)), Fx (str x.path), Fx (.pointer (some ⟨g6, 2, none⟩)), Fx (u8 x.kind), Fx (.pointer (some ⟨g6, 0, none⟩)), Fx (str x.path), fun _ w' => Mp .string (mapF (x :: sn)) w' g12, Fx (str x.path)] Kept (But g12) 7 [true, true, true, true, true, false, false, true, false] rfl rfl rfl rfl rfl rfl (drewKept _) keptT (fun _ _ _ h k => But.trans (Kept.toBut h _) k) (fun _ _ _ h k => But.trans h (Kept.toBut k _)) (fun _ _ h => Kept.toBut h _) ((mcons mfx (mcons mfx (mcons mfx (mcons mfx (mcons mfx (mcons mfx (mcons mfx (mcons (fun v w w' hk h => h.kept hk) (mcons mfx mnil)))))))))) (MonoX.all (mconsX (fun _ => mfx) (mconsX (fun _ => mfx) (mconsX (fun _ => mfx) (mconsX (fun _ => mfx) (mconsX (fun _ => mfx) (mconsX (fun _ => mfx) (mconsX (fun _ => mfx) (mconsX (fun h => absurd rfl h) (mconsX (fun _ => mfx) mnilX)))))))))) ⟨?_, ?_, ?_, ?_, ?_, ?_, ?_, ?_, ?_, trivial⟩ ?_
        ·
         intro L a w_ hH hb hR hd ho
         have hl3 := hb 3 _ rfl
         replace hR : Kept w6 w_ := hR
         refine mv hH hl3 rfl fun a108 h108 => ?_
         exact wpL_nil ⟨_, h108, Kept.refl _, rfl⟩
        ·
         intro L a w_ hH hb hR hd ho
         have hl6 := hb 6 _ rfl
         replace hR : Kept w6 w_ := hR
         refine fab hH hl6 Try.underlying32 rfl Try.sizeOf9 rfl 0 rfl rfl fun a109 h109 => ?_
         exact wpL_nil ⟨_, h109, Kept.refl _, rfl⟩
        ·
         intro L a w_ hH hb hR hd ho
         obtain ⟨_, hl52, rfl⟩ := hd 1 rfl
         replace hR : Kept w6 w_ := hR
         replace hg6 := hg6.kept hR
         refine ldb hH hg6 hl52 Try.isAgg9 rfl rfl fun a110 h110 => ?_
         exact wpL_nil ⟨_, h110, Kept.refl _, rfl⟩
        ·
         intro L a w_ hH hb hR hd ho
         have hl6 := hb 6 _ rfl
         replace hR : Kept w6 w_ := hR
         refine fab hH hl6 Try.underlying32 rfl Try.sizeOf5 rfl 2 rfl rfl fun a111 h111 => ?_
         exact wpL_nil ⟨_, h111, Kept.refl _, rfl⟩
        ·
         intro L a w_ hH hb hR hd ho
         obtain ⟨_, hl54, rfl⟩ := hd 3 rfl
         replace hR : Kept w6 w_ := hR
         replace hg6 := hg6.kept hR
         refine ldb hH hg6 hl54 Try.isAgg5 rfl rfl fun a112 h112 => ?_
         exact wpL_nil ⟨_, h112, Kept.refl _, rfl⟩
        ·
         intro L a w_ hH hb hR hd ho
         have hl6 := hb 6 _ rfl
         replace hR : But g12 w6 w_ := hR
         refine fab hH hl6 Try.underlying32 rfl Try.sizeOf9 rfl 0 rfl rfl fun a113 h113 => ?_
         exact wpL_nil ⟨_, h113, Kept.refl _, rfl⟩
        ·
         intro L a w_ hH hb hR hd ho
         obtain ⟨_, hl56, rfl⟩ := hd 5 rfl
         replace hR : But g12 w6 w_ := hR
         replace hg6 := hg6.but hR (by omega)
         refine ldb hH hg6 hl56 Try.isAgg9 rfl rfl fun a114 h114 => ?_
         exact wpL_nil ⟨_, h114, Kept.refl _, rfl⟩
        ·
         intro L a w_ hH hb hR hd ho
         obtain ⟨_, hl51, rfl⟩ := hd 0 rfl
         obtain ⟨_, hl53, rfl⟩ := hd 2 rfl
         obtain ⟨_, hl55, rfl⟩ := hd 4 rfl
         replace hR : Kept w6 w_ := hR
         replace hg12 := hg12.kept hR
         refine mup hH hg12 hl51 hl53 hl55 trivial Try.underlying87 Try.underlying9 fun w11 hg12' hk11 => ?_
         exact wpL_nil ⟨undef, hH, hk11, hg12'⟩
        ·
         intro L a w_ hH hb hR hd ho
         obtain ⟨_, hl57, rfl⟩ := hd 6 rfl
         replace hR : But g12 w6 w_ := hR
         refine asg hH hl57 rfl fun a115 h115 => ?_
         exact wpL_nil ⟨_, h115, Kept.refl _, rfl⟩
        intro L12 a116 w12 h116 hbh116 hRh116 hdh116
        obtain ⟨_, hl51, rfl⟩ := hdh116 0 (by decide)
        obtain ⟨_, hl52, rfl⟩ := hdh116 1 (by decide)
        obtain ⟨_, hl53, rfl⟩ := hdh116 2 (by decide)
        obtain ⟨_, hl54, rfl⟩ := hdh116 3 (by decide)
        obtain ⟨_, hl55, rfl⟩ := hdh116 4 (by decide)
        obtain ⟨_, hl56, rfl⟩ := hdh116 5 (by decide)
        obtain ⟨_, hl57, rfl⟩ := hdh116 6 (by decide)
        obtain ⟨_, hl4, rfl⟩ := hdh116 8 (by decide)
        have hs7 := hdh116 7 (by decide)
        have h117 := Has.under h116 hbh116
        have h118 := (h116.add hl4 (h116.add hl57 (h116.add hl56 (h116.add hl55 (h116.add hl54 (h116.add hl53 (h116.add hl52 (h116.add hl51 h117))))))))
        clear h117 hl51 hl52 hl53 hl54 hl55 hl56 hl57 hl4 hbh116 hdh116
        have hg12' := hs7
        replace hv := hv.but hRh116 (by first | (show ¬ (_ < _); omega) | (simp; omega))
        replace hWle := Nat.le_trans hWle hRh116.size
        clear hg12; have hg12 := hg12'; clear hg12'
        replace hB := Kept.but hB hRh116 (by omega)
        refine hK11 _ _ ?_
        refine reg [some 58, some 15] rfl ?_
        refine add h118 rfl rfl rfl (by omega) fun a119 h119 => ?_
        refine mv h119 rfl rfl fun a120 h120 => ?_
        clear hK11 h118 h119 K11 a119
        refine wpL_nil ?_
        have hqn : Pl.mayFrom [] [] l = Pl.mayFrom (x :: sn) x.path (l.drop (k + 1)) := by rw [may_step hq hx]; unfold Pl.nodeOk; simp only [← u8d53, ← u8d49, ← u8d48, hb2, (bunf hb3), hb4, hb5, hb9, (bunf hb10), Bool.true_or, Bool.false_or, Bool.or_true, Bool.or_false, Bool.not_true, Bool.not_false, Bool.true_and, Bool.false_and, Bool.and_true, Bool.and_false]
        exact ⟨k + 1, ⟨x :: sn, x.path, (h120.cons' rfl (h120.cons' rfl (h120.cons' rfl (h120.cons' rfl (h120.cons' (lke rfl (by simp)) (h120.nil')))))), by omega, hqn, hv, hWle, hg12, hB⟩, by omega⟩
      ·
       have hp9 := of_decide_eq_false hb9
       refine goff h100 (d := 44) rfl rfl hb9 rfl fun a121 h121 => ?_
       refine goff h121 (d := 44) rfl rfl hb9 rfl fun a122 h122 => ?_
       refine goff h122 (d := 44) rfl rfl hb9 rfl fun a123 h123 => ?_
       refine goff h123 (d := 44) rfl rfl hb9 rfl fun a124 h124 => ?_
       refine goff h124 (d := 44) rfl rfl hb9 rfl fun a125 h125 => ?_
       refine pkf h125 rfl hb9 rfl rfl fun a126 h126 => ?_
       clear hK19 hK17 h96 h97 h98 h99 h100 h121 h122 h123 h124 h125 K19 K17 a96 a97 a98 a99 a100 a121 a122 a123 a124 a125
       refine wpL_nil (hK25 _ _ ?_)
       refine cdf h126 rfl rfl ?_
       refine skp (hK24 _ _ ?_)
       clear hK25 hK24 K25 K24
       refine drwL h126 [some 51, some 52, some 53, some 54, some 55, some 56, some 57, none, some 4] rfl [Fx (.map (some g12)), Fx (.pointer (some ⟨g6, 0, none⟩)), Fx (str x.path), Fx (.pointer (some ⟨g6, 2, none⟩)), Fx (u8 x.kind), Fx (.pointer (some ⟨g6, 0, none⟩)), Fx (str x.path), fun _ w' => Mp .string (mapF (x :: sn)) w' g12, Fx (str x.path)] Kept (But g12) 7 [true, true, true, true, true, false, false, true, false] rfl rfl rfl rfl rfl rfl (drewKept _) keptT (fun _ _ _ h k => But.trans (Kept.toBut h _) k) (fun _ _ _ h k => But.trans h (Kept.toBut k _)) (fun _ _ h => Kept.toBut h _) ((mcons mfx (mcons mfx (mcons mfx (mcons mfx (mcons mfx (mcons mfx (mcons mfx (mcons (fun v w w' hk h => h.kept hk) (mcons mfx mnil)))))))))) (MonoX.all (mconsX (fun _ => mfx) (mconsX (fun _ => mfx) (mconsX (fun _ => mfx) (mconsX (fun _ => mfx) (mconsX (fun _ => mfx) (mconsX (fun _ => mfx) (mconsX (fun _ => mfx) (mconsX (fun h => absurd rfl h) (mconsX (fun _ => mfx) mnilX)))))))))) ⟨?_, ?_, ?_, ?_, ?_, ?_, ?_, ?_, ?_, trivial⟩ ?_
       ·
        intro L a w_ hH hb hR hd ho
        have hl3 := hb 3 _ rfl
        replace hR : Kept w6 w_ := hR
        refine mv hH hl3 rfl fun a127 h127 => ?_
        exact wpL_nil ⟨_, h127, Kept.refl _, rfl⟩
       ·
        intro L a w_ hH hb hR hd ho
        have hl6 := hb 6 _ rfl
        replace hR : Kept w6 w_ := hR
        refine fab hH hl6 Try.underlying32 rfl Try.sizeOf9 rfl 0 rfl rfl fun a128 h128 => ?_
        exact wpL_nil ⟨_, h128, Kept.refl _, rfl⟩
       ·
        intro L a w_ hH hb hR hd ho
        obtain ⟨_, hl52, rfl⟩ := hd 1 rfl
        replace hR : Kept w6 w_ := hR
        replace hg6 := hg6.kept hR
        refine ldb hH hg6 hl52 Try.isAgg9 rfl rfl fun a129 h129 => ?_
        exact wpL_nil ⟨_, h129, Kept.refl _, rfl⟩
       ·
        intro L a w_ hH hb hR hd ho
        have hl6 := hb 6 _ rfl
        replace hR : Kept w6 w_ := hR
        refine fab hH hl6 Try.underlying32 rfl Try.sizeOf5 rfl 2 rfl rfl fun a130 h130 => ?_
        exact wpL_nil ⟨_, h130, Kept.refl _, rfl⟩
       ·
        intro L a w_ hH hb hR hd ho
        obtain ⟨_, hl54, rfl⟩ := hd 3 rfl
        replace hR : Kept w6 w_ := hR
        replace hg6 := hg6.kept hR
        refine ldb hH hg6 hl54 Try.isAgg5 rfl rfl fun a131 h131 => ?_
        exact wpL_nil ⟨_, h131, Kept.refl _, rfl⟩
       ·
        intro L a w_ hH hb hR hd ho
        have hl6 := hb 6 _ rfl
        replace hR : But g12 w6 w_ := hR
        refine fab hH hl6 Try.underlying32 rfl Try.sizeOf9 rfl 0 rfl rfl fun a132 h132 => ?_
        exact wpL_nil ⟨_, h132, Kept.refl _, rfl⟩
       ·
        intro L a w_ hH hb hR hd ho
        obtain ⟨_, hl56, rfl⟩ := hd 5 rfl
        replace hR : But g12 w6 w_ := hR
        replace hg6 := hg6.but hR (by omega)
        refine ldb hH hg6 hl56 Try.isAgg9 rfl rfl fun a133 h133 => ?_
        exact wpL_nil ⟨_, h133, Kept.refl _, rfl⟩
       ·
        intro L a w_ hH hb hR hd ho
        obtain ⟨_, hl51, rfl⟩ := hd 0 rfl
        obtain ⟨_, hl53, rfl⟩ := hd 2 rfl
        obtain ⟨_, hl55, rfl⟩ := hd 4 rfl
        replace hR : Kept w6 w_ := hR
        replace hg12 := hg12.kept hR
        refine mup hH hg12 hl51 hl53 hl55 trivial Try.underlying87 Try.underlying9 fun w13 hg12' hk13 => ?_
        exact wpL_nil ⟨undef, hH, hk13, hg12'⟩
       ·
        intro L a w_ hH hb hR hd ho
        obtain ⟨_, hl57, rfl⟩ := hd 6 rfl
        replace hR : But g12 w6 w_ := hR
        refine asg hH hl57 rfl fun a134 h134 => ?_
        exact wpL_nil ⟨_, h134, Kept.refl _, rfl⟩
       intro L14 a135 w14 h135 hbh135 hRh135 hdh135
       obtain ⟨_, hl51, rfl⟩ := hdh135 0 (by decide)
       obtain ⟨_, hl52, rfl⟩ := hdh135 1 (by decide)
       obtain ⟨_, hl53, rfl⟩ := hdh135 2 (by decide)
       obtain ⟨_, hl54, rfl⟩ := hdh135 3 (by decide)
       obtain ⟨_, hl55, rfl⟩ := hdh135 4 (by decide)
       obtain ⟨_, hl56, rfl⟩ := hdh135 5 (by decide)
       obtain ⟨_, hl57, rfl⟩ := hdh135 6 (by decide)
       obtain ⟨_, hl4, rfl⟩ := hdh135 8 (by decide)
       have hs7 := hdh135 7 (by decide)
       have h136 := Has.under h135 hbh135
       have h137 := (h135.add hl4 (h135.add hl57 (h135.add hl56 (h135.add hl55 (h135.add hl54 (h135.add hl53 (h135.add hl52 (h135.add hl51 h136))))))))
       clear h136 hl51 hl52 hl53 hl54 hl55 hl56 hl57 hl4 hbh135 hdh135
       have hg12' := hs7
       replace hv := hv.but hRh135 (by first | (show ¬ (_ < _); omega) | (simp; omega))
       replace hWle := Nat.le_trans hWle hRh135.size
       clear hg12; have hg12 := hg12'; clear hg12'
       replace hB := Kept.but hB hRh135 (by omega)
       refine hK11 _ _ ?_
       refine reg [some 58, some 15] rfl ?_
       refine add h137 rfl rfl rfl (by omega) fun a138 h138 => ?_
       refine mv h138 rfl rfl fun a139 h139 => ?_
       clear hK11 h137 h138 K11 a138
       refine wpL_nil ?_
       have hqn : Pl.mayFrom [] [] l = Pl.mayFrom (x :: sn) x.path (l.drop (k + 1)) := by rw [may_step hq hx]; unfold Pl.nodeOk; simp only [← u8d53, ← u8d49, ← u8d48, hb2, (bunf hb3), hb4, hb5, hb9, Bool.true_or, Bool.false_or, Bool.or_true, Bool.or_false, Bool.not_true, Bool.not_false, Bool.true_and, Bool.false_and, Bool.and_true, Bool.and_false]
       exact ⟨k + 1, ⟨x :: sn, x.path, (h139.cons' rfl (h139.cons' rfl (h139.cons' rfl (h139.cons' rfl (h139.cons' (lke rfl (by simp)) (h139.nil')))))), by omega, hqn, hv, hWle, hg12, hB⟩, by omega⟩
  ·
   have hp2 := of_decide_eq_false hb2
   refine cdf h13 rfl hb2 ?_
   refine xit (hK7 _ _ ?_)
   refine sq fun K27 hK27 => ?_
   refine reg [some 2] rfl ?_
   refine asg h13 rfl rfl fun a140 h140 => ?_
   clear hK9 hK7 hK10 h13 K9 K7 K10 a13
   refine wpL_nil (hK27 _ _ ?_)
   refine rtn (leave h140 (res1 h140 rfl (rvt rfl)) ?_)
   exact ⟨_, rfl, by rw [may_none (by omega) hq (by omega)], hB⟩

end Go.Proofs.Ytpgeogdmjgmimaa
