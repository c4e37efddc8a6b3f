/-
  Walks, written by wip/gen/gen.py.
-/
import Derived.Test.YtpgeogdmjgmimaaW7
set_option linter.unusedVariables false
set_option linter.unusedSimpArgs false
set_option maxRecDepth 4000
namespace Go.Proofs.Ytpgeogdmjgmimaa
open Go Go.RowKit K

theorem zeros_none {n : Int} (h : n < 1 ∨ 400 < n) : Pl.zerosB n = [] := by rw [Pl.zerosB, if_pos h]
theorem zeros_some {n : Int} (h1 : ¬ n < 1) (h2 : ¬ 400 < n) : Pl.zerosB n = List.replicate n.toNat (List.replicate 512 0) := by rw [Pl.zerosB, if_neg (by omega)]
theorem take_ne {l m : List (List UInt8)} {k : Nat} {x y : List UInt8} (hx : l[k]? = some x) (hy : m[k]? = some y) (h : ¬ x = y) : decide (l = m) = false := by
  rw [decide_eq_false_iff_not]; intro e; subst e; rw [hx] at hy; cases hy; exact h rfl
theorem take_eq {l m : List (List UInt8)} {k : Nat} (h : l.take k = m.take k) (e : l.length ≤ k) (e2 : l.length = m.length) : decide (l = m) = true := by
  rw [decide_eq_true_iff, ← List.take_of_length_le e, h, List.take_of_length_le (by omega)]
def fewB (l : List (List UInt8)) : Bool := decide (l.length ≤ 60) && l.all (fun r => decide (r.length ≤ 600))
theorem few_no {l : List (List UInt8)} {k : Nat} {x : List UInt8} (hx : l[k]? = some x) (h : 600 < (x.length : Int)) : fewB l = false := by
  rw [fewB, all_not hx (by simp; omega), Bool.and_false]
theorem few_end {l : List (List UInt8)} {k : Nat} (h : (l.take k).all (fun r => decide (r.length ≤ 600)) = true) (hk : l.length ≤ k ∨ 60 < k) (hkl : k ≤ l.length) : fewB l = decide ((l.length : Int) ≤ 60) := by
  rcases hk with hk | hk
  · rw [take_take_all hk] at h
    rw [fewB, h, Bool.and_true, decide_eq_decide]; omega
  · have h1 : decide (l.length ≤ 60) = false := by rw [decide_eq_false_iff_not]; omega
    have h2 : decide ((l.length : Int) ≤ 60) = false := by rw [decide_eq_false_iff_not]; omega
    rw [fewB, h1, h2, Bool.false_and]
theorem text_step (m k : Nat) (h : k < m) : List.take k (List.map u8 (List.replicate k (97 : UInt8) ++ List.replicate (m - k) 0)) ++ [Value.int .u8 97] ++ List.drop (k + [Value.int .u8 97].length) (List.map u8 (List.replicate k (97 : UInt8) ++ List.replicate (m - k) 0)) = List.map u8 (List.replicate (k + 1) (97 : UInt8) ++ List.replicate (m - (k + 1)) 0) := by
  obtain ⟨j, rfl⟩ : ∃ j, m = k + 1 + j := ⟨m - (k + 1), by omega⟩
  have e1 : k + 1 + j - k = j + 1 := by omega
  have e2 : k + 1 + j - (k + 1) = j := by omega
  rw [e1, e2, ← List.map_take, ← List.map_drop, List.take_left' (by simp), List.drop_append]
  rw [List.replicate_succ' (n := k)]
  simp [List.drop_replicate, u8]
def fillT (n : Int) : List UInt8 := List.replicate n.toNat 97
theorem flat_next {α : Type} {l : List (List α)} {k : Nat} {x : List α} (h : l[k]? = some x) : (l.take (k + 1)).flatten = (l.take k).flatten ++ x := by
  rw [List.take_add_one, h]; simp
theorem flat_le {α : Type} (l : List (List α)) (k : Nat) : (l.take k).flatten.length ≤ l.flatten.length := by
  have : l.flatten = (l.take k).flatten ++ (l.drop k).flatten := by rw [← List.flatten_append, List.take_append_drop]
  rw [this]; simp

/-- block.Zeros -/
theorem c_zeros (n : Int) (w : World) (hn : -9223372036854775808 ≤ n ∧ n ≤ 9223372036854775807) :
  C Try.prog 70 [.int .i64 n] w fun v w' => Rws (fun b => w.heap.size ≤ b) w' v (Pl.zerosB n) ∧ Kept w w' := by
 obtain ⟨hn1, hn2⟩ := hn
 refine enterE Try.func70 rfl 19 rfl rfl fun a0 h0 => ?_
 have hB := Kept.refl w
 refine sq fun K1 hK1 => ?_
 refine reg [some 2] rfl ?_
 refine asg h0 rfl rfl fun a1 h1 => ?_
 clear h0 a0
 refine wpL_nil (hK1 _ _ ?_)
 refine sq fun K2 hK2 => ?_
 refine sq fun K3 hK3 => ?_
 refine reg [some 4, some 5, some 6, some 7, some 8, some 9] rfl ?_
 refine mv h1 rfl rfl fun a2 h2 => ?_
 refine lss h2 rfl rfl rfl fun a3 h3 => ?_
 refine mv h3 rfl rfl fun a4 h4 => ?_
 refine spl h4 (d := 6) rfl (fun hb1 => ?_) (fun hb1 => ?_)
 ·
  have hp1 := of_decide_eq_true hb1
  refine goff h4 (d := 6) rfl rfl hb1 rfl fun a5 h5 => ?_
  refine goff h5 (d := 6) rfl rfl hb1 rfl fun a6 h6 => ?_
  refine pkt h6 rfl hb1 rfl rfl fun a7 h7 => ?_
  clear hK1 h1 h2 h3 h4 h5 h6 K1 a1 a2 a3 a4 a5 a6
  refine wpL_nil (hK3 _ _ ?_)
  refine cdt h7 rfl rfl ?_
  refine sq fun K4 hK4 => ?_
  refine reg [some 2] rfl ?_
  refine asg h7 rfl rfl fun a8 h8 => ?_
  clear hK3 h7 K3 a7
  refine wpL_nil (hK4 _ _ ?_)
  refine rtn (leave h8 (res1 h8 rfl (rvt rfl)) ?_)
  exact ⟨_, rfl, by rw [zeros_none (.inl hp1)]; exact Rws.nil _ _, hB⟩
 ·
  have hp1 := of_decide_eq_false hb1
  refine gon h4 (d := 6) rfl rfl hb1 ?_
  refine mv h4 rfl rfl fun a9 h9 => ?_
  refine gon h9 (d := 6) rfl rfl hb1 ?_
  refine gtr h9 rfl rfl rfl fun a10 h10 => ?_
  refine pkf h10 rfl hb1 rfl rfl fun a11 h11 => ?_
  clear hK1 h1 h2 h3 h4 h9 h10 K1 a1 a2 a3 a4 a9 a10
  refine wpL_nil (hK3 _ _ ?_)
  refine spl h11 (d := 9) rfl (fun hb2 => ?_) (fun hb2 => ?_)
  ·
   have hp2 := of_decide_eq_true hb2
   refine cdt h11 rfl hb2 ?_
   refine sq fun K5 hK5 => ?_
   refine reg [some 2] rfl ?_
   refine asg h11 rfl rfl fun a12 h12 => ?_
   clear hK3 h11 K3 a11
   refine wpL_nil (hK5 _ _ ?_)
   refine rtn (leave h12 (res1 h12 rfl (rvt rfl)) ?_)
   exact ⟨_, rfl, by rw [zeros_none (.inr hp2)]; exact Rws.nil _ _, hB⟩
  ·
   have hp2 := of_decide_eq_false hb2
   refine cdf h11 rfl hb2 ?_
   refine skp (hK2 _ _ ?_)
   refine sq fun K6 hK6 => ?_
   refine reg [some 3] rfl ?_
   refine asg h11 rfl rfl fun a13 h13 => ?_
   clear hK3 hK2 h11 K3 K2 a11
   refine wpL_nil (hK6 _ _ ?_)
   refine sq fun K7 hK7 => ?_
   refine sq fun K8 hK8 => ?_
   refine reg [some 10, some 11] rfl ?_
   refine mv h13 rfl rfl fun a14 h14 => ?_
   refine mv h14 rfl rfl fun a15 h15 => ?_
   clear hK6 h13 h14 K6 a13 a14
   refine wpL_nil (hK8 _ _ ?_)
   refine blc ?_
   clear hK8 K8
   refine lp (fun (k : Nat) (a : Act) (W : World) => ∃ (vo : Value), ∃ (vs : List Value), Has [] 19 [(3, vo), (10, .int .i64 n), (11, .int .i64 (k : Int))] a ∧ (k ≤ n.toNat) ∧ (K.Own w.heap.size W vo 35 1 vs) ∧ (Vec (SV w.heap.size vo) W vs (List.replicate k (List.replicate 512 (0 : UInt8)))) ∧ (Kept w W)) (fun (k : Nat) => n.toNat - k) (0) ⟨_, _, (h15.cons' rfl (h15.cons' rfl (h15.cons' rfl (h15.nil')))), Nat.zero_le _, (Own.nil _ _ _ _), (Vec.nil _ _), hB⟩ ?_
   clear h15 hB
   rintro k a16 w1 ⟨vo, vs, h16, hkn, hO, hV, hB⟩
   refine sq fun K9 hK9 => ?_
   refine reg [some 12] rfl ?_
   refine lss h16 rfl rfl rfl fun a17 h17 => ?_
   clear h16 a16
   refine wpL_nil (hK9 _ _ ?_)
   refine sq fun K10 hK10 => ?_
   refine spl h17 (d := 12) rfl (fun hb3 => ?_) (fun hb3 => ?_)
   ·
    have hp3 := of_decide_eq_true hb3
    refine cdt h17 rfl hb3 ?_
    refine skp (hK10 _ _ ?_)
    refine sq fun K11 hK11 => ?_
    refine blc ?_
    refine reg [some 13, some 14, some 15, some 16, some 3] rfl ?_
    refine mv h17 rfl rfl fun a18 h18 => ?_
    refine mks h18 (m := 512) (z := .int .u8 0) rfl rfl (by omega) Try.underlying35 (b := 1) (by kernel_rfl) rfl (by omega) (by omega) rfl fun a19 w2 g14 h19 hk2 hz14 hg14 => ?_
    have hleg14 := Nat.le_trans hB.size hz14
    replace hO := hO.kept hk2
    replace hV := hV.kept hk2
    replace hB := Kept.trans hB hk2
    refine bsl h19 rfl (bsl1_25_0 _ _ _) rfl fun a20 w3 g15 h20 hk3 hz15 hg15 => ?_
    have hleg15 := Nat.le_trans hB.size hz15
    have hneg14g15 := Nat.lt_of_lt_of_le hg14.lt hz15
    replace hO := hO.kept hk3
    replace hV := hV.kept hk3
    replace hB := Kept.trans hB hk3
    replace hg14 := hg14.kept hk3
    have hRow := (Blk.byt (c := 512) (bs := List.replicate 512 (0 : UInt8)) (by rw [← zero_row]; exact hg14) 512 (by simp) (by simp) (by omega)).mono (S' := SV w.heap.size vo) (fun b hb => by subst hb; exact ⟨by omega, hO.ne_type hg14 (by decide)⟩)
    have hV1 := hV
    have hvl := hV.1
    rw [List.length_replicate] at hvl
    refine apn (sz := 1) h20 rfl rfl Try.underlying25 Try.type35 rfl rfl rfl (by decide) hO (hB.size) (Blk.in_ hg15 0 1 [.slice (some ⟨g14, 0, none⟩) 512 512] rfl) (by simp) (by simp [Value.oneCell']) (by show (_ + _) * 24 ≤ _; simp only [List.length_cons, List.length_nil]; omega) (by decide) rfl fun a21 v4 w4 h21 hO16' hk4 hat4 => ?_
    replace hB := ButV.kept0 hB hk4 hO (Nat.le_refl _)
    have hV := Vec.app hV1 (Vec.one hRow) hk4 hat4
    have hO16 := hO16'; clear hO16'
    refine asg h21 rfl rfl fun a22 h22 => ?_
    clear hK9 hK10 h17 h18 h19 h20 h21 K9 K10 a17 a18 a19 a20 a21
    refine wpL_nil (hK11 _ _ ?_)
    refine reg [some 17, some 11] rfl ?_
    refine add h22 rfl rfl rfl (by omega) fun a23 h23 => ?_
    refine mv h23 rfl rfl fun a24 h24 => ?_
    clear hK11 h22 h23 K11 a22 a23
    refine wpL_nil ?_
    exact ⟨k + 1, ⟨_, _, (h24.cons' rfl (h24.cons' rfl (h24.cons' (lke rfl (by simp)) (h24.nil')))), by omega, hO16, (by rw [List.replicate_succ']; exact hV), hB⟩, by omega⟩
   ·
    have hp3 := of_decide_eq_false hb3
    refine cdf h17 rfl hb3 ?_
    refine xit (hK7 _ _ ?_)
    refine sq fun K12 hK12 => ?_
    refine reg [some 18, some 2] rfl ?_
    refine mv h17 rfl rfl fun a25 h25 => ?_
    refine asg h25 rfl rfl fun a26 h26 => ?_
    clear hK9 hK7 hK10 h17 h25 K9 K7 K10 a17 a25
    refine wpL_nil (hK12 _ _ ?_)
    refine rtn (leave h26 (res1 h26 rfl (rvt rfl)) ?_)
    exact ⟨_, rfl, by rw [zeros_some hp1 hp2, show n.toNat = k by omega]; exact Rws.fresh hO hV, hB⟩

/-- slices.Grow[[][]byte,[]byte] -/
theorem c_growR (m : Nat) (w : World) (hm : m ≤ 1000000000) :
  C Try.prog 129 [.slice none 0 0, .int .i64 (m : Int)] w fun v w' => K.Own w.heap.size w' v 35 1 [] ∧ Kept w w' := by
 refine enterE Try.func129 rfl 27 rfl rfl fun a0 h0 => ?_
 have hB := Kept.refl w
 refine sq fun K1 hK1 => ?_
 refine reg [some 4] rfl ?_
 refine asg h0 rfl rfl fun a1 h1 => ?_
 clear h0 a0
 refine wpL_nil (hK1 _ _ ?_)
 refine sq fun K2 hK2 => ?_
 refine sq fun K3 hK3 => ?_
 refine reg [some 5, some 6] rfl ?_
 refine mv h1 rfl rfl fun a2 h2 => ?_
 refine lss h2 rfl rfl rfl fun a3 h3 => ?_
 clear hK1 h1 h2 K1 a1 a2
 refine wpL_nil (hK3 _ _ ?_)
 refine knownF h3 (d := 6) rfl (decide_eq_false (by omega)) fun hb1 => ?_
 have hp1 := of_decide_eq_false hb1
 refine cdf h3 rfl hb1 ?_
 refine skp (hK2 _ _ ?_)
 refine sq fun K4 hK4 => ?_
 refine sq fun K5 hK5 => ?_
 refine reg [some 8, some 9, some 10, some 11, some 12, some 13, some 14, some 1] rfl ?_
 refine mv h3 rfl rfl fun a4 h4 => ?_
 refine mv h4 rfl rfl fun a5 h5 => ?_
 refine capv h5 rfl Try.underlying25 rfl rfl fun a6 h6 => ?_
 refine mv h6 rfl rfl fun a7 h7 => ?_
 refine lenv h7 rfl Try.underlying25 rfl rfl fun a8 h8 => ?_
 refine sub h8 rfl rfl rfl (by omega) fun a9 h9 => ?_
 refine sub h9 rfl rfl rfl (by omega) fun a10 h10 => ?_
 refine asg h10 rfl rfl fun a11 h11 => ?_
 clear hK3 hK2 h3 h4 h5 h6 h7 h8 h9 h10 K3 K2 a3 a4 a5 a6 a7 a8 a9 a10
 refine wpL_nil (hK5 _ _ ?_)
 refine sq fun K6 hK6 => ?_
 refine reg [some 15, some 16] rfl ?_
 refine mv h11 rfl rfl fun a12 h12 => ?_
 refine gtr h12 rfl rfl rfl fun a13 h13 => ?_
 clear hK5 h11 h12 K5 a11 a12
 refine wpL_nil (hK6 _ _ ?_)
 refine spl h13 (d := 16) rfl (fun hb2 => ?_) (fun hb2 => ?_)
 ·
  have hp2 := of_decide_eq_true hb2
  refine cdt h13 rfl hb2 ?_
  refine reg [some 17, some 18, some 19, some 20, some 21, some 22, some 23, some 24, some 25, some 0] rfl ?_
  refine mv h13 rfl rfl fun a14 h14 => ?_
  refine mv h14 rfl rfl fun a15 h15 => ?_
  refine capv h15 rfl Try.underlying25 rfl rfl fun a16 h16 => ?_
  refine slv (0) (0) h16 Try.underlying25 rfl Try.sizeOf35 rfl ⟨_, rfl, by first | omega | (simp; omega)⟩ (by omega) (by omega) rfl fun a17 h17 => ?_
  refine mv h17 rfl rfl fun a18 h18 => ?_
  refine apz h18 (m := m) rfl rfl (by omega) Try.underlying25 Try.underlying3 Try.type35 rfl rfl rfl (by omega) (by show m * 24 ≤ _; omega) (by omega) rfl fun a19 w1 gq cq csq h19 hk1 hzq hc1 hc2 hc3 hgq => ?_
  replace hB := Kept.trans hB hk1
  refine mv h19 rfl rfl fun a20 h20 => ?_
  refine lenv h20 rfl Try.underlying25 rfl rfl fun a21 h21 => ?_
  refine slv (0) (0) h21 Try.underlying25 rfl Try.sizeOf35 rfl ⟨_, rfl, by first | omega | (simp; omega)⟩ (by omega) (by omega) rfl fun a22 h22 => ?_
  refine asg h22 rfl rfl fun a23 h23 => ?_
  clear hK6 h13 h14 h15 h16 h17 h18 h19 h20 h21 h22 K6 a13 a14 a15 a16 a17 a18 a19 a20 a21 a22
  refine wpL_nil (hK4 _ _ ?_)
  refine sq fun K7 hK7 => ?_
  refine reg [some 26, some 4] rfl ?_
  refine mv h23 rfl rfl fun a24 h24 => ?_
  refine asg h24 rfl rfl fun a25 h25 => ?_
  clear hK4 h23 h24 K4 a23 a24
  refine wpL_nil (hK7 _ _ ?_)
  refine rtn (leave h25 (res1 h25 rfl (rvt rfl)) ?_)
  exact ⟨_, rfl, Own.empty hzq hgq hc3 (by omega) hc2, hB⟩
 ·
  have hp2 := of_decide_eq_false hb2
  refine cdf h13 rfl hb2 ?_
  refine skp (hK4 _ _ ?_)
  refine sq fun K8 hK8 => ?_
  refine reg [some 26, some 4] rfl ?_
  refine mv h13 rfl rfl fun a26 h26 => ?_
  refine asg h26 rfl rfl fun a27 h27 => ?_
  clear hK6 hK4 h13 h26 K6 K4 a13 a26
  refine wpL_nil (hK8 _ _ ?_)
  refine rtn (leave h27 (res1 h27 rfl (rvt rfl)) ?_)
  exact ⟨_, rfl, Own.nil _ _ _ _, hB⟩

/-- slices.Concat[[][]byte,[]byte] -/
theorem c_concatR {S : Nat → Prop} (v : Value) (L : List (List (List UInt8))) (w : World) (hv : Rrs S w v L) (hl : L.flatten.length ≤ 1000000000) :
  C Try.prog 76 [v] w fun v w' => Rws (fun b => S b ∨ w.heap.size ≤ b) w' v L.flatten ∧ Kept w w' := by
 have hbd := hv.bound
 replace hv := hv.lt
 refine enterE Try.func76 rfl 36 rfl rfl fun a0 h0 => ?_
 have hB := Kept.refl w
 refine sq fun K1 hK1 => ?_
 refine reg [some 2] rfl ?_
 refine asg h0 rfl rfl fun a1 h1 => ?_
 clear h0 a0
 refine wpL_nil (hK1 _ _ ?_)
 refine sq fun K2 hK2 => ?_
 refine reg [some 3] rfl ?_
 refine asg h1 rfl rfl fun a2 h2 => ?_
 clear hK1 h1 K1 a1
 refine wpL_nil (hK2 _ _ ?_)
 refine sq fun K3 hK3 => ?_
 refine sq fun K4 hK4 => ?_
 refine reg [some 9, some 10, some 11] rfl ?_
 refine mv h2 rfl rfl fun a3 h3 => ?_
 refine lnx h3 rfl Try.underlying158 rfl hv.isl rfl fun a4 h4 => ?_
 refine mv h4 rfl rfl fun a5 h5 => ?_
 clear hK2 h2 h3 h4 K2 a2 a3 a4
 refine wpL_nil (hK4 _ _ ?_)
 refine blc ?_
 clear hK4 K4
 refine lp (fun (k : Nat) (a : Act) (W : World) => Has [] 36 [(0, v), (9, v), (10, .int .i64 (L.length : Int)), (11, .int .i64 (k : Int)), (3, .int .i64 (((L.take k).flatten.length : Nat) : Int))] a ∧ (k ≤ L.length) ∧ (Rrs (fun b => S b ∧ b < w.heap.size) W v L) ∧ (Kept w W)) (fun (k : Nat) => L.length - k) (0) ⟨(h5.cons' rfl (h5.cons' rfl (h5.cons' rfl (h5.cons' rfl (h5.cons' rfl (h5.nil')))))), Nat.zero_le _, hv, hB⟩ ?_
 clear h5 hv hB
 rintro k a6 w1 ⟨h6, hkl, hv, hB⟩
 refine sq fun K5 hK5 => ?_
 refine reg [some 12] rfl ?_
 refine lss h6 rfl rfl rfl fun a7 h7 => ?_
 clear h6 a6
 refine wpL_nil (hK5 _ _ ?_)
 refine sq fun K6 hK6 => ?_
 refine spl h7 (d := 12) rfl (fun hb1 => ?_) (fun hb1 => ?_)
 ·
  have hp1 := of_decide_eq_true hb1
  obtain ⟨x, hx⟩ : ∃ x, L[k]? = some x := ⟨_, List.getElem?_eq_getElem (by have := of_decide_eq_true hb1; omega)⟩
  have hfl := flat_le L (k + 1)
  rw [flat_next hx, List.length_append] at hfl
  refine cdt h7 rfl hb1 ?_
  refine skp (hK6 _ _ ?_)
  refine sq fun K7 hK7 => ?_
  refine blc ?_
  refine sq fun K8 hK8 => ?_
  refine reg [some 13, some 14, some 5] rfl ?_
  refine ixRR (k := k) hv h7 rfl rfl Try.underlying158 Try.sizeOf25 Try.isAgg25 (by simp) (hx) rfl rfl fun a8 z13 v14' h8 hs14 => ?_
  refine asg h8 rfl rfl fun a9 h9 => ?_
  clear hK5 hK6 h7 h8 K5 K6 a7 a8
  refine wpL_nil (hK8 _ _ ?_)
  refine sq fun K9 hK9 => ?_
  refine reg [some 15, some 16, some 17, some 18, some 3] rfl ?_
  refine mv h9 rfl rfl fun a10 h10 => ?_
  refine mv h10 rfl rfl fun a11 h11 => ?_
  refine lnx h11 rfl Try.underlying25 rfl hs14.isl rfl fun a12 h12 => ?_
  refine add h12 rfl rfl rfl (by omega) fun a13 h13 => ?_
  refine asg h13 rfl rfl fun a14 h14 => ?_
  clear hK8 h9 h10 h11 h12 h13 K8 a9 a10 a11 a12 a13
  refine wpL_nil (hK9 _ _ ?_)
  refine sq fun K10 hK10 => ?_
  refine reg [some 19, some 20] rfl ?_
  refine mv h14 rfl rfl fun a15 h15 => ?_
  refine lss h15 rfl rfl rfl fun a16 h16 => ?_
  clear hK9 h14 h15 K9 a14 a15
  refine wpL_nil (hK10 _ _ ?_)
  refine knownF h16 (d := 20) rfl (decide_eq_false (by omega)) fun hb2 => ?_
  have hp2 := of_decide_eq_false hb2
  refine cdf h16 rfl hb2 ?_
  refine skp (hK7 _ _ ?_)
  refine reg [some 22, some 11] rfl ?_
  refine add h16 rfl rfl rfl (by omega) fun a17 h17 => ?_
  refine mv h17 rfl rfl fun a18 h18 => ?_
  clear hK10 hK7 h16 h17 K10 K7 a16 a17
  refine wpL_nil ?_
  exact ⟨k + 1, ⟨(h18.cons' rfl (h18.cons' rfl (h18.cons' rfl (h18.cons' (lke rfl (by simp)) (h18.cons' (lke rfl (by rw [flat_next hx]; simp)) (h18.nil')))))), by omega, hv, hB⟩, by omega⟩
 ·
  have hp1 := of_decide_eq_false hb1
  refine cdf h7 rfl hb1 ?_
  refine xit (hK3 _ _ ?_)
  refine sq fun K11 hK11 => ?_
  refine reg [some 23, some 24, some 6] rfl ?_
  refine mv h7 rfl rfl fun a19 h19 => ?_
  have hsz2 := hB.size
  refine cal h19 Try.call129 rfl (c_growR ((L.take k).flatten.length) _ (by have := flat_le L k; omega)) rfl ?_
  rintro v2 w2 a20 ⟨hOG, hk2⟩ h20
  replace hv := hv.kept hk2
  replace hB := Kept.trans hB hk2
  refine asg h20 rfl rfl fun a21 h21 => ?_
  clear hK5 hK3 hK6 h7 h19 h20 K5 K3 K6 a7 a19 a20
  refine wpL_nil (hK11 _ _ ?_)
  refine sq fun K12 hK12 => ?_
  refine sq fun K13 hK13 => ?_
  refine reg [some 25, some 26, some 27] rfl ?_
  refine mv h21 rfl rfl fun a22 h22 => ?_
  refine lnx h22 rfl Try.underlying158 rfl hv.isl rfl fun a23 h23 => ?_
  refine mv h23 rfl rfl fun a24 h24 => ?_
  clear hK11 h21 h22 h23 K11 a21 a22 a23
  refine wpL_nil (hK13 _ _ ?_)
  refine blc ?_
  clear hK13 K13
  refine lp (fun (k : Nat) (a : Act) (W : World) => ∃ (vo : Value), ∃ (vs : List Value), Has [] 36 [(25, v), (26, .int .i64 (L.length : Int)), (27, .int .i64 (k : Int)), (6, vo)] a ∧ (k ≤ L.length) ∧ (Rrs (fun b => S b ∧ b < w.heap.size) W v L) ∧ (K.Own w.heap.size W vo 35 1 vs) ∧ (Vec (fun b => S b ∧ b < w.heap.size) W vs (L.take k).flatten) ∧ (Kept w W)) (fun (k : Nat) => L.length - k) (0) ⟨_, _, (h24.cons' rfl (h24.cons' rfl (h24.cons' rfl (h24.cons' rfl (h24.nil'))))), Nat.zero_le _, hv, (hOG.mono (lo' := w.heap.size) (by omega)), (Vec.nil _ _), hB⟩ ?_
  clear h24 hOG hB hv hkl
  rintro k a25 w3 ⟨vo, vs, h25, hkl, hv, hO, hV, hB⟩
  refine sq fun K14 hK14 => ?_
  refine reg [some 28] rfl ?_
  refine lss h25 rfl rfl rfl fun a26 h26 => ?_
  clear h25 a25
  refine wpL_nil (hK14 _ _ ?_)
  refine sq fun K15 hK15 => ?_
  refine spl h26 (d := 28) rfl (fun hb3 => ?_) (fun hb3 => ?_)
  ·
   have hp3 := of_decide_eq_true hb3
   obtain ⟨x, hx⟩ : ∃ x, L[k]? = some x := ⟨_, List.getElem?_eq_getElem (by have := of_decide_eq_true hb3; omega)⟩
   have hfl := flat_le L (k + 1)
   rw [flat_next hx, List.length_append] at hfl
   refine cdt h26 rfl hb3 ?_
   refine skp (hK15 _ _ ?_)
   refine sq fun K16 hK16 => ?_
   refine blc ?_
   refine sq fun K17 hK17 => ?_
   refine reg [some 29, some 30, some 8] rfl ?_
   refine ixRR (k := k) hv h26 rfl rfl Try.underlying158 Try.sizeOf25 Try.isAgg25 (by simp) (hx) rfl rfl fun a27 z29 v30' h27 hs30 => ?_
   refine asg h27 rfl rfl fun a28 h28 => ?_
   clear hK14 hK15 h26 h27 K14 K15 a26 a27
   refine wpL_nil (hK17 _ _ ?_)
   refine reg [some 31, some 32, some 33, some 6] rfl ?_
   refine mv h28 rfl rfl fun a29 h29 => ?_
   refine mv h29 rfl rfl fun a30 h30 => ?_
   obtain ⟨A30, c30, vs30, rfl, hI30, hV30⟩ := hs30.vec
   have hV1 := hV.cat hV30
   have e30 := hV30.1
   have eV := hV.1
   refine apn (sz := 1) h30 rfl rfl Try.underlying25 Try.type35 rfl rfl rfl (by decide) hO (hB.size) (hI30) (by rw [e30]; simp) (hV30.oneCell) (by show (_ + _) * 24 ≤ _; omega) (by decide) rfl fun a31 v4 w4 h31 hO33' hk4 hat4 => ?_
   replace hv := hv.butV hk4 (fun b hb _ => hO.ne hb.2)
   replace hB := ButV.kept0 hB hk4 hO (Nat.le_refl _)
   have hV := hV1.butV hk4 (fun b hb _ => hO.ne hb.2)
   have hO33 := hO33'; clear hO33'
   refine asg h31 rfl rfl fun a32 h32 => ?_
   clear hK17 h28 h29 h30 h31 K17 a28 a29 a30 a31
   refine wpL_nil (hK16 _ _ ?_)
   refine reg [some 34, some 27] rfl ?_
   refine add h32 rfl rfl rfl (by omega) fun a33 h33 => ?_
   refine mv h33 rfl rfl fun a34 h34 => ?_
   clear hK16 h32 h33 K16 a32 a33
   refine wpL_nil ?_
   exact ⟨k + 1, ⟨_, _, (h34.cons' rfl (h34.cons' rfl (h34.cons' (lke rfl (by simp)) (h34.cons' rfl (h34.nil'))))), by omega, hv, hO33, (by rw [flat_next hx]; exact hV), hB⟩, by omega⟩
  ·
   have hp3 := of_decide_eq_false hb3
   refine cdf h26 rfl hb3 ?_
   refine xit (hK12 _ _ ?_)
   refine sq fun K18 hK18 => ?_
   refine reg [some 35, some 2] rfl ?_
   refine mv h26 rfl rfl fun a35 h35 => ?_
   refine asg h35 rfl rfl fun a36 h36 => ?_
   clear hK14 hK12 hK15 h26 h35 K14 K12 K15 a26 a35
   refine wpL_nil (hK18 _ _ ?_)
   refine rtn (leave h36 (res1 h36 rfl (rvt rfl)) ?_)
   exact ⟨_, rfl, by rw [take_take_all (by omega)] at hV; exact (Rws.of_vec hO hV).mono (fun b hb => by rcases hb with h | h; exact .inl h.1; exact .inr h), hB⟩

/-- slices.EqualFunc[[][]byte,[][]byte,[]byte,[]byte] -/
theorem c_equalR {S1 S2 : Nat → Prop} (v1 v2 : Value) (l m : List (List UInt8)) (w : World) (hv1 : Rws S1 w v1 l) (hv2 : Rws S2 w v2 m) :
  C Try.prog 158 [v1, v2, .func (.func 142) #[] #[]] w fun v w' => v = .bool (decide (l = m)) ∧ Kept w w' := by
 have hbd := hv1.bound
 refine enterE Try.func158 rfl 32 rfl rfl fun a0 h0 => ?_
 have hB := Kept.refl w
 refine sq fun K1 hK1 => ?_
 refine reg [some 6] rfl ?_
 refine asg h0 rfl rfl fun a1 h1 => ?_
 clear h0 a0
 refine wpL_nil (hK1 _ _ ?_)
 refine sq fun K2 hK2 => ?_
 refine sq fun K3 hK3 => ?_
 refine reg [some 10, some 11, some 12, some 13, some 14] rfl ?_
 refine mv h1 rfl rfl fun a2 h2 => ?_
 refine lnx h2 rfl Try.underlying25 rfl hv1.isl rfl fun a3 h3 => ?_
 refine mv h3 rfl rfl fun a4 h4 => ?_
 refine lnx h4 rfl Try.underlying25 rfl hv2.isl rfl fun a5 h5 => ?_
 refine ineq h5 rfl rfl rfl fun a6 h6 => ?_
 clear hK1 h1 h2 h3 h4 h5 K1 a1 a2 a3 a4 a5
 refine wpL_nil (hK3 _ _ ?_)
 refine spl h6 (d := 14) rfl (fun hb1 => ?_) (fun hb1 => ?_)
 ·
  have hp1 := of_decide_eq_false (bunt hb1)
  refine cdt h6 rfl (bnf (bunt hb1)) ?_
  refine sq fun K4 hK4 => ?_
  refine reg [some 6] rfl ?_
  refine asg h6 rfl rfl fun a7 h7 => ?_
  clear hK3 h6 K3 a6
  refine wpL_nil (hK4 _ _ ?_)
  refine rtn (leave h7 (res1 h7 rfl (rvt rfl)) ?_)
  exact ⟨_, rfl, by rw [decide_eq_false (fun e => hp1 (by rw [e]))], hB⟩
 ·
  have hp1 := of_decide_eq_true (bunf hb1)
  refine cdf h6 rfl (bnt (bunf hb1)) ?_
  refine skp (hK2 _ _ ?_)
  refine sq fun K5 hK5 => ?_
  refine sq fun K6 hK6 => ?_
  refine reg [some 15, some 16, some 17] rfl ?_
  refine mv h6 rfl rfl fun a8 h8 => ?_
  refine lnx h8 rfl Try.underlying25 rfl hv1.isl rfl fun a9 h9 => ?_
  refine mv h9 rfl rfl fun a10 h10 => ?_
  clear hK3 hK2 h6 h8 h9 K3 K2 a6 a8 a9
  refine wpL_nil (hK6 _ _ ?_)
  refine blc ?_
  clear hK6 K6
  refine lp (fun (k : Nat) (a : Act) (W : World) => Has [] 32 [(1, v2), (2, .func (.func 142) #[] #[]), (15, v1), (16, .int .i64 (l.length : Int)), (17, .int .i64 (k : Int))] a ∧ (k ≤ l.length) ∧ (l.take k = m.take k) ∧ (Rws S1 W v1 l) ∧ (Rws S2 W v2 m) ∧ (Kept w W)) (fun (k : Nat) => l.length - k) (0) ⟨(h10.cons' rfl (h10.cons' rfl (h10.cons' rfl (h10.cons' rfl (h10.cons' rfl (h10.nil')))))), Nat.zero_le _, rfl, hv1, hv2, hB⟩ ?_
  clear h10 hv2 hv1 hB
  rintro k a11 w1 ⟨h11, hk, hq, hv1, hv2, hB⟩
  refine sq fun K7 hK7 => ?_
  refine reg [some 18] rfl ?_
  refine lss h11 rfl rfl rfl fun a12 h12 => ?_
  clear h11 a11
  refine wpL_nil (hK7 _ _ ?_)
  refine sq fun K8 hK8 => ?_
  refine spl h12 (d := 18) rfl (fun hb2 => ?_) (fun hb2 => ?_)
  ·
   have hp2 := of_decide_eq_true hb2
   obtain ⟨x, hx⟩ : ∃ x, l[k]? = some x := ⟨_, List.getElem?_eq_getElem (by have := of_decide_eq_true hb2; omega)⟩
   obtain ⟨y, hy⟩ : ∃ y, m[k]? = some y := ⟨_, List.getElem?_eq_getElem (by have := of_decide_eq_true hb2; omega)⟩
   refine cdt h12 rfl hb2 ?_
   refine skp (hK8 _ _ ?_)
   refine sq fun K9 hK9 => ?_
   refine blc ?_
   refine sq fun K10 hK10 => ?_
   refine reg [some 19, some 20, some 21, some 7, some 8] rfl ?_
   refine mv h12 rfl rfl fun a13 h13 => ?_
   refine ixR (k := k) hv1 h13 rfl rfl Try.underlying25 Try.sizeOf35 Try.isAgg35 (by simp) (hx) rfl rfl fun a14 z20 v21' h14 hs21 => ?_
   refine asg h14 rfl rfl fun a15 h15 => ?_
   refine asg h15 rfl rfl fun a16 h16 => ?_
   clear hK7 hK8 h12 h13 h14 h15 K7 K8 a12 a13 a14 a15
   refine wpL_nil (hK10 _ _ ?_)
   refine sq fun K11 hK11 => ?_
   refine reg [some 22, some 23, some 24, some 25, some 9] rfl ?_
   refine mv h16 rfl rfl fun a17 h17 => ?_
   refine mv h17 rfl rfl fun a18 h18 => ?_
   refine ixR (k := k) hv2 h18 rfl rfl Try.underlying25 Try.sizeOf35 Try.isAgg35 (by simp) (hy) rfl rfl fun a19 z24 v25' h19 hs25 => ?_
   refine asg h19 rfl rfl fun a20 h20 => ?_
   clear hK10 h16 h17 h18 h19 K10 a16 a17 a18 a19
   refine wpL_nil (hK11 _ _ ?_)
   refine sq fun K12 hK12 => ?_
   refine reg [some 26, some 27, some 28, some 29, some 30] rfl ?_
   refine mv h20 rfl rfl fun a21 h21 => ?_
   refine mv h21 rfl rfl fun a22 h22 => ?_
   refine mv h22 rfl rfl fun a23 h23 => ?_
   refine clv h23 rfl Try.call142 rfl _ rfl (c_bytesEq _ _ _ _ _ hs21 hs25) rfl ?_
   rintro v2 w2 a24 ⟨rfl, hk2⟩ h24
   replace hv1 := hv1.kept hk2
   replace hv2 := hv2.kept hk2
   replace hB := Kept.trans hB hk2
   refine unot h24 rfl rfl fun a25 h25 => ?_
   clear hK11 h20 h21 h22 h23 h24 K11 a20 a21 a22 a23 a24
   refine wpL_nil (hK12 _ _ ?_)
   refine spl h25 (d := 30) rfl (fun hb3 => ?_) (fun hb3 => ?_)
   ·
    refine cdt h25 rfl (bnf (bunt hb3)) ?_
    refine sq fun K13 hK13 => ?_
    refine reg [some 6] rfl ?_
    refine asg h25 rfl rfl fun a26 h26 => ?_
    clear hK12 h25 K12 a25
    refine wpL_nil (hK13 _ _ ?_)
    refine rtn (leave h26 (res1 h26 rfl (rvt rfl)) ?_)
    exact ⟨_, rfl, by rw [take_ne hx hy (of_decide_eq_false (bunt hb3))], hB⟩
   ·
    refine cdf h25 rfl (bnt (bunf hb3)) ?_
    refine skp (hK9 _ _ ?_)
    refine reg [some 31, some 17] rfl ?_
    refine add h25 rfl rfl rfl (by omega) fun a27 h27 => ?_
    refine mv h27 rfl rfl fun a28 h28 => ?_
    clear hK12 hK9 h25 h27 K12 K9 a25 a27
    refine wpL_nil ?_
    exact ⟨k + 1, ⟨(h28.cons' rfl (h28.cons' rfl (h28.cons' rfl (h28.cons' rfl (h28.cons' (lke rfl (by simp)) (h28.nil')))))), by omega, (all_next2 hx hy hq (of_decide_eq_true (bunf hb3))), hv1, hv2, hB⟩, by omega⟩
  ·
   have hp2 := of_decide_eq_false hb2
   refine cdf h12 rfl hb2 ?_
   refine xit (hK5 _ _ ?_)
   refine sq fun K14 hK14 => ?_
   refine reg [some 6] rfl ?_
   refine asg h12 rfl rfl fun a29 h29 => ?_
   clear hK7 hK5 hK8 h12 K7 K5 K8 a12
   refine wpL_nil (hK14 _ _ ?_)
   refine rtn (leave h29 (res1 h29 rfl (rvt rfl)) ?_)
   exact ⟨_, rfl, by rw [take_eq hq (by omega) (by omega)], hB⟩

/-- block.Same -/
theorem c_bsame {S1 S2 : Nat → Prop} (v1 v2 : Value) (l m : List (List UInt8)) (w : World) (hv1 : Rws S1 w v1 l) (hv2 : Rws S2 w v2 m) :
  C Try.prog 109 [v1, v2] w fun v w' => v = .bool (decide (l = m)) ∧ Kept w w' := by
 refine enterE Try.func109 rfl 8 rfl rfl fun a0 h0 => ?_
 have hB := Kept.refl w
 refine sq fun K1 hK1 => ?_
 refine reg [some 4] rfl ?_
 refine asg h0 rfl rfl fun a1 h1 => ?_
 clear h0 a0
 refine wpL_nil (hK1 _ _ ?_)
 refine sq fun K2 hK2 => ?_
 refine reg [some 5, some 6, some 7, some 4] rfl ?_
 refine mv h1 rfl rfl fun a2 h2 => ?_
 refine mv h2 rfl rfl fun a3 h3 => ?_
 refine cal h3 Try.call158 rfl (c_equalR _ _ _ _ _ hv1 hv2) rfl ?_
 rintro v1 w1 a4 ⟨rfl, hk1⟩ h4
 replace hB := Kept.trans hB hk1
 refine asg h4 rfl rfl fun a5 h5 => ?_
 clear hK1 h1 h2 h3 h4 K1 a1 a2 a3 a4
 refine wpL_nil (hK2 _ _ ?_)
 refine rtn (leave h5 (res1 h5 rfl (rvt rfl)) ?_)
 exact ⟨_, rfl, rfl, hB⟩

/-- reelkeeperref03.Same -/
theorem c_rsame {S1 S2 : Nat → Prop} (v1 v2 : Value) (l m : List (List UInt8)) (w : World) (hv1 : Rws S1 w v1 l) (hv2 : Rws S2 w v2 m) :
  C Try.prog 30 [v1, v2] w fun v w' => v = .bool (decide (l = m)) ∧ Kept w w' := by
 have hbd := hv1.bound
 obtain ⟨A1, c1, vs1, rfl, hI1, hV1⟩ := hv1.vec
 obtain ⟨A2, c2, vs2, rfl, hI2, hV2⟩ := hv2.vec
 refine enterE Try.func30 rfl 28 rfl rfl fun a0 h0 => ?_
 have hB := Kept.refl w
 refine sq fun K1 hK1 => ?_
 refine reg [some 4] rfl ?_
 refine asg h0 rfl rfl fun a1 h1 => ?_
 clear h0 a0
 refine wpL_nil (hK1 _ _ ?_)
 refine sq fun K2 hK2 => ?_
 refine sq fun K3 hK3 => ?_
 refine reg [some 6, some 7, some 8, some 9, some 10] rfl ?_
 refine mv h1 rfl rfl fun a2 h2 => ?_
 refine lenv h2 rfl Try.underlying25 rfl rfl fun a3 h3 => ?_
 refine mv h3 rfl rfl fun a4 h4 => ?_
 refine lenv h4 rfl Try.underlying25 rfl rfl fun a5 h5 => ?_
 refine ineq h5 rfl rfl rfl fun a6 h6 => ?_
 clear hK1 h1 h2 h3 h4 h5 K1 a1 a2 a3 a4 a5
 refine wpL_nil (hK3 _ _ ?_)
 refine spl h6 (d := 10) rfl (fun hb1 => ?_) (fun hb1 => ?_)
 ·
  have hp1 := of_decide_eq_false (bunt hb1)
  refine cdt h6 rfl (bnf (bunt hb1)) ?_
  refine sq fun K4 hK4 => ?_
  refine reg [some 4] rfl ?_
  refine asg h6 rfl rfl fun a7 h7 => ?_
  clear hK3 h6 K3 a6
  refine wpL_nil (hK4 _ _ ?_)
  refine rtn (leave h7 (res1 h7 rfl (rvt rfl)) ?_)
  exact ⟨_, rfl, by rw [decide_eq_false (fun e => hp1 (by rw [e]))], hB⟩
 ·
  have hp1 := of_decide_eq_true (bunf hb1)
  refine cdf h6 rfl (bnt (bunf hb1)) ?_
  refine skp (hK2 _ _ ?_)
  refine sq fun K5 hK5 => ?_
  refine sq fun K6 hK6 => ?_
  refine reg [some 5] rfl ?_
  refine asg h6 rfl rfl fun a8 h8 => ?_
  clear hK3 hK2 h6 K3 K2 a6
  refine wpL_nil (hK6 _ _ ?_)
  refine blc ?_
  clear hK6 K6
  refine lp (fun (k : Nat) (a : Act) (W : World) => Has [] 28 [(0, Value.slice A1 l.length c1), (1, Value.slice A2 m.length c2), (5, .int .i64 (k : Int))] a ∧ (k ≤ l.length) ∧ (l.take k = m.take k) ∧ (In S1 W A1 vs1) ∧ (Vec S1 W vs1 l) ∧ (In S2 W A2 vs2) ∧ (Vec S2 W vs2 m) ∧ (Kept w W)) (fun (k : Nat) => l.length - k) (0) ⟨(h8.cons' rfl (h8.cons' rfl (h8.cons' rfl (h8.nil')))), Nat.zero_le _, rfl, hI1, hV1, hI2, hV2, hB⟩ ?_
  clear h8 hV2 hV1 hI2 hI1 hB
  rintro k a9 w1 ⟨h9, hk, hq, hI1, hV1, hI2, hV2, hB⟩
  refine sq fun K7 hK7 => ?_
  refine sq fun K8 hK8 => ?_
  refine reg [some 11, some 12, some 13, some 14] rfl ?_
  refine mv h9 rfl rfl fun a10 h10 => ?_
  refine mv h10 rfl rfl fun a11 h11 => ?_
  refine lenv h11 rfl Try.underlying25 rfl rfl fun a12 h12 => ?_
  refine lss h12 rfl rfl rfl fun a13 h13 => ?_
  clear h9 h10 h11 h12 a9 a10 a11 a12
  refine wpL_nil (hK8 _ _ ?_)
  refine spl h13 (d := 14) rfl (fun hb2 => ?_) (fun hb2 => ?_)
  ·
   have hp2 := of_decide_eq_true hb2
   have hlt := of_decide_eq_true hb2
   obtain ⟨x, hx⟩ : ∃ x, l[k]? = some x := ⟨_, List.getElem?_eq_getElem (by omega)⟩
   obtain ⟨y, hy⟩ : ∃ y, m[k]? = some y := ⟨_, List.getElem?_eq_getElem (by omega)⟩
   refine cdt h13 rfl hb2 ?_
   refine skp (hK7 _ _ ?_)
   refine sq fun K9 hK9 => ?_
   refine blc ?_
   refine sq fun K10 hK10 => ?_
   have el1 := hV1.1
   have el2 := hV2.1
   obtain ⟨x1, hx1⟩ : ∃ x, vs1[k]? = some x := ⟨_, List.getElem?_eq_getElem (by omega)⟩
   obtain ⟨x2, hx2⟩ : ∃ x, vs2[k]? = some x := ⟨_, List.getElem?_eq_getElem (by omega)⟩
   obtain ⟨ad1, rfl⟩ := hI1.some_ (by omega)
   obtain ⟨ad2, rfl⟩ := hI2.some_ (by omega)
   have hb1' := hV1.2 k _ _ hx1 hx
   have hb2' := hV2.2 k _ _ hx2 hy
   clear hK8 hK7 K8 K7
   refine drw h13 [some 17, some 18, some 19, some 20, some 21, some 22, some 23, some 24, some 25, some 26, some 27] rfl [Fx (Value.slice (some ad1) l.length c1), Fx (.int .i64 (k : Int)), Fx (.pointer (some (ad1.add ((k : Int).toNat * 1)))), Fx (x1), Fx (str x), Fx (Value.slice (some ad2) m.length c2), Fx (.int .i64 (k : Int)), Fx (.pointer (some (ad2.add ((k : Int).toNat * 1)))), Fx (x2), Fx (str y), Fx (.bool (!decide (x = y)))] Kept rfl rfl rfl rfl (drewKept _) keptT (mcons mfx (mcons mfx (mcons mfx (mcons mfx (mcons mfx (mcons mfx (mcons mfx (mcons mfx (mcons mfx (mcons mfx (mcons mfx mnil))))))))))) ⟨?_, ?_, ?_, ?_, ?_, ?_, ?_, ?_, ?_, ?_, ?_, trivial⟩ ?_
   ·
    intro L a w_ hH hb hR hd ho
    have hl0 := hb 0 _ rfl
    refine mv hH hl0 rfl fun a14 h14 => ?_
    exact wpL_nil ⟨_, h14, Kept.refl _, rfl⟩
   ·
    intro L a w_ hH hb hR hd ho
    have hl5 := hb 5 _ rfl
    refine mv hH hl5 rfl fun a15 h15 => ?_
    exact wpL_nil ⟨_, h15, Kept.refl _, rfl⟩
   ·
    intro L a w_ hH hb hR hd ho
    obtain ⟨_, hl17, rfl⟩ := hd 0 rfl
    obtain ⟨_, hl18, rfl⟩ := hd 1 rfl
    refine ixa hH hl17 hl18 Try.underlying25 Try.sizeOf35 ⟨by omega, by omega⟩ rfl fun a16 h16 => ?_
    exact wpL_nil ⟨_, h16, Kept.refl _, rfl⟩
   ·
    intro L a w_ hH hb hR hd ho
    obtain ⟨_, hl19, rfl⟩ := hd 2 rfl
    replace hI1 := hI1.kept hR
    refine ld1 hH hl19 Try.isAgg35 (cellK hI1 hx1) rfl fun a17 h17 => ?_
    exact wpL_nil ⟨_, h17, Kept.refl _, rfl⟩
   ·
    intro L a w_ hH hb hR hd ho
    obtain ⟨_, hl20, rfl⟩ := hd 3 rfl
    replace hb1' := hb1'.kept hR
    refine btos hH hl20 Try.underlying35 Try.underlying5 Try.underlying9 hb1' rfl fun a18 h18 => ?_
    exact wpL_nil ⟨_, h18, Kept.refl _, rfl⟩
   ·
    intro L a w_ hH hb hR hd ho
    have hl1 := hb 1 _ rfl
    refine mv hH hl1 rfl fun a19 h19 => ?_
    exact wpL_nil ⟨_, h19, Kept.refl _, rfl⟩
   ·
    intro L a w_ hH hb hR hd ho
    have hl5 := hb 5 _ rfl
    refine mv hH hl5 rfl fun a20 h20 => ?_
    exact wpL_nil ⟨_, h20, Kept.refl _, rfl⟩
   ·
    intro L a w_ hH hb hR hd ho
    obtain ⟨_, hl22, rfl⟩ := hd 5 rfl
    obtain ⟨_, hl23, rfl⟩ := hd 6 rfl
    refine ixa hH hl22 hl23 Try.underlying25 Try.sizeOf35 ⟨by omega, by omega⟩ rfl fun a21 h21 => ?_
    exact wpL_nil ⟨_, h21, Kept.refl _, rfl⟩
   ·
    intro L a w_ hH hb hR hd ho
    obtain ⟨_, hl24, rfl⟩ := hd 7 rfl
    replace hI2 := hI2.kept hR
    refine ld1 hH hl24 Try.isAgg35 (cellK hI2 hx2) rfl fun a22 h22 => ?_
    exact wpL_nil ⟨_, h22, Kept.refl _, rfl⟩
   ·
    intro L a w_ hH hb hR hd ho
    obtain ⟨_, hl25, rfl⟩ := hd 8 rfl
    replace hb2' := hb2'.kept hR
    refine btos hH hl25 Try.underlying35 Try.underlying5 Try.underlying9 hb2' rfl fun a23 h23 => ?_
    exact wpL_nil ⟨_, h23, Kept.refl _, rfl⟩
   ·
    intro L a w_ hH hb hR hd ho
    obtain ⟨_, hl21, rfl⟩ := hd 4 rfl
    obtain ⟨_, hl26, rfl⟩ := hd 9 rfl
    refine sneq hH hl21 hl26 rfl fun a24 h24 => ?_
    exact wpL_nil ⟨_, h24, Kept.refl _, rfl⟩
   intro L2 a25 w2 h25 hbh25 hRh25 hdh25
   obtain ⟨_, hl17, rfl⟩ := hdh25 0 (by decide)
   obtain ⟨_, hl18, rfl⟩ := hdh25 1 (by decide)
   obtain ⟨_, hl19, rfl⟩ := hdh25 2 (by decide)
   obtain ⟨_, hl20, rfl⟩ := hdh25 3 (by decide)
   obtain ⟨_, hl21, rfl⟩ := hdh25 4 (by decide)
   obtain ⟨_, hl22, rfl⟩ := hdh25 5 (by decide)
   obtain ⟨_, hl23, rfl⟩ := hdh25 6 (by decide)
   obtain ⟨_, hl24, rfl⟩ := hdh25 7 (by decide)
   obtain ⟨_, hl25, rfl⟩ := hdh25 8 (by decide)
   obtain ⟨_, hl26, rfl⟩ := hdh25 9 (by decide)
   obtain ⟨_, hl27, rfl⟩ := hdh25 10 (by decide)
   have h26 := Has.under h25 hbh25
   have h27 := (h25.add hl27 (h25.add hl26 (h25.add hl25 (h25.add hl24 (h25.add hl23 (h25.add hl22 (h25.add hl21 (h25.add hl20 (h25.add hl19 (h25.add hl18 (h25.add hl17 h26)))))))))))
   clear h26 hl17 hl18 hl19 hl20 hl21 hl22 hl23 hl24 hl25 hl26 hl27 hbh25 hdh25
   replace hI1 := hI1.kept hRh25
   replace hV1 := hV1.kept hRh25
   replace hI2 := hI2.kept hRh25
   replace hV2 := hV2.kept hRh25
   replace hB := Kept.trans hB hRh25
   refine hK10 _ _ ?_
   refine spl h27 (d := 27) rfl (fun hb9001 => ?_) (fun hb9001 => ?_)
   ·
    have hp9001 := of_decide_eq_false (bunt hb9001)
    refine cdt h27 rfl (bnf (bunt hb9001)) ?_
    refine sq fun K11 hK11 => ?_
    refine reg [some 4] rfl ?_
    refine asg h27 rfl rfl fun a28 h28 => ?_
    clear hK10 h27 K10
    refine wpL_nil (hK11 _ _ ?_)
    refine rtn (leave h28 (res1 h28 rfl (rvt rfl)) ?_)
    exact ⟨_, rfl, by rw [take_ne hx hy hp9001], hB⟩
   ·
    have hp9001 := of_decide_eq_true (bunf hb9001)
    refine cdf h27 rfl (bnt (bunf hb9001)) ?_
    refine skp (hK9 _ _ ?_)
    refine reg [some 15, some 16, some 5] rfl ?_
    refine mv h27 rfl rfl fun a29 h29 => ?_
    refine add h29 rfl rfl rfl (by omega) fun a30 h30 => ?_
    refine asg h30 rfl rfl fun a31 h31 => ?_
    clear hK10 hK9 h27 h29 h30 K10 K9 a29 a30
    refine wpL_nil ?_
    exact ⟨k + 1, ⟨(h31.cons' rfl (h31.cons' rfl (h31.cons' (lke rfl (by simp)) (h31.nil')))), by omega, (all_next2 hx hy hq hp9001), hI1, hV1, hI2, hV2, hB⟩, by omega⟩
  ·
   have hp2 := of_decide_eq_false hb2
   refine cdf h13 rfl hb2 ?_
   refine xit (hK5 _ _ ?_)
   refine sq fun K12 hK12 => ?_
   refine reg [some 4] rfl ?_
   refine asg h13 rfl rfl fun a32 h32 => ?_
   clear hK8 hK5 hK7 h13 K8 K5 K7 a13
   refine wpL_nil (hK12 _ _ ?_)
   refine rtn (leave h32 (res1 h32 rfl (rvt rfl)) ?_)
   exact ⟨_, rfl, by rw [take_eq hq (by omega) (by omega)], hB⟩

/-- reelkeeperlaw03.Few -/
theorem c_few3 {S : Nat → Prop} (v : Value) (l : List (List UInt8)) (w : World) (hv : Rws S w v l) :
  C Try.prog 47 [v] w fun v w' => v = .bool (fewB l) ∧ Kept w w' := by
 have hbd := hv.bound
 refine enterE Try.func47 rfl 23 rfl rfl fun a0 h0 => ?_
 have hB := Kept.refl w
 refine sq fun K1 hK1 => ?_
 refine reg [some 2] rfl ?_
 refine asg h0 rfl rfl fun a1 h1 => ?_
 clear h0 a0
 refine wpL_nil (hK1 _ _ ?_)
 refine sq fun K2 hK2 => ?_
 refine sq fun K3 hK3 => ?_
 refine reg [some 3] rfl ?_
 refine asg h1 rfl rfl fun a2 h2 => ?_
 clear hK1 h1 K1 a1
 refine wpL_nil (hK3 _ _ ?_)
 refine blc ?_
 clear hK3 K3
 refine lp (fun (k : Nat) (a : Act) (W : World) => Has [] 23 [(0, v), (3, .int .i64 (k : Int))] a ∧ (k ≤ l.length ∧ k ≤ 61) ∧ ((l.take k).all (fun r => decide (r.length ≤ 600)) = true) ∧ (Rws S W v l) ∧ (Kept w W)) (fun (k : Nat) => l.length - k) (0) ⟨(h2.cons' rfl (h2.cons' rfl (h2.nil'))), ⟨Nat.zero_le _, by omega⟩, rfl, hv, hB⟩ ?_
 clear h2 hv hB
 rintro k a3 w1 ⟨h3, hk, hq, hv, hB⟩
 refine sq fun K4 hK4 => ?_
 refine sq fun K5 hK5 => ?_
 refine reg [some 4, some 5, some 6, some 7, some 8, some 9, some 10, some 11] rfl ?_
 refine mv h3 rfl rfl fun a4 h4 => ?_
 refine mv h4 rfl rfl fun a5 h5 => ?_
 refine lnx h5 rfl Try.underlying25 rfl hv.isl rfl fun a6 h6 => ?_
 refine lss h6 rfl rfl rfl fun a7 h7 => ?_
 refine mv h7 rfl rfl fun a8 h8 => ?_
 refine spl h8 (d := 8) rfl (fun hb1 => ?_) (fun hb1 => ?_)
 ·
  have hp1 := of_decide_eq_true hb1
  obtain ⟨x, hx⟩ : ∃ x, l[k]? = some x := ⟨_, List.getElem?_eq_getElem (by have := of_decide_eq_true hb1; omega)⟩
  refine gon h8 (d := 8) rfl rfl hb1 ?_
  refine mv h8 rfl rfl fun a9 h9 => ?_
  refine gon h9 (d := 8) rfl rfl hb1 ?_
  refine leq h9 rfl rfl rfl fun a10 h10 => ?_
  refine pkt h10 rfl hb1 rfl rfl fun a11 h11 => ?_
  clear h3 h4 h5 h6 h7 h8 h9 h10 a3 a4 a5 a6 a7 a8 a9 a10
  refine wpL_nil (hK5 _ _ ?_)
  refine spl h11 (d := 11) rfl (fun hb2 => ?_) (fun hb2 => ?_)
  ·
   have hp2 := of_decide_eq_true hb2
   refine cdt h11 rfl hb2 ?_
   refine skp (hK4 _ _ ?_)
   refine sq fun K6 hK6 => ?_
   refine blc ?_
   refine sq fun K7 hK7 => ?_
   refine reg [some 14, some 15, some 16, some 17, some 18, some 19] rfl ?_
   refine mv h11 rfl rfl fun a12 h12 => ?_
   refine mv h12 rfl rfl fun a13 h13 => ?_
   refine ixR (k := k) hv h13 rfl rfl Try.underlying25 Try.sizeOf35 Try.isAgg35 (by simp) (hx) rfl rfl fun a14 z16 v17' h14 hs17 => ?_
   refine lnx h14 rfl Try.underlying35 rfl hs17.isl rfl fun a15 h15 => ?_
   refine gtr h15 rfl rfl rfl fun a16 h16 => ?_
   clear hK5 hK4 h11 h12 h13 h14 h15 K5 K4 a11 a12 a13 a14 a15
   refine wpL_nil (hK7 _ _ ?_)
   refine spl h16 (d := 19) rfl (fun hb3 => ?_) (fun hb3 => ?_)
   ·
    have hp3 := of_decide_eq_true hb3
    refine cdt h16 rfl hb3 ?_
    refine sq fun K8 hK8 => ?_
    refine reg [some 2] rfl ?_
    refine asg h16 rfl rfl fun a17 h17 => ?_
    clear hK7 h16 K7 a16
    refine wpL_nil (hK8 _ _ ?_)
    refine rtn (leave h17 (res1 h17 rfl (rvt rfl)) ?_)
    exact ⟨_, rfl, by rw [few_no hx (by assumption)], hB⟩
   ·
    have hp3 := of_decide_eq_false hb3
    refine cdf h16 rfl hb3 ?_
    refine skp (hK6 _ _ ?_)
    refine reg [some 12, some 13, some 3] rfl ?_
    refine mv h16 rfl rfl fun a18 h18 => ?_
    refine add h18 rfl rfl rfl (by omega) fun a19 h19 => ?_
    refine asg h19 rfl rfl fun a20 h20 => ?_
    clear hK7 hK6 h16 h18 h19 K7 K6 a16 a18 a19
    refine wpL_nil ?_
    exact ⟨k + 1, ⟨(h20.cons' rfl (h20.cons' (lke rfl (by simp)) (h20.nil'))), by omega, (all_next hq hx (by simp; omega)), hv, hB⟩, by omega⟩
  ·
   have hp2 := of_decide_eq_false hb2
   refine cdf h11 rfl hb2 ?_
   refine xit (hK2 _ _ ?_)
   refine sq fun K9 hK9 => ?_
   refine reg [some 20, some 21, some 22, some 2] rfl ?_
   refine mv h11 rfl rfl fun a21 h21 => ?_
   refine lnx h21 rfl Try.underlying25 rfl hv.isl rfl fun a22 h22 => ?_
   refine leq h22 rfl rfl rfl fun a23 h23 => ?_
   refine asg h23 rfl rfl fun a24 h24 => ?_
   clear hK5 hK2 hK4 h11 h21 h22 h23 K5 K2 K4 a11 a21 a22 a23
   refine wpL_nil (hK9 _ _ ?_)
   refine rtn (leave h24 (res1 h24 rfl (rvt rfl)) ?_)
   exact ⟨_, rfl, by rw [few_end hq (by omega) (by omega)], hB⟩
 ·
  have hp1 := of_decide_eq_false hb1
  refine goff h8 (d := 8) rfl rfl hb1 rfl fun a25 h25 => ?_
  refine goff h25 (d := 8) rfl rfl hb1 rfl fun a26 h26 => ?_
  refine pkf h26 rfl hb1 rfl rfl fun a27 h27 => ?_
  clear h3 h4 h5 h6 h7 h8 h25 h26 a3 a4 a5 a6 a7 a8 a25 a26
  refine wpL_nil (hK5 _ _ ?_)
  refine cdf h27 rfl rfl ?_
  refine xit (hK2 _ _ ?_)
  refine sq fun K10 hK10 => ?_
  refine reg [some 20, some 21, some 22, some 2] rfl ?_
  refine mv h27 rfl rfl fun a28 h28 => ?_
  refine lnx h28 rfl Try.underlying25 rfl hv.isl rfl fun a29 h29 => ?_
  refine leq h29 rfl rfl rfl fun a30 h30 => ?_
  refine asg h30 rfl rfl fun a31 h31 => ?_
  clear hK5 hK2 hK4 h27 h28 h29 h30 K5 K2 K4 a27 a28 a29 a30
  refine wpL_nil (hK10 _ _ ?_)
  refine rtn (leave h31 (res1 h31 rfl (rvt rfl)) ?_)
  exact ⟨_, rfl, by rw [few_end hq (by omega) (by omega)], hB⟩

/-- reelkeeperlaw05.text -/
theorem c_fill (n : Int) (w : World) (hn : 0 ≤ n ∧ n ≤ 1000000) :
  C Try.prog 84 [.int .i64 n] w fun v w' => v = str (fillT n) ∧ Kept w w' := by
 obtain ⟨hn1, hn2⟩ := hn
 refine enterE Try.func84 rfl 17 rfl rfl fun a0 h0 => ?_
 have hB := Kept.refl w
 refine sq fun K1 hK1 => ?_
 refine reg [some 2] rfl ?_
 refine asg h0 rfl rfl fun a1 h1 => ?_
 clear h0 a0
 refine wpL_nil (hK1 _ _ ?_)
 refine sq fun K2 hK2 => ?_
 refine reg [some 5, some 6, some 3] rfl ?_
 refine mv h1 rfl rfl fun a2 h2 => ?_
 refine mks h2 (m := n.toNat) (z := .int .u8 0) rfl rfl (by omega) Try.underlying35 (b := 1) (by kernel_rfl) rfl (by omega) (by omega) rfl fun a3 w1 g6 h3 hk1 hz6 hg6 => ?_
 have hleg6 := Nat.le_trans hB.size hz6
 replace hB := Kept.trans hB hk1
 refine asg h3 rfl rfl fun a4 h4 => ?_
 clear hK1 h1 h2 h3 K1 a1 a2 a3
 refine wpL_nil (hK2 _ _ ?_)
 refine sq fun K3 hK3 => ?_
 refine sq fun K4 hK4 => ?_
 refine reg [some 4] rfl ?_
 refine asg h4 rfl rfl fun a5 h5 => ?_
 clear hK2 h4 K2 a4
 refine wpL_nil (hK4 _ _ ?_)
 refine blc ?_
 clear hK4 K4
 refine lp (fun (k : Nat) (a : Act) (W : World) => Has [] 17 [(0, .int .i64 n), (3, .slice (some ⟨g6, 0, none⟩) n.toNat n.toNat), (4, .int .i64 (k : Int))] a ∧ (k ≤ n.toNat) ∧ (Blk W g6 5 ((List.replicate k (97 : UInt8) ++ List.replicate (n.toNat - k) 0).map u8)) ∧ (Kept w W)) (fun (k : Nat) => n.toNat - k) (0) ⟨(h5.cons' rfl (h5.cons' rfl (h5.cons' rfl (h5.nil')))), Nat.zero_le _, (by simpa [u8] using hg6), hB⟩ ?_
 clear h5 hg6 hB
 rintro k a6 w2 ⟨h6, hk, hg6, hB⟩
 refine sq fun K5 hK5 => ?_
 refine sq fun K6 hK6 => ?_
 refine reg [some 7, some 8, some 9] rfl ?_
 refine mv h6 rfl rfl fun a7 h7 => ?_
 refine mv h7 rfl rfl fun a8 h8 => ?_
 refine lss h8 rfl rfl rfl fun a9 h9 => ?_
 clear h6 h7 h8 a6 a7 a8
 refine wpL_nil (hK6 _ _ ?_)
 refine spl h9 (d := 9) rfl (fun hb1 => ?_) (fun hb1 => ?_)
 ·
  have hp1 := of_decide_eq_true hb1
  refine cdt h9 rfl hb1 ?_
  refine skp (hK5 _ _ ?_)
  refine sq fun K7 hK7 => ?_
  refine blc ?_
  refine reg [some 12, some 13, some 14, none] rfl ?_
  refine mv h9 rfl rfl fun a10 h10 => ?_
  refine mv h10 rfl rfl fun a11 h11 => ?_
  refine ixb h11 rfl rfl Try.underlying35 Try.sizeOf5 k (by omega) (by omega) k (by omega) rfl fun a12 h12 => ?_
  refine stb h12 hg6 rfl rfl _ rfl Try.sizeOf5 (by simp [Value.oneCell']) _ (by simp; omega) rfl fun w3 hg6' hk3 => ?_
  clear hg6; have hg6 := hg6'; clear hg6'
  replace hB := Kept.but hB hk3 (by omega)
  rw [text_step n.toNat k (by omega)] at hg6
  clear hK6 hK5 h9 h10 h11 K6 K5 a9 a10 a11
  refine wpL_nil (hK7 _ _ ?_)
  refine reg [some 10, some 11, some 4] rfl ?_
  refine mv h12 rfl rfl fun a13 h13 => ?_
  refine add h13 rfl rfl rfl (by omega) fun a14 h14 => ?_
  refine asg h14 rfl rfl fun a15 h15 => ?_
  clear hK7 h12 h13 h14 K7 a12 a13 a14
  refine wpL_nil ?_
  exact ⟨k + 1, ⟨(h15.cons' rfl (h15.cons' rfl (h15.cons' (lke rfl (by simp)) (h15.nil')))), by omega, hg6, hB⟩, by omega⟩
 ·
  have hp1 := of_decide_eq_false hb1
  refine cdf h9 rfl hb1 ?_
  refine xit (hK3 _ _ ?_)
  refine sq fun K8 hK8 => ?_
  refine reg [some 15, some 16, some 2] rfl ?_
  refine mv h9 rfl rfl fun a16 h16 => ?_
  refine btos h16 rfl Try.underlying35 Try.underlying5 Try.underlying9 (Blk.byt (bs := fillT n) (by rw [show k = n.toNat from by omega] at hg6; simpa [fillT] using hg6) _ (by simp [fillT]) (by simp [fillT]) (by omega)) rfl fun a17 h17 => ?_
  refine asg h17 rfl rfl fun a18 h18 => ?_
  clear hK6 hK3 hK5 h9 h16 h17 K6 K3 K5 a9 a16 a17
  refine wpL_nil (hK8 _ _ ?_)
  refine rtn (leave h18 (res1 h18 rfl (rvt rfl)) ?_)
  exact ⟨_, rfl, rfl, hB⟩

end Go.Proofs.Ytpgeogdmjgmimaa
