/-
  Walks, written by wip/gen/gen.py.
-/
import Derived.Test.YtpgeogdmjgmimaaW16
set_option linter.unusedVariables false
set_option linter.unusedSimpArgs false
set_option maxRecDepth 4000
namespace Go.Proofs.Ytpgeogdmjgmimaa
open Go Go.RowKit K

theorem nd_len (x : Pl.Nd) : (ndCells x).length = 8 := rfl
theorem all_nextG {α : Type} {k : Nat} {a b : List α} {x y : α} (hx : a[k]? = some x) (hy : b[k]? = some y) (h : a.take k = b.take k) (e : x = y) : a.take (k + 1) = b.take (k + 1) := by
  rw [List.take_add_one, List.take_add_one, hx, hy, h, e]
theorem take_neG {α : Type} [DecidableEq α] {l m : List α} {k : Nat} {x y : α} (hx : l[k]? = some x) (hy : m[k]? = some y) (h : ¬ x = y) : decide (l = m) = false := by
  apply decide_eq_false; rintro rfl; rw [hx] at hy; cases hy; exact h rfl
theorem take_eqG {α : Type} [DecidableEq α] {l m : List α} {k : Nat} (h : l.take k = m.take k) (e : l.length ≤ k) (e2 : l.length = m.length) : decide (l = m) = true := by
  rw [List.take_of_length_le e, List.take_of_length_le (by omega)] at h; exact decide_eq_true h

/-- slices.Equal[[]api.Node,api.Node] -/
theorem c_eqNd {S1 S2 : Nat → Prop} (v1 v2 : Value) (l m : List Pl.Nd) (w : World) (hv1 : Sts ndCells S1 w v1 l) (hv2 : Sts ndCells S2 w v2 m) :
  C Try.prog 83 [v1, v2] w fun v w' => v = .bool (decide (l = m)) ∧ Kept w w' := by
 have hbd := hv1.bound
 obtain ⟨A1, c1, rfl, hc1, hm1, hI1⟩ := hv1
 obtain ⟨A2, c2, rfl, hc2, hm2, hI2⟩ := hv2
 refine enterE Try.func83 rfl 26 rfl rfl fun a0 h0 => ?_
 have hB := Kept.refl w
 refine sq fun K1 hK1 => ?_
 refine reg [some 4] rfl ?_
 refine asg h0 rfl rfl fun a1 h1 => ?_
 clear h0 a0
 refine wpL_nil (hK1 _ _ ?_)
 refine sq fun K2 hK2 => ?_
 refine sq fun K3 hK3 => ?_
 refine reg [some 6, some 7, some 8, some 9, some 10] rfl ?_
 refine mv h1 rfl rfl fun a2 h2 => ?_
 refine lenv h2 rfl Try.underlying22 rfl rfl fun a3 h3 => ?_
 refine mv h3 rfl rfl fun a4 h4 => ?_
 refine lenv h4 rfl Try.underlying22 rfl rfl fun a5 h5 => ?_
 refine ineq h5 rfl rfl rfl fun a6 h6 => ?_
 clear hK1 h1 h2 h3 h4 h5 K1 a1 a2 a3 a4 a5
 refine wpL_nil (hK3 _ _ ?_)
 refine spl h6 (d := 10) rfl (fun hb1 => ?_) (fun hb1 => ?_)
 ·
  have hp1 := of_decide_eq_false (bunt hb1)
  refine cdt h6 rfl (bnf (bunt hb1)) ?_
  refine sq fun K4 hK4 => ?_
  refine reg [some 4] rfl ?_
  refine asg h6 rfl rfl fun a7 h7 => ?_
  clear hK3 h6 K3 a6
  refine wpL_nil (hK4 _ _ ?_)
  refine rtn (leave h7 (res1 h7 rfl (rvt rfl)) ?_)
  exact ⟨_, rfl, by rw [decide_eq_false (fun e => hp1 (by rw [e]))], hB⟩
 ·
  have hp1 := of_decide_eq_true (bunf hb1)
  refine cdf h6 rfl (bnt (bunf hb1)) ?_
  refine skp (hK2 _ _ ?_)
  refine sq fun K5 hK5 => ?_
  refine sq fun K6 hK6 => ?_
  refine reg [some 11, some 12, some 13] rfl ?_
  refine mv h6 rfl rfl fun a8 h8 => ?_
  refine lenv h8 rfl Try.underlying22 rfl rfl fun a9 h9 => ?_
  refine mv h9 rfl rfl fun a10 h10 => ?_
  clear hK3 hK2 h6 h8 h9 K3 K2 a6 a8 a9
  refine wpL_nil (hK6 _ _ ?_)
  refine blc ?_
  clear hK6 K6
  refine lp (fun (k : Nat) (a : Act) (W : World) => Has [] 26 [(0, Value.slice A1 l.length c1), (1, Value.slice A2 m.length c2), (12, .int .i64 (l.length : Int)), (13, .int .i64 (k : Int))] a ∧ (k ≤ l.length) ∧ (l.take k = m.take k) ∧ (In S1 W A1 (l.flatMap ndCells)) ∧ (In S2 W A2 (m.flatMap ndCells)) ∧ (Kept w W)) (fun (k : Nat) => l.length - k) (0) ⟨(h10.cons' rfl (h10.cons' rfl (h10.cons' rfl (h10.cons' rfl (h10.nil'))))), Nat.zero_le _, rfl, hI1, hI2, hB⟩ ?_
  clear h10 hI2 hI1 hB
  rintro k a11 w1 ⟨h11, hk, hq, hI1, hI2, hB⟩
  refine sq fun K7 hK7 => ?_
  refine reg [some 14] rfl ?_
  refine lss h11 rfl rfl rfl fun a12 h12 => ?_
  clear h11 a11
  refine wpL_nil (hK7 _ _ ?_)
  refine sq fun K8 hK8 => ?_
  refine spl h12 (d := 14) rfl (fun hb2 => ?_) (fun hb2 => ?_)
  ·
   have hp2 := of_decide_eq_true hb2
   have hlt := of_decide_eq_true hb2
   obtain ⟨x, hx⟩ : ∃ x, l[k]? = some x := ⟨_, List.getElem?_eq_getElem (by omega)⟩
   obtain ⟨y, hy⟩ : ∃ y, m[k]? = some y := ⟨_, List.getElem?_eq_getElem (by omega)⟩
   refine cdt h12 rfl hb2 ?_
   refine skp (hK8 _ _ ?_)
   refine sq fun K9 hK9 => ?_
   refine blc ?_
   refine sq fun K10 hK10 => ?_
   refine reg [some 15, some 5] rfl ?_
   refine mv h12 rfl rfl fun a13 h13 => ?_
   refine asg h13 rfl rfl fun a14 h14 => ?_
   clear hK7 hK8 h12 h13 K7 K8 a12 a13
   refine wpL_nil (hK10 _ _ ?_)
   refine sq fun K11 hK11 => ?_
   obtain ⟨ad1, rfl⟩ := hI1.some_ (by rw [flatMap_len _ 8 nd_len]; omega)
   obtain ⟨ad2, rfl⟩ := hI2.some_ (by rw [flatMap_len _ 8 nd_len]; omega)
   have hIx := In.elem nd_len (by decide) hI1 hx
   have hIy := In.elem nd_len (by decide) hI2 hy
   clear hK10 K10
   refine drw h14 [some 16, some 17, some 18, some 19, some 20, some 21, some 22, some 23, some 24] rfl [Fx (Value.slice (some ad1) l.length c1), Fx (.int .i64 (k : Int)), Fx (.pointer (some (ad1.add ((k : Int).toNat * 8)))), Fx (.agg (ndCells x).toArray), Fx (Value.slice (some ad2) m.length c2), Fx (.int .i64 (k : Int)), Fx (.pointer (some (ad2.add ((k : Int).toNat * 8)))), Fx (.agg (ndCells y).toArray), Fx (.bool (!decide (x = y)))] Kept rfl rfl rfl rfl (drewKept _) keptT (mcons mfx (mcons mfx (mcons mfx (mcons mfx (mcons mfx (mcons mfx (mcons mfx (mcons mfx (mcons mfx mnil))))))))) ⟨?_, ?_, ?_, ?_, ?_, ?_, ?_, ?_, ?_, trivial⟩ ?_
   ·
    intro L a w_ hH hb hR hd ho
    have hl0 := hb 0 _ rfl
    refine mv hH hl0 rfl fun a15 h15 => ?_
    exact wpL_nil ⟨_, h15, Kept.refl _, rfl⟩
   ·
    intro L a w_ hH hb hR hd ho
    have hl5 := hb 5 _ rfl
    refine mv hH hl5 rfl fun a16 h16 => ?_
    exact wpL_nil ⟨_, h16, Kept.refl _, rfl⟩
   ·
    intro L a w_ hH hb hR hd ho
    obtain ⟨_, hl16, rfl⟩ := hd 0 rfl
    obtain ⟨_, hl17, rfl⟩ := hd 1 rfl
    refine ixa hH hl16 hl17 Try.underlying22 Try.sizeOf32 ⟨by omega, by omega⟩ rfl fun a17 h17 => ?_
    exact wpL_nil ⟨_, h17, Kept.refl _, rfl⟩
   ·
    intro L a w_ hH hb hR hd ho
    obtain ⟨_, hl18, rfl⟩ := hd 2 rfl
    replace hIx := hIx.kept hR
    refine ldS hH hIx hl18 Try.isAgg32 Try.sizeOf32 rfl fun a18 h18 => ?_
    exact wpL_nil ⟨_, h18, Kept.refl _, rfl⟩
   ·
    intro L a w_ hH hb hR hd ho
    have hl1 := hb 1 _ rfl
    refine mv hH hl1 rfl fun a19 h19 => ?_
    exact wpL_nil ⟨_, h19, Kept.refl _, rfl⟩
   ·
    intro L a w_ hH hb hR hd ho
    have hl5 := hb 5 _ rfl
    refine mv hH hl5 rfl fun a20 h20 => ?_
    exact wpL_nil ⟨_, h20, Kept.refl _, rfl⟩
   ·
    intro L a w_ hH hb hR hd ho
    obtain ⟨_, hl20, rfl⟩ := hd 4 rfl
    obtain ⟨_, hl21, rfl⟩ := hd 5 rfl
    refine ixa hH hl20 hl21 Try.underlying22 Try.sizeOf32 ⟨by omega, by omega⟩ rfl fun a21 h21 => ?_
    exact wpL_nil ⟨_, h21, Kept.refl _, rfl⟩
   ·
    intro L a w_ hH hb hR hd ho
    obtain ⟨_, hl22, rfl⟩ := hd 6 rfl
    replace hIy := hIy.kept hR
    refine ldS hH hIy hl22 Try.isAgg32 Try.sizeOf32 rfl fun a22 h22 => ?_
    exact wpL_nil ⟨_, h22, Kept.refl _, rfl⟩
   ·
    intro L a w_ hH hb hR hd ho
    obtain ⟨_, hl19, rfl⟩ := hd 3 rfl
    obtain ⟨_, hl23, rfl⟩ := hd 7 rfl
    refine stneq hH (eqND x y) hl19 hl23 eqg32 rfl fun a23 h23 => ?_
    exact wpL_nil ⟨_, h23, Kept.refl _, rfl⟩
   intro L2 a24 w2 h24 hbh24 hRh24 hdh24
   obtain ⟨_, hl16, rfl⟩ := hdh24 0 (by decide)
   obtain ⟨_, hl17, rfl⟩ := hdh24 1 (by decide)
   obtain ⟨_, hl18, rfl⟩ := hdh24 2 (by decide)
   obtain ⟨_, hl19, rfl⟩ := hdh24 3 (by decide)
   obtain ⟨_, hl20, rfl⟩ := hdh24 4 (by decide)
   obtain ⟨_, hl21, rfl⟩ := hdh24 5 (by decide)
   obtain ⟨_, hl22, rfl⟩ := hdh24 6 (by decide)
   obtain ⟨_, hl23, rfl⟩ := hdh24 7 (by decide)
   obtain ⟨_, hl24, rfl⟩ := hdh24 8 (by decide)
   have h25 := Has.under h24 hbh24
   have h26 := (h24.add hl24 (h24.add hl23 (h24.add hl22 (h24.add hl21 (h24.add hl20 (h24.add hl19 (h24.add hl18 (h24.add hl17 (h24.add hl16 h25)))))))))
   clear h25 hl16 hl17 hl18 hl19 hl20 hl21 hl22 hl23 hl24 hbh24 hdh24
   replace hI1 := hI1.kept hRh24
   replace hI2 := hI2.kept hRh24
   replace hB := Kept.trans hB hRh24
   refine hK11 _ _ ?_
   refine spl h26 (d := 24) rfl (fun hb9001 => ?_) (fun hb9001 => ?_)
   ·
    have hp9001 := of_decide_eq_false (bunt hb9001)
    refine cdt h26 rfl (bnf (bunt hb9001)) ?_
    refine sq fun K12 hK12 => ?_
    refine reg [some 4] rfl ?_
    refine asg h26 rfl rfl fun a27 h27 => ?_
    clear hK11 h26 K11
    refine wpL_nil (hK12 _ _ ?_)
    refine rtn (leave h27 (res1 h27 rfl (rvt rfl)) ?_)
    exact ⟨_, rfl, by rw [take_neG hx hy hp9001], hB⟩
   ·
    have hp9001 := of_decide_eq_true (bunf hb9001)
    refine cdf h26 rfl (bnt (bunf hb9001)) ?_
    refine skp (hK9 _ _ ?_)
    refine reg [some 25, some 13] rfl ?_
    refine add h26 rfl rfl rfl (by omega) fun a28 h28 => ?_
    refine mv h28 rfl rfl fun a29 h29 => ?_
    clear hK11 hK9 h26 h28 K11 K9 a28
    refine wpL_nil ?_
    exact ⟨k + 1, ⟨(h29.cons' rfl (h29.cons' rfl (h29.cons' rfl (h29.cons' (lke rfl (by simp)) (h29.nil'))))), by omega, (all_nextG hx hy hq hp9001), hI1, hI2, hB⟩, by omega⟩
  ·
   have hp2 := of_decide_eq_false hb2
   refine cdf h12 rfl hb2 ?_
   refine xit (hK5 _ _ ?_)
   refine sq fun K13 hK13 => ?_
   refine reg [some 4] rfl ?_
   refine asg h12 rfl rfl fun a30 h30 => ?_
   clear hK7 hK5 hK8 h12 K7 K5 K8 a12
   refine wpL_nil (hK13 _ _ ?_)
   refine rtn (leave h30 (res1 h30 rfl (rvt rfl)) ?_)
   exact ⟨_, rfl, by rw [take_eqG hq (by omega) (by omega)], hB⟩

/-- tree.Same -/
theorem c_tsame {S1 S2 : Nat → Prop} (v1 v2 : Value) (l m : List Pl.Nd) (w : World) (hv1 : Sts ndCells S1 w v1 l) (hv2 : Sts ndCells S2 w v2 m) :
  C Try.prog 32 [v1, v2] w fun v w' => v = .bool (decide (l = m)) ∧ Kept w w' := by
 refine enterE Try.func32 rfl 8 rfl rfl fun a0 h0 => ?_
 have hB := Kept.refl w
 refine sq fun K1 hK1 => ?_
 refine reg [some 4] rfl ?_
 refine asg h0 rfl rfl fun a1 h1 => ?_
 clear h0 a0
 refine wpL_nil (hK1 _ _ ?_)
 refine sq fun K2 hK2 => ?_
 refine reg [some 5, some 6, some 7, some 4] rfl ?_
 refine mv h1 rfl rfl fun a2 h2 => ?_
 refine mv h2 rfl rfl fun a3 h3 => ?_
 refine cal h3 Try.call83 rfl (c_eqNd _ _ _ _ _ hv1 hv2) rfl ?_
 rintro v1 w1 a4 ⟨rfl, hk1⟩ h4
 replace hB := Kept.trans hB hk1
 refine asg h4 rfl rfl fun a5 h5 => ?_
 clear hK1 h1 h2 h3 h4 K1 a1 a2 a3 a4
 refine wpL_nil (hK2 _ _ ?_)
 refine rtn (leave h5 (res1 h5 rfl (rvt rfl)) ?_)
 exact ⟨_, rfl, rfl, hB⟩

/-- reelkeeperref06.Same -/
theorem c_same6 {S1 S2 : Nat → Prop} (v1 v2 : Value) (l m : List Pl.Nd) (w : World) (hv1 : Sts ndCells S1 w v1 l) (hv2 : Sts ndCells S2 w v2 m) :
  C Try.prog 66 [v1, v2] w fun v w' => v = .bool (decide (l = m)) ∧ Kept w w' := by
 have hbd := hv1.bound
 obtain ⟨A1, c1, rfl, hc1, hm1, hI1⟩ := hv1
 obtain ⟨A2, c2, rfl, hc2, hm2, hI2⟩ := hv2
 refine enterE Try.func66 rfl 26 rfl rfl fun a0 h0 => ?_
 have hB := Kept.refl w
 refine sq fun K1 hK1 => ?_
 refine reg [some 4] rfl ?_
 refine asg h0 rfl rfl fun a1 h1 => ?_
 clear h0 a0
 refine wpL_nil (hK1 _ _ ?_)
 refine sq fun K2 hK2 => ?_
 refine sq fun K3 hK3 => ?_
 refine reg [some 6, some 7, some 8, some 9, some 10] rfl ?_
 refine mv h1 rfl rfl fun a2 h2 => ?_
 refine lenv h2 rfl Try.underlying22 rfl rfl fun a3 h3 => ?_
 refine mv h3 rfl rfl fun a4 h4 => ?_
 refine lenv h4 rfl Try.underlying22 rfl rfl fun a5 h5 => ?_
 refine ineq h5 rfl rfl rfl fun a6 h6 => ?_
 clear hK1 h1 h2 h3 h4 h5 K1 a1 a2 a3 a4 a5
 refine wpL_nil (hK3 _ _ ?_)
 refine spl h6 (d := 10) rfl (fun hb1 => ?_) (fun hb1 => ?_)
 ·
  have hp1 := of_decide_eq_false (bunt hb1)
  refine cdt h6 rfl (bnf (bunt hb1)) ?_
  refine sq fun K4 hK4 => ?_
  refine reg [some 4] rfl ?_
  refine asg h6 rfl rfl fun a7 h7 => ?_
  clear hK3 h6 K3 a6
  refine wpL_nil (hK4 _ _ ?_)
  refine rtn (leave h7 (res1 h7 rfl (rvt rfl)) ?_)
  exact ⟨_, rfl, by rw [decide_eq_false (fun e => hp1 (by rw [e]))], hB⟩
 ·
  have hp1 := of_decide_eq_true (bunf hb1)
  refine cdf h6 rfl (bnt (bunf hb1)) ?_
  refine skp (hK2 _ _ ?_)
  refine sq fun K5 hK5 => ?_
  refine sq fun K6 hK6 => ?_
  refine reg [some 5] rfl ?_
  refine asg h6 rfl rfl fun a8 h8 => ?_
  clear hK3 hK2 h6 K3 K2 a6
  refine wpL_nil (hK6 _ _ ?_)
  refine blc ?_
  clear hK6 K6
  refine lp (fun (k : Nat) (a : Act) (W : World) => Has [] 26 [(0, Value.slice A1 l.length c1), (1, Value.slice A2 m.length c2), (5, .int .i64 (k : Int))] a ∧ (k ≤ l.length) ∧ (l.take k = m.take k) ∧ (In S1 W A1 (l.flatMap ndCells)) ∧ (In S2 W A2 (m.flatMap ndCells)) ∧ (Kept w W)) (fun (k : Nat) => l.length - k) (0) ⟨(h8.cons' rfl (h8.cons' rfl (h8.cons' rfl (h8.nil')))), Nat.zero_le _, rfl, hI1, hI2, hB⟩ ?_
  clear h8 hI2 hI1 hB
  rintro k a9 w1 ⟨h9, hk, hq, hI1, hI2, hB⟩
  refine sq fun K7 hK7 => ?_
  refine sq fun K8 hK8 => ?_
  refine reg [some 11, some 12, some 13, some 14] rfl ?_
  refine mv h9 rfl rfl fun a10 h10 => ?_
  refine mv h10 rfl rfl fun a11 h11 => ?_
  refine lenv h11 rfl Try.underlying22 rfl rfl fun a12 h12 => ?_
  refine lss h12 rfl rfl rfl fun a13 h13 => ?_
  clear h9 h10 h11 h12 a9 a10 a11 a12
  refine wpL_nil (hK8 _ _ ?_)
  refine spl h13 (d := 14) rfl (fun hb2 => ?_) (fun hb2 => ?_)
  ·
   have hp2 := of_decide_eq_true hb2
   have hlt := of_decide_eq_true hb2
   obtain ⟨x, hx⟩ : ∃ x, l[k]? = some x := ⟨_, List.getElem?_eq_getElem (by omega)⟩
   obtain ⟨y, hy⟩ : ∃ y, m[k]? = some y := ⟨_, List.getElem?_eq_getElem (by omega)⟩
   refine cdt h13 rfl hb2 ?_
   refine skp (hK7 _ _ ?_)
   refine sq fun K9 hK9 => ?_
   refine blc ?_
   refine sq fun K10 hK10 => ?_
   obtain ⟨ad1, rfl⟩ := hI1.some_ (by rw [flatMap_len _ 8 nd_len]; omega)
   obtain ⟨ad2, rfl⟩ := hI2.some_ (by rw [flatMap_len _ 8 nd_len]; omega)
   have hIx := In.elem nd_len (by decide) hI1 hx
   have hIy := In.elem nd_len (by decide) hI2 hy
   clear hK8 hK7 K8 K7
   refine drw h13 [some 17, some 18, some 19, some 20, some 21, some 22, some 23, some 24, some 25] rfl [Fx (Value.slice (some ad1) l.length c1), Fx (.int .i64 (k : Int)), Fx (.pointer (some (ad1.add ((k : Int).toNat * 8)))), Fx (.agg (ndCells x).toArray), Fx (Value.slice (some ad2) m.length c2), Fx (.int .i64 (k : Int)), Fx (.pointer (some (ad2.add ((k : Int).toNat * 8)))), Fx (.agg (ndCells y).toArray), Fx (.bool (!decide (x = y)))] Kept rfl rfl rfl rfl (drewKept _) keptT (mcons mfx (mcons mfx (mcons mfx (mcons mfx (mcons mfx (mcons mfx (mcons mfx (mcons mfx (mcons mfx mnil))))))))) ⟨?_, ?_, ?_, ?_, ?_, ?_, ?_, ?_, ?_, trivial⟩ ?_
   ·
    intro L a w_ hH hb hR hd ho
    have hl0 := hb 0 _ rfl
    refine mv hH hl0 rfl fun a14 h14 => ?_
    exact wpL_nil ⟨_, h14, Kept.refl _, rfl⟩
   ·
    intro L a w_ hH hb hR hd ho
    have hl5 := hb 5 _ rfl
    refine mv hH hl5 rfl fun a15 h15 => ?_
    exact wpL_nil ⟨_, h15, Kept.refl _, rfl⟩
   ·
    intro L a w_ hH hb hR hd ho
    obtain ⟨_, hl17, rfl⟩ := hd 0 rfl
    obtain ⟨_, hl18, rfl⟩ := hd 1 rfl
    refine ixa hH hl17 hl18 Try.underlying22 Try.sizeOf32 ⟨by omega, by omega⟩ rfl fun a16 h16 => ?_
    exact wpL_nil ⟨_, h16, Kept.refl _, rfl⟩
   ·
    intro L a w_ hH hb hR hd ho
    obtain ⟨_, hl19, rfl⟩ := hd 2 rfl
    replace hIx := hIx.kept hR
    refine ldS hH hIx hl19 Try.isAgg32 Try.sizeOf32 rfl fun a17 h17 => ?_
    exact wpL_nil ⟨_, h17, Kept.refl _, rfl⟩
   ·
    intro L a w_ hH hb hR hd ho
    have hl1 := hb 1 _ rfl
    refine mv hH hl1 rfl fun a18 h18 => ?_
    exact wpL_nil ⟨_, h18, Kept.refl _, rfl⟩
   ·
    intro L a w_ hH hb hR hd ho
    have hl5 := hb 5 _ rfl
    refine mv hH hl5 rfl fun a19 h19 => ?_
    exact wpL_nil ⟨_, h19, Kept.refl _, rfl⟩
   ·
    intro L a w_ hH hb hR hd ho
    obtain ⟨_, hl21, rfl⟩ := hd 4 rfl
    obtain ⟨_, hl22, rfl⟩ := hd 5 rfl
    refine ixa hH hl21 hl22 Try.underlying22 Try.sizeOf32 ⟨by omega, by omega⟩ rfl fun a20 h20 => ?_
    exact wpL_nil ⟨_, h20, Kept.refl _, rfl⟩
   ·
    intro L a w_ hH hb hR hd ho
    obtain ⟨_, hl23, rfl⟩ := hd 6 rfl
    replace hIy := hIy.kept hR
    refine ldS hH hIy hl23 Try.isAgg32 Try.sizeOf32 rfl fun a21 h21 => ?_
    exact wpL_nil ⟨_, h21, Kept.refl _, rfl⟩
   ·
    intro L a w_ hH hb hR hd ho
    obtain ⟨_, hl20, rfl⟩ := hd 3 rfl
    obtain ⟨_, hl24, rfl⟩ := hd 7 rfl
    refine stneq hH (eqND x y) hl20 hl24 eqg32 rfl fun a22 h22 => ?_
    exact wpL_nil ⟨_, h22, Kept.refl _, rfl⟩
   intro L2 a23 w2 h23 hbh23 hRh23 hdh23
   obtain ⟨_, hl17, rfl⟩ := hdh23 0 (by decide)
   obtain ⟨_, hl18, rfl⟩ := hdh23 1 (by decide)
   obtain ⟨_, hl19, rfl⟩ := hdh23 2 (by decide)
   obtain ⟨_, hl20, rfl⟩ := hdh23 3 (by decide)
   obtain ⟨_, hl21, rfl⟩ := hdh23 4 (by decide)
   obtain ⟨_, hl22, rfl⟩ := hdh23 5 (by decide)
   obtain ⟨_, hl23, rfl⟩ := hdh23 6 (by decide)
   obtain ⟨_, hl24, rfl⟩ := hdh23 7 (by decide)
   obtain ⟨_, hl25, rfl⟩ := hdh23 8 (by decide)
   have h24 := Has.under h23 hbh23
   have h25 := (h23.add hl25 (h23.add hl24 (h23.add hl23 (h23.add hl22 (h23.add hl21 (h23.add hl20 (h23.add hl19 (h23.add hl18 (h23.add hl17 h24)))))))))
   clear h24 hl17 hl18 hl19 hl20 hl21 hl22 hl23 hl24 hl25 hbh23 hdh23
   replace hI1 := hI1.kept hRh23
   replace hI2 := hI2.kept hRh23
   replace hB := Kept.trans hB hRh23
   refine hK10 _ _ ?_
   refine spl h25 (d := 25) rfl (fun hb9001 => ?_) (fun hb9001 => ?_)
   ·
    have hp9001 := of_decide_eq_false (bunt hb9001)
    refine cdt h25 rfl (bnf (bunt hb9001)) ?_
    refine sq fun K11 hK11 => ?_
    refine reg [some 4] rfl ?_
    refine asg h25 rfl rfl fun a26 h26 => ?_
    clear hK10 h25 K10
    refine wpL_nil (hK11 _ _ ?_)
    refine rtn (leave h26 (res1 h26 rfl (rvt rfl)) ?_)
    exact ⟨_, rfl, by rw [take_neG hx hy hp9001], hB⟩
   ·
    have hp9001 := of_decide_eq_true (bunf hb9001)
    refine cdf h25 rfl (bnt (bunf hb9001)) ?_
    refine skp (hK9 _ _ ?_)
    refine reg [some 15, some 16, some 5] rfl ?_
    refine mv h25 rfl rfl fun a27 h27 => ?_
    refine add h27 rfl rfl rfl (by omega) fun a28 h28 => ?_
    refine asg h28 rfl rfl fun a29 h29 => ?_
    clear hK10 hK9 h25 h27 h28 K10 K9 a27 a28
    refine wpL_nil ?_
    exact ⟨k + 1, ⟨(h29.cons' rfl (h29.cons' rfl (h29.cons' (lke rfl (by simp)) (h29.nil')))), by omega, (all_nextG hx hy hq hp9001), hI1, hI2, hB⟩, by omega⟩
  ·
   have hp2 := of_decide_eq_false hb2
   refine cdf h13 rfl hb2 ?_
   refine xit (hK5 _ _ ?_)
   refine sq fun K12 hK12 => ?_
   refine reg [some 4] rfl ?_
   refine asg h13 rfl rfl fun a30 h30 => ?_
   clear hK8 hK5 hK7 h13 K8 K5 K7 a13
   refine wpL_nil (hK12 _ _ ?_)
   refine rtn (leave h30 (res1 h30 rfl (rvt rfl)) ?_)
   exact ⟨_, rfl, by rw [take_eqG hq (by omega) (by omega)], hB⟩

end Go.Proofs.Ytpgeogdmjgmimaa
