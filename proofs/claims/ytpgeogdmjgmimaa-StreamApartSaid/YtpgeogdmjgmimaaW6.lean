/-
  Walks, written by wip/gen/gen.py.
-/
import Derived.Test.YtpgeogdmjgmimaaK12
import Derived.Test.YtpgeogdmjgmimaaW5
import Derived.Test.YtpgeogdmjgmimaaPBlk
set_option linter.unusedVariables false
set_option linter.unusedSimpArgs false
set_option maxRecDepth 4000
namespace Go.Proofs.Ytpgeogdmjgmimaa
open Go Go.RowKit K

theorem noneB {b : List UInt8} {k : Nat} {f : UInt8 → Bool} {x : UInt8} (hx : b[k]? = some x) (hf : f x = true) : b.any f = true := by
  rw [List.any_eq_true]; exact ⟨x, List.mem_of_getElem? hx, hf⟩
theorem any_next {α : Type} {l : List α} {f : α → Bool} {k : Nat} {x : α} (h : (l.take k).any f = false) (hx : l[k]? = some x) (hf : f x = false) : (l.take (k + 1)).any f = false := by
  rw [List.take_add_one, hx, List.any_append, h]; simpa using hf
theorem any_at {α : Type} {l : List α} {k : Nat} {f : α → Bool} {x : α} (hx : l[k]? = some x) (hf : f x = true) : l.any f = true := by
  rw [List.any_eq_true]; exact ⟨x, List.mem_of_getElem? hx, hf⟩
theorem not_any_zero (b : List UInt8) : (!b.any fun c => !decide (c = 0)) = Pl.zeroB b := by
  unfold Pl.zeroB; rw [List.not_any_eq_all_not]; simp
theorem not_any_may (l : List (List UInt8)) : (!l.any fun r => !decide (r.length = 512)) = Pl.mayB l := by
  unfold Pl.mayB; rw [List.not_any_eq_all_not]; simp
theorem u8zero (x : UInt8) : (!decide ((x.toNat : Int) = 0)) = !decide (x = 0) := by
  congr 1; rw [decide_eq_decide]; constructor
  · intro h; exact UInt8.toNat_inj.1 (by show x.toNat = 0; omega)
  · rintro rfl; rfl
theorem len512 (m : Nat) : (!decide ((m : Int) = 512)) = !decide (m = 512) := by
  congr 1; rw [decide_eq_decide]; omega
theorem pad_eq {x : List UInt8} (hx : x.length ≤ 512) : List.take 0 (List.replicate 512 (Value.int .u8 0)) ++ (x.take 512).map u8 ++ List.drop (0 + min x.length 512) (List.replicate 512 (Value.int .u8 0)) = (Pl.pad x).map u8 := by
  rw [List.take_of_length_le hx, Nat.min_eq_left hx]
  simp [-List.reduceReplicate, Pl.pad, u8]
theorem take_take_all {α : Type} {l : List α} {k : Nat} (h : l.length ≤ k) : l.take k = l := List.take_of_length_le h
theorem text_none {l : List (List UInt8)} {n : Int} (h : n < 0 ∨ (!Pl.mayB l) = true ∨ ¬ Pl.many n = l.length) : Pl.textB l n = none := by
  rw [Pl.textB, if_pos (by simpa using h)]
theorem text_some {l : List (List UInt8)} {n : Int} (h1 : ¬ n < 0) (h2 : (!Pl.mayB l) = false) (h3 : Pl.many n = l.length) : Pl.textB l n = some (l.flatten.take n.toNat) := by
  rw [Pl.textB, if_neg (by simp at h2; simp [h2, h3]; omega)]
def textV (o : Option (List UInt8)) : Value := .tuple #[str (o.getD []), .bool o.isSome]

/-- block.Zero$1 -/
theorem c_zero1 (x : UInt8) (w : World) :
  C Try.prog 82 [u8 x] w fun v w' => v = .bool (!decide (x = 0)) ∧ w = w' := by
 refine enterE Try.func82 rfl 5 rfl rfl fun a0 h0 => ?_
 have hB := Kept.refl w
 refine sq fun K1 hK1 => ?_
 refine reg [some 2] rfl ?_
 refine asg h0 rfl rfl fun a1 h1 => ?_
 clear h0 a0
 refine wpL_nil (hK1 _ _ ?_)
 refine sq fun K2 hK2 => ?_
 refine reg [some 3, some 4, some 2] rfl ?_
 refine mv h1 rfl rfl fun a2 h2 => ?_
 refine ineq h2 rfl rfl rfl fun a3 h3 => ?_
 refine asg h3 rfl rfl fun a4 h4 => ?_
 clear hK1 h1 h2 h3 K1 a1 a2 a3
 refine wpL_nil (hK2 _ _ ?_)
 refine rtn (leave h4 (res1 h4 rfl (rvt rfl)) ?_)
 exact ⟨_, rfl, by rw [← u8zero], rfl⟩

/-- slices.IndexFunc[[]byte,byte] -/
theorem c_indexZero {S : Nat → Prop} (v : Value) (b : List UInt8) (w : World) (hv : Byt S w v b) :
  C Try.prog 134 [v, .func (.func 82) #[] #[]] w fun v w' => (∃ z : Int, v = .int .i64 z ∧ decide (0 ≤ z) = b.any (fun c => !decide (c = 0))) ∧ Kept w w' := by
 have hbd := hv.bound
 refine enterE Try.func134 rfl 19 rfl rfl fun a0 h0 => ?_
 have hB := Kept.refl w
 refine sq fun K1 hK1 => ?_
 refine reg [some 4] rfl ?_
 refine asg h0 rfl rfl fun a1 h1 => ?_
 clear h0 a0
 refine wpL_nil (hK1 _ _ ?_)
 refine sq fun K2 hK2 => ?_
 refine sq fun K3 hK3 => ?_
 refine reg [some 6, some 7, some 8] rfl ?_
 refine mv h1 rfl rfl fun a2 h2 => ?_
 refine lnx h2 rfl Try.underlying35 rfl hv.isl rfl fun a3 h3 => ?_
 refine mv h3 rfl rfl fun a4 h4 => ?_
 clear hK1 h1 h2 h3 K1 a1 a2 a3
 refine wpL_nil (hK3 _ _ ?_)
 refine blc ?_
 clear hK3 K3
 refine lp (fun (k : Nat) (a : Act) (W : World) => Has [] 19 [(0, v), (1, .func (.func 82) #[] #[]), (7, .int .i64 (b.length : Int)), (8, .int .i64 (k : Int))] a ∧ (k ≤ b.length) ∧ ((b.take k).any (fun c => !decide (c = 0)) = false) ∧ (Byt S W v b) ∧ (Kept w W)) (fun (k : Nat) => b.length - k) (0) ⟨(h4.cons' rfl (h4.cons' rfl (h4.cons' rfl (h4.cons' rfl (h4.nil'))))), Nat.zero_le _, rfl, hv, hB⟩ ?_
 clear h4 hv hB
 rintro k a5 w1 ⟨h5, hk, hq, hv, hB⟩
 refine sq fun K4 hK4 => ?_
 refine reg [some 9] rfl ?_
 refine lss h5 rfl rfl rfl fun a6 h6 => ?_
 clear h5 a5
 refine wpL_nil (hK4 _ _ ?_)
 refine sq fun K5 hK5 => ?_
 refine spl h6 (d := 9) rfl (fun hb1 => ?_) (fun hb1 => ?_)
 ·
  have hp1 := of_decide_eq_true hb1
  obtain ⟨x, hx⟩ : ∃ x, b[k]? = some x := ⟨_, List.getElem?_eq_getElem (by have := of_decide_eq_true hb1; omega)⟩
  refine cdt h6 rfl hb1 ?_
  refine skp (hK5 _ _ ?_)
  refine sq fun K6 hK6 => ?_
  refine blc ?_
  refine sq fun K7 hK7 => ?_
  refine reg [some 10, some 5] rfl ?_
  refine mv h6 rfl rfl fun a7 h7 => ?_
  refine asg h7 rfl rfl fun a8 h8 => ?_
  clear hK4 hK5 h6 h7 K4 K5 a6 a7
  refine wpL_nil (hK7 _ _ ?_)
  refine sq fun K8 hK8 => ?_
  refine reg [some 11, some 12, some 13, some 14, some 15, some 16] rfl ?_
  refine mv h8 rfl rfl fun a9 h9 => ?_
  refine mv h9 rfl rfl fun a10 h10 => ?_
  refine mv h10 rfl rfl fun a11 h11 => ?_
  refine ixB (k := k) hv h11 rfl rfl Try.underlying35 Try.sizeOf5 Try.isAgg5 (by simp) (hx) rfl rfl fun a12 z14 h12 => ?_
  refine clv h12 rfl Try.call82 rfl _ rfl (c_zero1 _ _) rfl ?_
  rintro v2 w2 a13 ⟨rfl, rfl⟩ h13
  clear hK7 h8 h9 h10 h11 h12 K7 a8 a9 a10 a11 a12
  refine wpL_nil (hK8 _ _ ?_)
  refine spl h13 (d := 16) rfl (fun hb2 => ?_) (fun hb2 => ?_)
  ·
   refine cdt h13 rfl hb2 ?_
   refine sq fun K9 hK9 => ?_
   refine reg [some 17, some 4] rfl ?_
   refine mv h13 rfl rfl fun a14 h14 => ?_
   refine asg h14 rfl rfl fun a15 h15 => ?_
   clear hK8 h13 h14 K8 a13 a14
   refine wpL_nil (hK9 _ _ ?_)
   refine rtn (leave h15 (res1 h15 rfl (rvt rfl)) ?_)
   exact ⟨_, rfl, ⟨_, rfl, by rw [any_at hx (by simpa using hb2)]; simp⟩, hB⟩
  ·
   refine cdf h13 rfl hb2 ?_
   refine skp (hK6 _ _ ?_)
   refine reg [some 18, some 8] rfl ?_
   refine add h13 rfl rfl rfl (by omega) fun a16 h16 => ?_
   refine mv h16 rfl rfl fun a17 h17 => ?_
   clear hK8 hK6 h13 h16 K8 K6 a13 a16
   refine wpL_nil ?_
   exact ⟨k + 1, ⟨(h17.cons' rfl (h17.cons' rfl (h17.cons' rfl (h17.cons' (lke rfl (by simp)) (h17.nil'))))), by omega, (any_next hq hx (by simpa using hb2)), hv, hB⟩, by omega⟩
 ·
  have hp1 := of_decide_eq_false hb1
  refine cdf h6 rfl hb1 ?_
  refine xit (hK2 _ _ ?_)
  refine sq fun K10 hK10 => ?_
  refine reg [some 4] rfl ?_
  refine asg h6 rfl rfl fun a18 h18 => ?_
  clear hK4 hK2 hK5 h6 K4 K2 K5 a6
  refine wpL_nil (hK10 _ _ ?_)
  refine rtn (leave h18 (res1 h18 rfl (rvt rfl)) ?_)
  exact ⟨_, rfl, ⟨_, rfl, by rw [take_take_all (by omega)] at hq; rw [hq]; simp⟩, hB⟩

/-- block.May$1 -/
theorem c_may1 {S : Nat → Prop} (v : Value) (b : List UInt8) (w : World) (hv : Byt S w v b) :
  C Try.prog 97 [v] w fun v w' => v = .bool (!decide (b.length = 512)) ∧ w = w' := by
 refine enterE Try.func97 rfl 6 rfl rfl fun a0 h0 => ?_
 have hB := Kept.refl w
 refine sq fun K1 hK1 => ?_
 refine reg [some 2] rfl ?_
 refine asg h0 rfl rfl fun a1 h1 => ?_
 clear h0 a0
 refine wpL_nil (hK1 _ _ ?_)
 refine sq fun K2 hK2 => ?_
 refine reg [some 3, some 4, some 5, some 2] rfl ?_
 refine mv h1 rfl rfl fun a2 h2 => ?_
 refine lnx h2 rfl Try.underlying35 rfl hv.isl rfl fun a3 h3 => ?_
 refine ineq h3 rfl rfl rfl fun a4 h4 => ?_
 refine asg h4 rfl rfl fun a5 h5 => ?_
 clear hK1 h1 h2 h3 h4 K1 a1 a2 a3 a4
 refine wpL_nil (hK2 _ _ ?_)
 refine rtn (leave h5 (res1 h5 rfl (rvt rfl)) ?_)
 exact ⟨_, rfl, by rw [← len512], rfl⟩

/-- slices.IndexFunc[[][]byte,[]byte] -/
theorem c_indexMay {S : Nat → Prop} (v : Value) (b : List (List UInt8)) (w : World) (hv : Rws S w v b) :
  C Try.prog 144 [v, .func (.func 97) #[] #[]] w fun v w' => (∃ z : Int, v = .int .i64 z ∧ decide (0 ≤ z) = b.any (fun r => !decide (r.length = 512))) ∧ Kept w w' := by
 have hbd := hv.bound
 refine enterE Try.func144 rfl 19 rfl rfl fun a0 h0 => ?_
 have hB := Kept.refl w
 refine sq fun K1 hK1 => ?_
 refine reg [some 4] rfl ?_
 refine asg h0 rfl rfl fun a1 h1 => ?_
 clear h0 a0
 refine wpL_nil (hK1 _ _ ?_)
 refine sq fun K2 hK2 => ?_
 refine sq fun K3 hK3 => ?_
 refine reg [some 6, some 7, some 8] rfl ?_
 refine mv h1 rfl rfl fun a2 h2 => ?_
 refine lnx h2 rfl Try.underlying25 rfl hv.isl rfl fun a3 h3 => ?_
 refine mv h3 rfl rfl fun a4 h4 => ?_
 clear hK1 h1 h2 h3 K1 a1 a2 a3
 refine wpL_nil (hK3 _ _ ?_)
 refine blc ?_
 clear hK3 K3
 refine lp (fun (k : Nat) (a : Act) (W : World) => Has [] 19 [(0, v), (1, .func (.func 97) #[] #[]), (7, .int .i64 (b.length : Int)), (8, .int .i64 (k : Int))] a ∧ (k ≤ b.length) ∧ ((b.take k).any (fun r => !decide (r.length = 512)) = false) ∧ (Rws S W v b) ∧ (Kept w W)) (fun (k : Nat) => b.length - k) (0) ⟨(h4.cons' rfl (h4.cons' rfl (h4.cons' rfl (h4.cons' rfl (h4.nil'))))), Nat.zero_le _, rfl, hv, hB⟩ ?_
 clear h4 hv hB
 rintro k a5 w1 ⟨h5, hk, hq, hv, hB⟩
 refine sq fun K4 hK4 => ?_
 refine reg [some 9] rfl ?_
 refine lss h5 rfl rfl rfl fun a6 h6 => ?_
 clear h5 a5
 refine wpL_nil (hK4 _ _ ?_)
 refine sq fun K5 hK5 => ?_
 refine spl h6 (d := 9) rfl (fun hb1 => ?_) (fun hb1 => ?_)
 ·
  have hp1 := of_decide_eq_true hb1
  obtain ⟨x, hx⟩ : ∃ x, b[k]? = some x := ⟨_, List.getElem?_eq_getElem (by have := of_decide_eq_true hb1; omega)⟩
  refine cdt h6 rfl hb1 ?_
  refine skp (hK5 _ _ ?_)
  refine sq fun K6 hK6 => ?_
  refine blc ?_
  refine sq fun K7 hK7 => ?_
  refine reg [some 10, some 5] rfl ?_
  refine mv h6 rfl rfl fun a7 h7 => ?_
  refine asg h7 rfl rfl fun a8 h8 => ?_
  clear hK4 hK5 h6 h7 K4 K5 a6 a7
  refine wpL_nil (hK7 _ _ ?_)
  refine sq fun K8 hK8 => ?_
  refine reg [some 11, some 12, some 13, some 14, some 15, some 16] rfl ?_
  refine mv h8 rfl rfl fun a9 h9 => ?_
  refine mv h9 rfl rfl fun a10 h10 => ?_
  refine mv h10 rfl rfl fun a11 h11 => ?_
  refine ixR (k := k) hv h11 rfl rfl Try.underlying25 Try.sizeOf35 Try.isAgg35 (by simp) (hx) rfl rfl fun a12 z14 v15' h12 hs15 => ?_
  refine clv h12 rfl Try.call97 rfl _ rfl (c_may1 _ _ _ hs15) rfl ?_
  rintro v2 w2 a13 ⟨rfl, rfl⟩ h13
  clear hK7 h8 h9 h10 h11 h12 K7 a8 a9 a10 a11 a12
  refine wpL_nil (hK8 _ _ ?_)
  refine spl h13 (d := 16) rfl (fun hb2 => ?_) (fun hb2 => ?_)
  ·
   refine cdt h13 rfl hb2 ?_
   refine sq fun K9 hK9 => ?_
   refine reg [some 17, some 4] rfl ?_
   refine mv h13 rfl rfl fun a14 h14 => ?_
   refine asg h14 rfl rfl fun a15 h15 => ?_
   clear hK8 h13 h14 K8 a13 a14
   refine wpL_nil (hK9 _ _ ?_)
   refine rtn (leave h15 (res1 h15 rfl (rvt rfl)) ?_)
   exact ⟨_, rfl, ⟨_, rfl, by rw [any_at hx (by simpa using hb2)]; simp⟩, hB⟩
  ·
   refine cdf h13 rfl hb2 ?_
   refine skp (hK6 _ _ ?_)
   refine reg [some 18, some 8] rfl ?_
   refine add h13 rfl rfl rfl (by omega) fun a16 h16 => ?_
   refine mv h16 rfl rfl fun a17 h17 => ?_
   clear hK8 hK6 h13 h16 K8 K6 a13 a16
   refine wpL_nil ?_
   exact ⟨k + 1, ⟨(h17.cons' rfl (h17.cons' rfl (h17.cons' rfl (h17.cons' (lke rfl (by simp)) (h17.nil'))))), by omega, (any_next hq hx (by simpa using hb2)), hv, hB⟩, by omega⟩
 ·
  have hp1 := of_decide_eq_false hb1
  refine cdf h6 rfl hb1 ?_
  refine xit (hK2 _ _ ?_)
  refine sq fun K10 hK10 => ?_
  refine reg [some 4] rfl ?_
  refine asg h6 rfl rfl fun a18 h18 => ?_
  clear hK4 hK2 hK5 h6 K4 K2 K5 a6
  refine wpL_nil (hK10 _ _ ?_)
  refine rtn (leave h18 (res1 h18 rfl (rvt rfl)) ?_)
  exact ⟨_, rfl, ⟨_, rfl, by rw [take_take_all (by omega)] at hq; rw [hq]; simp⟩, hB⟩

/-- slices.ContainsFunc[[]byte,byte] -/
theorem c_hasZero {S : Nat → Prop} (v : Value) (b : List UInt8) (w : World) (hv : Byt S w v b) :
  C Try.prog 81 [v, .func (.func 82) #[] #[]] w fun v w' => v = .bool (b.any (fun c => !decide (c = 0))) ∧ Kept w w' := by
 refine enterE Try.func81 rfl 9 rfl rfl fun a0 h0 => ?_
 have hB := Kept.refl w
 refine sq fun K1 hK1 => ?_
 refine reg [some 4] rfl ?_
 refine asg h0 rfl rfl fun a1 h1 => ?_
 clear h0 a0
 refine wpL_nil (hK1 _ _ ?_)
 refine sq fun K2 hK2 => ?_
 refine reg [some 5, some 6, some 7, some 8, some 4] rfl ?_
 refine mv h1 rfl rfl fun a2 h2 => ?_
 refine mv h2 rfl rfl fun a3 h3 => ?_
 refine cal h3 Try.call134 rfl (c_indexZero _ _ _ hv) rfl ?_
 rintro v1 w1 a4 ⟨⟨z, rfl, hz⟩, hk1⟩ h4
 replace hB := Kept.trans hB hk1
 refine geq h4 rfl rfl rfl fun a5 h5 => ?_
 refine asg h5 rfl rfl fun a6 h6 => ?_
 clear hK1 h1 h2 h3 h4 h5 K1 a1 a2 a3 a4 a5
 refine wpL_nil (hK2 _ _ ?_)
 refine rtn (leave h6 (res1 h6 rfl (rvt rfl)) ?_)
 exact ⟨_, rfl, by rw [hz], hB⟩

/-- slices.ContainsFunc[[][]byte,[]byte] -/
theorem c_hasMay {S : Nat → Prop} (v : Value) (b : List (List UInt8)) (w : World) (hv : Rws S w v b) :
  C Try.prog 96 [v, .func (.func 97) #[] #[]] w fun v w' => v = .bool (b.any (fun r => !decide (r.length = 512))) ∧ Kept w w' := by
 refine enterE Try.func96 rfl 9 rfl rfl fun a0 h0 => ?_
 have hB := Kept.refl w
 refine sq fun K1 hK1 => ?_
 refine reg [some 4] rfl ?_
 refine asg h0 rfl rfl fun a1 h1 => ?_
 clear h0 a0
 refine wpL_nil (hK1 _ _ ?_)
 refine sq fun K2 hK2 => ?_
 refine reg [some 5, some 6, some 7, some 8, some 4] rfl ?_
 refine mv h1 rfl rfl fun a2 h2 => ?_
 refine mv h2 rfl rfl fun a3 h3 => ?_
 refine cal h3 Try.call144 rfl (c_indexMay _ _ _ hv) rfl ?_
 rintro v1 w1 a4 ⟨⟨z, rfl, hz⟩, hk1⟩ h4
 replace hB := Kept.trans hB hk1
 refine geq h4 rfl rfl rfl fun a5 h5 => ?_
 refine asg h5 rfl rfl fun a6 h6 => ?_
 clear hK1 h1 h2 h3 h4 h5 K1 a1 a2 a3 a4 a5
 refine wpL_nil (hK2 _ _ ?_)
 refine rtn (leave h6 (res1 h6 rfl (rvt rfl)) ?_)
 exact ⟨_, rfl, by rw [hz], hB⟩

/-- block.Zero -/
theorem c_zero {S : Nat → Prop} (v : Value) (b : List UInt8) (w : World) (hv : Byt S w v b) :
  C Try.prog 31 [v] w fun v w' => v = .bool (Pl.zeroB b) ∧ Kept w w' := by
 refine enterE Try.func31 rfl 6 rfl rfl fun a0 h0 => ?_
 have hB := Kept.refl w
 refine sq fun K1 hK1 => ?_
 refine reg [some 2] rfl ?_
 refine asg h0 rfl rfl fun a1 h1 => ?_
 clear h0 a0
 refine wpL_nil (hK1 _ _ ?_)
 refine sq fun K2 hK2 => ?_
 refine reg [some 3, some 4, some 5, some 2] rfl ?_
 refine mv h1 rfl rfl fun a2 h2 => ?_
 refine cal h2 Try.call81 rfl (c_hasZero _ _ _ hv) rfl ?_
 rintro v1 w1 a3 ⟨rfl, hk1⟩ h3
 replace hB := Kept.trans hB hk1
 refine unot h3 rfl rfl fun a4 h4 => ?_
 refine asg h4 rfl rfl fun a5 h5 => ?_
 clear hK1 h1 h2 h3 h4 K1 a1 a2 a3 a4
 refine wpL_nil (hK2 _ _ ?_)
 refine rtn (leave h5 (res1 h5 rfl (rvt rfl)) ?_)
 exact ⟨_, rfl, by rw [not_any_zero], hB⟩

/-- block.May -/
theorem c_bmay {S : Nat → Prop} (v : Value) (l : List (List UInt8)) (w : World) (hv : Rws S w v l) :
  C Try.prog 38 [v] w fun v w' => v = .bool (Pl.mayB l) ∧ Kept w w' := by
 refine enterE Try.func38 rfl 6 rfl rfl fun a0 h0 => ?_
 have hB := Kept.refl w
 refine sq fun K1 hK1 => ?_
 refine reg [some 2] rfl ?_
 refine asg h0 rfl rfl fun a1 h1 => ?_
 clear h0 a0
 refine wpL_nil (hK1 _ _ ?_)
 refine sq fun K2 hK2 => ?_
 refine reg [some 3, some 4, some 5, some 2] rfl ?_
 refine mv h1 rfl rfl fun a2 h2 => ?_
 refine cal h2 Try.call96 rfl (c_hasMay _ _ _ hv) rfl ?_
 rintro v1 w1 a3 ⟨rfl, hk1⟩ h3
 replace hB := Kept.trans hB hk1
 refine unot h3 rfl rfl fun a4 h4 => ?_
 refine asg h4 rfl rfl fun a5 h5 => ?_
 clear hK1 h1 h2 h3 h4 K1 a1 a2 a3 a4
 refine wpL_nil (hK2 _ _ ?_)
 refine rtn (leave h5 (res1 h5 rfl (rvt rfl)) ?_)
 exact ⟨_, rfl, by rw [not_any_may], hB⟩

/-- slices.Grow[[]byte,byte] -/
theorem c_growB (m : Nat) (w : World) (hm : m ≤ 1000000000000) :
  C Try.prog 177 [.slice none 0 0, .int .i64 (m : Int)] w fun v w' => K.Own w.heap.size w' v 5 1 [] ∧ Kept w w' := by
 refine enterE Try.func177 rfl 27 rfl rfl fun a0 h0 => ?_
 have hB := Kept.refl w
 refine sq fun K1 hK1 => ?_
 refine reg [some 4] rfl ?_
 refine asg h0 rfl rfl fun a1 h1 => ?_
 clear h0 a0
 refine wpL_nil (hK1 _ _ ?_)
 refine sq fun K2 hK2 => ?_
 refine sq fun K3 hK3 => ?_
 refine reg [some 5, some 6] rfl ?_
 refine mv h1 rfl rfl fun a2 h2 => ?_
 refine lss h2 rfl rfl rfl fun a3 h3 => ?_
 clear hK1 h1 h2 K1 a1 a2
 refine wpL_nil (hK3 _ _ ?_)
 refine knownF h3 (d := 6) rfl (decide_eq_false (by omega)) fun hb1 => ?_
 have hp1 := of_decide_eq_false hb1
 refine cdf h3 rfl hb1 ?_
 refine skp (hK2 _ _ ?_)
 refine sq fun K4 hK4 => ?_
 refine sq fun K5 hK5 => ?_
 refine reg [some 8, some 9, some 10, some 11, some 12, some 13, some 14, some 1] rfl ?_
 refine mv h3 rfl rfl fun a4 h4 => ?_
 refine mv h4 rfl rfl fun a5 h5 => ?_
 refine capv h5 rfl Try.underlying35 rfl rfl fun a6 h6 => ?_
 refine mv h6 rfl rfl fun a7 h7 => ?_
 refine lenv h7 rfl Try.underlying35 rfl rfl fun a8 h8 => ?_
 refine sub h8 rfl rfl rfl (by omega) fun a9 h9 => ?_
 refine sub h9 rfl rfl rfl (by omega) fun a10 h10 => ?_
 refine asg h10 rfl rfl fun a11 h11 => ?_
 clear hK3 hK2 h3 h4 h5 h6 h7 h8 h9 h10 K3 K2 a3 a4 a5 a6 a7 a8 a9 a10
 refine wpL_nil (hK5 _ _ ?_)
 refine sq fun K6 hK6 => ?_
 refine reg [some 15, some 16] rfl ?_
 refine mv h11 rfl rfl fun a12 h12 => ?_
 refine gtr h12 rfl rfl rfl fun a13 h13 => ?_
 clear hK5 h11 h12 K5 a11 a12
 refine wpL_nil (hK6 _ _ ?_)
 refine spl h13 (d := 16) rfl (fun hb2 => ?_) (fun hb2 => ?_)
 ·
  have hp2 := of_decide_eq_true hb2
  refine cdt h13 rfl hb2 ?_
  refine reg [some 17, some 18, some 19, some 20, some 21, some 22, some 23, some 24, some 25, some 0] rfl ?_
  refine mv h13 rfl rfl fun a14 h14 => ?_
  refine mv h14 rfl rfl fun a15 h15 => ?_
  refine capv h15 rfl Try.underlying35 rfl rfl fun a16 h16 => ?_
  refine slv (0) (0) h16 Try.underlying35 rfl Try.sizeOf5 rfl ⟨_, rfl, by first | omega | (simp; omega)⟩ (by omega) (by omega) rfl fun a17 h17 => ?_
  refine mv h17 rfl rfl fun a18 h18 => ?_
  refine apz h18 (m := m) rfl rfl (by omega) Try.underlying35 Try.underlying3 Try.type5 rfl rfl rfl (by omega) (by show m * 1 ≤ _; omega) (by omega) rfl fun a19 w1 gq cq csq h19 hk1 hzq hc1 hc2 hc3 hgq => ?_
  replace hB := Kept.trans hB hk1
  refine mv h19 rfl rfl fun a20 h20 => ?_
  refine lenv h20 rfl Try.underlying35 rfl rfl fun a21 h21 => ?_
  refine slv (0) (0) h21 Try.underlying35 rfl Try.sizeOf5 rfl ⟨_, rfl, by first | omega | (simp; omega)⟩ (by omega) (by omega) rfl fun a22 h22 => ?_
  refine asg h22 rfl rfl fun a23 h23 => ?_
  clear hK6 h13 h14 h15 h16 h17 h18 h19 h20 h21 h22 K6 a13 a14 a15 a16 a17 a18 a19 a20 a21 a22
  refine wpL_nil (hK4 _ _ ?_)
  refine sq fun K7 hK7 => ?_
  refine reg [some 26, some 4] rfl ?_
  refine mv h23 rfl rfl fun a24 h24 => ?_
  refine asg h24 rfl rfl fun a25 h25 => ?_
  clear hK4 h23 h24 K4 a23 a24
  refine wpL_nil (hK7 _ _ ?_)
  refine rtn (leave h25 (res1 h25 rfl (rvt rfl)) ?_)
  exact ⟨_, rfl, Own.empty hzq hgq hc3 (by omega) hc2, hB⟩
 ·
  have hp2 := of_decide_eq_false hb2
  refine cdf h13 rfl hb2 ?_
  refine skp (hK4 _ _ ?_)
  refine sq fun K8 hK8 => ?_
  refine reg [some 26, some 4] rfl ?_
  refine mv h13 rfl rfl fun a26 h26 => ?_
  refine asg h26 rfl rfl fun a27 h27 => ?_
  clear hK6 hK4 h13 h26 K6 K4 a13 a26
  refine wpL_nil (hK8 _ _ ?_)
  refine rtn (leave h27 (res1 h27 rfl (rvt rfl)) ?_)
  exact ⟨_, rfl, Own.nil _ _ _ _, hB⟩

/-- slices.Concat[[]byte,byte] -/
theorem c_concatB {S : Nat → Prop} (v : Value) (l : List (List UInt8)) (w : World) (hv : Rws S w v l) (hl : l.flatten.length ≤ 1000000000000) :
  C Try.prog 143 [v] w fun v w' => K.Own w.heap.size w' v 5 1 (l.flatten.map u8) ∧ Kept w w' := by
 have hbd := hv.bound
 replace hv := hv.old
 refine enterE Try.func143 rfl 36 rfl rfl fun a0 h0 => ?_
 have hB := Kept.refl w
 refine sq fun K1 hK1 => ?_
 refine reg [some 2] rfl ?_
 refine asg h0 rfl rfl fun a1 h1 => ?_
 clear h0 a0
 refine wpL_nil (hK1 _ _ ?_)
 refine sq fun K2 hK2 => ?_
 refine reg [some 3] rfl ?_
 refine asg h1 rfl rfl fun a2 h2 => ?_
 clear hK1 h1 K1 a1
 refine wpL_nil (hK2 _ _ ?_)
 refine sq fun K3 hK3 => ?_
 refine sq fun K4 hK4 => ?_
 refine reg [some 9, some 10, some 11] rfl ?_
 refine mv h2 rfl rfl fun a3 h3 => ?_
 refine lnx h3 rfl Try.underlying25 rfl hv.isl rfl fun a4 h4 => ?_
 refine mv h4 rfl rfl fun a5 h5 => ?_
 clear hK2 h2 h3 h4 K2 a2 a3 a4
 refine wpL_nil (hK4 _ _ ?_)
 refine blc ?_
 clear hK4 K4
 refine lp (fun (k : Nat) (a : Act) (W : World) => Has [] 36 [(0, v), (9, v), (10, .int .i64 (l.length : Int)), (11, .int .i64 (k : Int)), (3, .int .i64 (((l.take k).flatten.length : Nat) : Int))] a ∧ (k ≤ l.length) ∧ (Rws (Lo w.heap.size) W v l) ∧ (Kept w W)) (fun (k : Nat) => l.length - k) (0) ⟨(h5.cons' rfl (h5.cons' rfl (h5.cons' rfl (h5.cons' rfl (h5.cons' rfl (h5.nil')))))), Nat.zero_le _, hv, hB⟩ ?_
 clear h5 hv hB
 rintro k a6 w1 ⟨h6, hkl, hv, hB⟩
 refine sq fun K5 hK5 => ?_
 refine reg [some 12] rfl ?_
 refine lss h6 rfl rfl rfl fun a7 h7 => ?_
 clear h6 a6
 refine wpL_nil (hK5 _ _ ?_)
 refine sq fun K6 hK6 => ?_
 refine spl h7 (d := 12) rfl (fun hb1 => ?_) (fun hb1 => ?_)
 ·
  have hp1 := of_decide_eq_true hb1
  obtain ⟨x, hx⟩ : ∃ x, l[k]? = some x := ⟨_, List.getElem?_eq_getElem (by have := of_decide_eq_true hb1; omega)⟩
  have hfl := Pl.flatten_take_le l (k + 1)
  rw [Pl.flatten_next hx, List.length_append] at hfl
  refine cdt h7 rfl hb1 ?_
  refine skp (hK6 _ _ ?_)
  refine sq fun K7 hK7 => ?_
  refine blc ?_
  refine sq fun K8 hK8 => ?_
  refine reg [some 13, some 14, some 5] rfl ?_
  refine ixR (k := k) hv h7 rfl rfl Try.underlying25 Try.sizeOf35 Try.isAgg35 (by simp) (hx) rfl rfl fun a8 z13 v14' h8 hs14 => ?_
  refine asg h8 rfl rfl fun a9 h9 => ?_
  clear hK5 hK6 h7 h8 K5 K6 a7 a8
  refine wpL_nil (hK8 _ _ ?_)
  refine sq fun K9 hK9 => ?_
  refine reg [some 15, some 16, some 17, some 18, some 3] rfl ?_
  refine mv h9 rfl rfl fun a10 h10 => ?_
  refine mv h10 rfl rfl fun a11 h11 => ?_
  refine lnx h11 rfl Try.underlying35 rfl hs14.isl rfl fun a12 h12 => ?_
  refine add h12 rfl rfl rfl (by omega) fun a13 h13 => ?_
  refine asg h13 rfl rfl fun a14 h14 => ?_
  clear hK8 h9 h10 h11 h12 h13 K8 a9 a10 a11 a12 a13
  refine wpL_nil (hK9 _ _ ?_)
  refine sq fun K10 hK10 => ?_
  refine reg [some 19, some 20] rfl ?_
  refine mv h14 rfl rfl fun a15 h15 => ?_
  refine lss h15 rfl rfl rfl fun a16 h16 => ?_
  clear hK9 h14 h15 K9 a14 a15
  refine wpL_nil (hK10 _ _ ?_)
  refine knownF h16 (d := 20) rfl (decide_eq_false (by omega)) fun hb2 => ?_
  have hp2 := of_decide_eq_false hb2
  refine cdf h16 rfl hb2 ?_
  refine skp (hK7 _ _ ?_)
  refine reg [some 22, some 11] rfl ?_
  refine add h16 rfl rfl rfl (by omega) fun a17 h17 => ?_
  refine mv h17 rfl rfl fun a18 h18 => ?_
  clear hK10 hK7 h16 h17 K10 K7 a16 a17
  refine wpL_nil ?_
  exact ⟨k + 1, ⟨(h18.cons' rfl (h18.cons' rfl (h18.cons' rfl (h18.cons' (lke rfl (by simp)) (h18.cons' (lke rfl (by rw [Pl.flatten_next hx]; simp)) (h18.nil')))))), by omega, hv, hB⟩, by omega⟩
 ·
  have hp1 := of_decide_eq_false hb1
  refine cdf h7 rfl hb1 ?_
  refine xit (hK3 _ _ ?_)
  refine sq fun K11 hK11 => ?_
  refine reg [some 23, some 24, some 6] rfl ?_
  refine mv h7 rfl rfl fun a19 h19 => ?_
  have hsz2 := hB.size
  refine cal h19 Try.call177 rfl (c_growB ((l.take k).flatten.length) _ (by have := Pl.flatten_take_le l k; omega)) rfl ?_
  rintro v2 w2 a20 ⟨hOG, hk2⟩ h20
  replace hv := hv.kept hk2
  replace hB := Kept.trans hB hk2
  refine asg h20 rfl rfl fun a21 h21 => ?_
  clear hK5 hK3 hK6 h7 h19 h20 K5 K3 K6 a7 a19 a20
  refine wpL_nil (hK11 _ _ ?_)
  refine sq fun K12 hK12 => ?_
  refine sq fun K13 hK13 => ?_
  refine reg [some 25, some 26, some 27] rfl ?_
  refine mv h21 rfl rfl fun a22 h22 => ?_
  refine lnx h22 rfl Try.underlying25 rfl hv.isl rfl fun a23 h23 => ?_
  refine mv h23 rfl rfl fun a24 h24 => ?_
  clear hK11 h21 h22 h23 K11 a21 a22 a23
  refine wpL_nil (hK13 _ _ ?_)
  refine blc ?_
  clear hK13 K13
  refine lp (fun (k : Nat) (a : Act) (W : World) => ∃ (vo : Value), Has [] 36 [(25, v), (26, .int .i64 (l.length : Int)), (27, .int .i64 (k : Int)), (6, vo)] a ∧ (k ≤ l.length) ∧ (Rws (Lo w.heap.size) W v l) ∧ (K.Own w.heap.size W vo 5 1 ((l.take k).flatten.map u8)) ∧ (Kept w W)) (fun (k : Nat) => l.length - k) (0) ⟨_, (h24.cons' rfl (h24.cons' rfl (h24.cons' rfl (h24.cons' rfl (h24.nil'))))), Nat.zero_le _, hv, (by simpa using hOG.mono (lo' := w.heap.size) (by omega)), hB⟩ ?_
  clear h24 hOG hB hv hkl
  rintro k a25 w3 ⟨vo, h25, hkl, hv, hO, hB⟩
  refine sq fun K14 hK14 => ?_
  refine reg [some 28] rfl ?_
  refine lss h25 rfl rfl rfl fun a26 h26 => ?_
  clear h25 a25
  refine wpL_nil (hK14 _ _ ?_)
  refine sq fun K15 hK15 => ?_
  refine spl h26 (d := 28) rfl (fun hb3 => ?_) (fun hb3 => ?_)
  ·
   have hp3 := of_decide_eq_true hb3
   obtain ⟨x, hx⟩ : ∃ x, l[k]? = some x := ⟨_, List.getElem?_eq_getElem (by have := of_decide_eq_true hb3; omega)⟩
   have hfl := Pl.flatten_take_le l (k + 1)
   rw [Pl.flatten_next hx, List.length_append] at hfl
   refine cdt h26 rfl hb3 ?_
   refine skp (hK15 _ _ ?_)
   refine sq fun K16 hK16 => ?_
   refine blc ?_
   refine sq fun K17 hK17 => ?_
   refine reg [some 29, some 30, some 8] rfl ?_
   refine ixR (k := k) hv h26 rfl rfl Try.underlying25 Try.sizeOf35 Try.isAgg35 (by simp) (hx) rfl rfl fun a27 z29 v30' h27 hs30 => ?_
   refine asg h27 rfl rfl fun a28 h28 => ?_
   clear hK14 hK15 h26 h27 K14 K15 a26 a27
   refine wpL_nil (hK17 _ _ ?_)
   refine reg [some 31, some 32, some 33, some 6] rfl ?_
   refine mv h28 rfl rfl fun a29 h29 => ?_
   refine mv h29 rfl rfl fun a30 h30 => ?_
   obtain ⟨A30, c30, rfl, h301, h302, hI30⟩ := hs30
   refine apn (sz := 1) h30 rfl rfl Try.underlying35 Try.type5 rfl rfl rfl (by decide) hO (hB.size) (hI30) (by simp) (by simp [Value.oneCell']) (by show (_ + _) * 1 ≤ _; rw [List.length_map, List.length_map]; omega) (by decide) rfl fun a31 v4 w4 h31 hO33' hk4 hat4 => ?_
   replace hv := hv.butV hk4 (fun b hb _ => hO.ne hb)
   replace hB := ButV.kept0 hB hk4 hO (Nat.le_refl _)
   try clear hO
   have hO33 := hO33'; clear hO33'
   refine asg h31 rfl rfl fun a32 h32 => ?_
   clear hK17 h28 h29 h30 h31 K17 a28 a29 a30 a31
   refine wpL_nil (hK16 _ _ ?_)
   refine reg [some 34, some 27] rfl ?_
   refine add h32 rfl rfl rfl (by omega) fun a33 h33 => ?_
   refine mv h33 rfl rfl fun a34 h34 => ?_
   clear hK16 h32 h33 K16 a32 a33
   refine wpL_nil ?_
   exact ⟨k + 1, ⟨_, (h34.cons' rfl (h34.cons' rfl (h34.cons' (lke rfl (by simp)) (h34.cons' rfl (h34.nil'))))), by omega, hv, (by rw [Pl.flatten_next hx, List.map_append]; exact hO33), hB⟩, by omega⟩
  ·
   have hp3 := of_decide_eq_false hb3
   refine cdf h26 rfl hb3 ?_
   refine xit (hK12 _ _ ?_)
   refine sq fun K18 hK18 => ?_
   refine reg [some 35, some 2] rfl ?_
   refine mv h26 rfl rfl fun a35 h35 => ?_
   refine asg h35 rfl rfl fun a36 h36 => ?_
   clear hK14 hK12 hK15 h26 h35 K14 K12 K15 a26 a35
   refine wpL_nil (hK18 _ _ ?_)
   refine rtn (leave h36 (res1 h36 rfl (rvt rfl)) ?_)
   exact ⟨_, rfl, by rw [take_take_all (by omega)] at hO; exact hO, hB⟩

/-- block.joined -/
theorem c_bjoined {S : Nat → Prop} (v : Value) (l : List (List UInt8)) (w : World) (hv : Rws S w v l) (hl : l.flatten.length ≤ 1000000000000) :
  C Try.prog 95 [v] w fun v w' => v = str l.flatten ∧ Kept w w' := by
 refine enterE Try.func95 rfl 6 rfl rfl fun a0 h0 => ?_
 have hB := Kept.refl w
 refine sq fun K1 hK1 => ?_
 refine reg [some 2] rfl ?_
 refine asg h0 rfl rfl fun a1 h1 => ?_
 clear h0 a0
 refine wpL_nil (hK1 _ _ ?_)
 refine sq fun K2 hK2 => ?_
 refine reg [some 3, some 4, some 5, some 2] rfl ?_
 refine mv h1 rfl rfl fun a2 h2 => ?_
 refine cal h2 Try.call143 rfl (c_concatB _ _ _ hv (by omega)) rfl ?_
 rintro v1 w1 a3 ⟨hO1, hk1⟩ h3
 replace hB := Kept.trans hB hk1
 refine btos h3 rfl Try.underlying35 Try.underlying5 Try.underlying9 (Own.byt hO1) rfl fun a4 h4 => ?_
 refine asg h4 rfl rfl fun a5 h5 => ?_
 clear hK1 h1 h2 h3 h4 K1 a1 a2 a3 a4
 refine wpL_nil (hK2 _ _ ?_)
 refine rtn (leave h5 (res1 h5 rfl (rvt rfl)) ?_)
 exact ⟨_, rfl, rfl, hB⟩

/-- block.Text -/
theorem c_text {S : Nat → Prop} (v : Value) (l : List (List UInt8)) (n : Int) (w : World) (hv : Rws S w v l) (hl : l.length ≤ 1000000) (hn : -9223372036854775808 ≤ n ∧ n ≤ 9223372036854775807) :
  C Try.prog 37 [v, .int .i64 n] w fun v w' => v = textV (Pl.textB l n) ∧ Kept w w' := by
 obtain ⟨hn1, hn2⟩ := hn
 refine enterE Try.func37 rfl 24 rfl rfl fun a0 h0 => ?_
 have hB := Kept.refl w
 refine sq fun K1 hK1 => ?_
 refine reg [some 4, some 5] rfl ?_
 refine asg h0 rfl rfl fun a1 h1 => ?_
 refine asg h1 rfl rfl fun a2 h2 => ?_
 clear h0 h1 a0 a1
 refine wpL_nil (hK1 _ _ ?_)
 refine sq fun K2 hK2 => ?_
 refine sq fun K3 hK3 => ?_
 refine reg [some 6, some 7, some 8, some 9, some 10, some 11, some 12, some 13, some 14, some 15, some 16, some 17, some 18, some 19] rfl ?_
 refine mv h2 rfl rfl fun a3 h3 => ?_
 refine lss h3 rfl rfl rfl fun a4 h4 => ?_
 refine mv h4 rfl rfl fun a5 h5 => ?_
 refine spl h5 (d := 8) rfl (fun hb1 => ?_) (fun hb1 => ?_)
 ·
  have hp1 := of_decide_eq_true hb1
  refine goff h5 (d := 8) rfl rfl hb1 rfl fun a6 h6 => ?_
  refine goff h6 (d := 8) rfl rfl hb1 rfl fun a7 h7 => ?_
  refine goff h7 (d := 8) rfl rfl hb1 rfl fun a8 h8 => ?_
  refine pkt h8 rfl hb1 rfl rfl fun a9 h9 => ?_
  refine mv h9 rfl rfl fun a10 h10 => ?_
  refine goff h10 (d := 13) rfl rfl rfl rfl fun a11 h11 => ?_
  refine goff h11 (d := 13) rfl rfl rfl rfl fun a12 h12 => ?_
  refine goff h12 (d := 13) rfl rfl rfl rfl fun a13 h13 => ?_
  refine goff h13 (d := 13) rfl rfl rfl rfl fun a14 h14 => ?_
  refine goff h14 (d := 13) rfl rfl rfl rfl fun a15 h15 => ?_
  refine pkt h15 rfl rfl rfl rfl fun a16 h16 => ?_
  clear hK1 h2 h3 h4 h5 h6 h7 h8 h9 h10 h11 h12 h13 h14 h15 K1 a2 a3 a4 a5 a6 a7 a8 a9 a10 a11 a12 a13 a14 a15
  refine wpL_nil (hK3 _ _ ?_)
  refine cdt h16 rfl rfl ?_
  refine sq fun K4 hK4 => ?_
  refine reg [some 4, some 5] rfl ?_
  refine asg h16 rfl rfl fun a17 h17 => ?_
  refine asg h17 rfl rfl fun a18 h18 => ?_
  clear hK3 h16 h17 K3 a16 a17
  refine wpL_nil (hK4 _ _ ?_)
  refine rtn (leave h18 (res2 h18 rfl (rvt rfl) (rvt rfl)) ?_)
  exact ⟨_, rfl, by rw [text_none (.inl hp1)]; rfl, hB⟩
 ·
  have hp1 := of_decide_eq_false hb1
  refine gon h5 (d := 8) rfl rfl hb1 ?_
  refine mv h5 rfl rfl fun a19 h19 => ?_
  refine gon h19 (d := 8) rfl rfl hb1 ?_
  refine cal h19 Try.call38 rfl (c_bmay _ _ _ hv) rfl ?_
  rintro v1 w1 a20 ⟨rfl, hk1⟩ h20
  replace hB := Kept.trans hB hk1
  replace hv := hv.kept hk1
  refine gon h20 (d := 8) rfl rfl hb1 ?_
  refine unot h20 rfl rfl fun a21 h21 => ?_
  refine pkf h21 rfl hb1 rfl rfl fun a22 h22 => ?_
  refine mv h22 rfl rfl fun a23 h23 => ?_
  refine spl h23 (d := 13) rfl (fun hb2 => ?_) (fun hb2 => ?_)
  ·
   refine goff h23 (d := 13) rfl rfl (bnf (bunt hb2)) rfl fun a24 h24 => ?_
   refine goff h24 (d := 13) rfl rfl (bnf (bunt hb2)) rfl fun a25 h25 => ?_
   refine goff h25 (d := 13) rfl rfl (bnf (bunt hb2)) rfl fun a26 h26 => ?_
   refine goff h26 (d := 13) rfl rfl (bnf (bunt hb2)) rfl fun a27 h27 => ?_
   refine goff h27 (d := 13) rfl rfl (bnf (bunt hb2)) rfl fun a28 h28 => ?_
   refine pkt h28 rfl (bnf (bunt hb2)) rfl rfl fun a29 h29 => ?_
   clear hK1 h2 h3 h4 h5 h19 h20 h21 h22 h23 h24 h25 h26 h27 h28 K1 a2 a3 a4 a5 a19 a20 a21 a22 a23 a24 a25 a26 a27 a28
   refine wpL_nil (hK3 _ _ ?_)
   refine cdt h29 rfl rfl ?_
   refine sq fun K5 hK5 => ?_
   refine reg [some 4, some 5] rfl ?_
   refine asg h29 rfl rfl fun a30 h30 => ?_
   refine asg h30 rfl rfl fun a31 h31 => ?_
   clear hK3 h29 h30 K3 a29 a30
   refine wpL_nil (hK5 _ _ ?_)
   refine rtn (leave h31 (res2 h31 rfl (rvt rfl) (rvt rfl)) ?_)
   exact ⟨_, rfl, by rw [text_none (.inr (.inl hb2))]; rfl, hB⟩
  ·
   refine gon h23 (d := 13) rfl rfl (bnt (bunf hb2)) ?_
   refine mv h23 rfl rfl fun a32 h32 => ?_
   refine gon h32 (d := 13) rfl rfl (bnt (bunf hb2)) ?_
   refine cal h32 Try.call94 rfl (c_many _ _ ⟨by omega, by omega⟩) rfl ?_
   rintro v2 w2 a33 ⟨rfl, rfl⟩ h33
   refine gon h33 (d := 13) rfl rfl (bnt (bunf hb2)) ?_
   refine mv h33 rfl rfl fun a34 h34 => ?_
   refine gon h34 (d := 13) rfl rfl (bnt (bunf hb2)) ?_
   refine lnx h34 rfl Try.underlying25 rfl hv.isl rfl fun a35 h35 => ?_
   refine gon h35 (d := 13) rfl rfl (bnt (bunf hb2)) ?_
   refine ineq h35 rfl rfl rfl fun a36 h36 => ?_
   refine pkf h36 rfl (bnt (bunf hb2)) rfl rfl fun a37 h37 => ?_
   clear hK1 h2 h3 h4 h5 h19 h20 h21 h22 h23 h32 h33 h34 h35 h36 K1 a2 a3 a4 a5 a19 a20 a21 a22 a23 a32 a33 a34 a35 a36
   refine wpL_nil (hK3 _ _ ?_)
   refine spl h37 (d := 19) rfl (fun hb3 => ?_) (fun hb3 => ?_)
   ·
    have hp3 := of_decide_eq_false (bunt hb3)
    refine cdt h37 rfl (bnf (bunt hb3)) ?_
    refine sq fun K6 hK6 => ?_
    refine reg [some 4, some 5] rfl ?_
    refine asg h37 rfl rfl fun a38 h38 => ?_
    refine asg h38 rfl rfl fun a39 h39 => ?_
    clear hK3 h37 h38 K3 a37 a38
    refine wpL_nil (hK6 _ _ ?_)
    refine rtn (leave h39 (res2 h39 rfl (rvt rfl) (rvt rfl)) ?_)
    exact ⟨_, rfl, by rw [text_none (.inr (.inr (of_decide_eq_false (bunt hb3))))]; rfl, hB⟩
   ·
    have hp3 := of_decide_eq_true (bunf hb3)
    have hml := Pl.mayB_len (bunf hb2)
    have hmn := Pl.many_le (by omega) (of_decide_eq_true (bunf hb3))
    refine cdf h37 rfl (bnt (bunf hb3)) ?_
    refine skp (hK2 _ _ ?_)
    refine sq fun K7 hK7 => ?_
    refine reg [some 20, some 21, some 22, some 23, some 4, some 5] rfl ?_
    refine mv h37 rfl rfl fun a40 h40 => ?_
    refine cal h40 Try.call95 rfl (c_bjoined _ _ _ hv (by omega)) rfl ?_
    rintro v3 w3 a41 ⟨rfl, hk3⟩ h41
    replace hB := Kept.trans hB hk3
    refine mv h41 rfl rfl fun a42 h42 => ?_
    refine slct (n.toNat) h42 Try.underlying9 rfl ⟨_, rfl, by first | omega | (simp; omega)⟩ (by omega) rfl fun a43 h43 => ?_
    refine asg h43 rfl rfl fun a44 h44 => ?_
    refine asg h44 rfl rfl fun a45 h45 => ?_
    clear hK3 hK2 h37 h40 h41 h42 h43 h44 K3 K2 a37 a40 a41 a42 a43 a44
    refine wpL_nil (hK7 _ _ ?_)
    refine rtn (leave h45 (res2 h45 rfl (rvt rfl) (rvt rfl)) ?_)
    exact ⟨_, rfl, by rw [text_some hp1 hb2 (of_decide_eq_true (bunf hb3))]; rfl, hB⟩

end Go.Proofs.Ytpgeogdmjgmimaa
