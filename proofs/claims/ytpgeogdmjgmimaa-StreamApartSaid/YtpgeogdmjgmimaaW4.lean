/-
  Walks, written by wip/gen/gen.py.
-/
import Derived.Test.YtpgeogdmjgmimaaW3
import Derived.Test.YtpgeogdmjgmimaaPPath
set_option linter.unusedVariables false
set_option linter.unusedSimpArgs false
set_option maxRecDepth 4000
namespace Go.Proofs.Ytpgeogdmjgmimaa
open Go Go.RowKit K

theorem x_indexByte (s : List UInt8) (c : UInt8) (w : World) : (callFunc 171 [str s, u8 c].toArray).run Try.prog w = .ok (.value (.int .i64 (Lib.indexByte s c))) w := by
  rw [run_callFunc_extern Try.func171 (by kernel_rfl) (by kernel_rfl) (by kernel_rfl) (e := Extern.BytealgIndexByte.indexByte) (by kernel_rfl)]
  show (Sem.run Try.prog (Extern.BytealgIndexByte.indexByte #[str s, u8 c]) w).andThen _ = _
  rw [Lib.run_indexByteString]
  simp [Result.andThen]
theorem cutS_pos {s : List UInt8} {c : UInt8} (h : 0 ≤ Lib.indexByte s c) : Pl.cutS s c = (s.take (Lib.indexByte s c).toNat, s.drop ((Lib.indexByte s c).toNat + 1), true) := by rw [Pl.cutS, if_pos h]
theorem cutS_neg {s : List UInt8} {c : UInt8} (h : ¬ 0 ≤ Lib.indexByte s c) : Pl.cutS s c = (s, [], false) := by rw [Pl.cutS, if_neg h]
def cutV (q : List UInt8 × List UInt8 × Bool) : Value := .tuple #[str q.1, str q.2.1, .bool q.2.2]
def splitV (q : List UInt8 × List UInt8 × Bool) : Value := .tuple #[str q.1, str q.2.1, .bool q.2.2]
def parentV (q : List UInt8 × Bool) : Value := .tuple #[str q.1, .bool q.2]

/-- internal/stringslite.IndexByte -/
theorem c_slIndexByte (s : List UInt8) (c : UInt8) (w : World) :
  C Try.prog 137 [str s, u8 c] w fun v w' => v = .int .i64 (Lib.indexByte s c) ∧ w = w' := by
 refine enterE Try.func137 rfl 8 rfl rfl fun a0 h0 => ?_
 have hB := Kept.refl w
 refine sq fun K1 hK1 => ?_
 refine reg [some 4] rfl ?_
 refine asg h0 rfl rfl fun a1 h1 => ?_
 clear h0 a0
 refine wpL_nil (hK1 _ _ ?_)
 refine sq fun K2 hK2 => ?_
 refine reg [some 5, some 6, some 7, some 4] rfl ?_
 refine mv h1 rfl rfl fun a2 h2 => ?_
 refine mv h2 rfl rfl fun a3 h3 => ?_
 refine calx h3 rfl (x_indexByte _ _ _) rfl fun a4 h4 => ?_
 refine asg h4 rfl rfl fun a5 h5 => ?_
 clear hK1 h1 h2 h3 h4 K1 a1 a2 a3 a4
 refine wpL_nil (hK2 _ _ ?_)
 refine rtn (leave h5 (res1 h5 rfl (rvt rfl)) ?_)
 exact ⟨_, rfl, rfl, rfl⟩

/-- strings.IndexByte -/
theorem c_indexByte (s : List UInt8) (c : UInt8) (w : World) :
  C Try.prog 87 [str s, u8 c] w fun v w' => v = .int .i64 (Lib.indexByte s c) ∧ w = w' := by
 refine enterE Try.func87 rfl 8 rfl rfl fun a0 h0 => ?_
 have hB := Kept.refl w
 refine sq fun K1 hK1 => ?_
 refine reg [some 4] rfl ?_
 refine asg h0 rfl rfl fun a1 h1 => ?_
 clear h0 a0
 refine wpL_nil (hK1 _ _ ?_)
 refine sq fun K2 hK2 => ?_
 refine reg [some 5, some 6, some 7, some 4] rfl ?_
 refine mv h1 rfl rfl fun a2 h2 => ?_
 refine mv h2 rfl rfl fun a3 h3 => ?_
 refine cal h3 Try.call137 rfl (c_slIndexByte _ _ _) rfl ?_
 rintro v1 w1 a4 ⟨rfl, rfl⟩ h4
 refine asg h4 rfl rfl fun a5 h5 => ?_
 clear hK1 h1 h2 h3 h4 K1 a1 a2 a3 a4
 refine wpL_nil (hK2 _ _ ?_)
 refine rtn (leave h5 (res1 h5 rfl (rvt rfl)) ?_)
 exact ⟨_, rfl, rfl, rfl⟩

/-- internal/stringslite.Index -/
theorem c_index1 (s : List UInt8) (c : UInt8) (w : World) :
  C Try.prog 195 [str s, str [c]] w fun v w' => v = .int .i64 (Lib.indexByte s c) ∧ w = w' := by
 refine enterE Try.func195 rfl 143 rfl rfl fun a0 h0 => ?_
 have hB := Kept.refl w
 refine sq fun K1 hK1 => ?_
 refine reg [some 4] rfl ?_
 refine asg h0 rfl rfl fun a1 h1 => ?_
 clear h0 a0
 refine wpL_nil (hK1 _ _ ?_)
 refine sq fun K2 hK2 => ?_
 refine reg [some 14, some 15, some 5] rfl ?_
 refine mv h1 rfl rfl fun a2 h2 => ?_
 refine lens h2 rfl Try.underlying9 rfl rfl fun a3 h3 => ?_
 refine asg h3 rfl rfl fun a4 h4 => ?_
 clear hK1 h1 h2 h3 K1 a1 a2 a3
 refine wpL_nil (hK2 _ _ ?_)
 refine sq fun K3 hK3 => ?_
 refine blc ?_
 refine sq fun K4 hK4 => ?_
 refine reg [some 17, some 18, some 19, some 20, some 21, some 22, some 23, some 16] rfl ?_
 refine mv h4 rfl rfl fun a5 h5 => ?_
 refine ieq h5 rfl rfl rfl fun a6 h6 => ?_
 refine mv h6 rfl rfl fun a7 h7 => ?_
 refine knownF h7 (d := 19) rfl (rfl) fun hb1 => ?_
 have hp1 := of_decide_eq_false hb1
 refine gon h7 (d := 19) rfl rfl hb1 ?_
 refine mv h7 rfl rfl fun a8 h8 => ?_
 refine gon h8 (d := 19) rfl rfl hb1 ?_
 refine mv h8 rfl rfl fun a9 h9 => ?_
 refine gon h9 (d := 19) rfl rfl hb1 ?_
 refine seq h9 rfl rfl rfl fun a10 h10 => ?_
 refine pkf h10 rfl hb1 rfl rfl fun a11 h11 => ?_
 refine asg h11 rfl rfl fun a12 h12 => ?_
 clear hK2 h4 h5 h6 h7 h8 h9 h10 h11 K2 a4 a5 a6 a7 a8 a9 a10 a11
 refine wpL_nil (hK4 _ _ ?_)
 refine spl h12 (d := 16) rfl (fun hb2 => ?_) (fun hb2 => ?_)
 ·
  have hp2 := of_decide_eq_true hb2
  refine cdt h12 rfl hb2 ?_
  refine sq fun K5 hK5 => ?_
  refine reg [some 4] rfl ?_
  refine asg h12 rfl rfl fun a13 h13 => ?_
  clear hK4 h12 K4 a12
  refine wpL_nil (hK5 _ _ ?_)
  refine rtn (leave h13 (res1 h13 rfl (rvt rfl)) ?_)
  have e : [c] = s := of_decide_eq_true hb2
  subst e
  exact ⟨_, rfl, by simp [Lib.indexByte], rfl⟩
 ·
  have hp2 := of_decide_eq_false hb2
  refine cdf h12 rfl hb2 ?_
  refine sq fun K6 hK6 => ?_
  refine reg [some 25, some 26, some 24] rfl ?_
  refine mv h12 rfl rfl fun a14 h14 => ?_
  refine ieq h14 rfl rfl rfl fun a15 h15 => ?_
  refine asg h15 rfl rfl fun a16 h16 => ?_
  clear hK4 h12 h14 h15 K4 a12 a14 a15
  refine wpL_nil (hK6 _ _ ?_)
  refine knownT h16 (d := 24) rfl (rfl) fun hb3 => ?_
  have hp3 := of_decide_eq_true hb3
  refine cdt h16 rfl hb3 ?_
  refine sq fun K7 hK7 => ?_
  refine reg [some 27, some 28, some 29, some 30, some 4] rfl ?_
  refine mv h16 rfl rfl fun a17 h17 => ?_
  refine mv h17 rfl rfl fun a18 h18 => ?_
  refine sdx (k := 0) h18 Try.underlying9 rfl rfl (by simp) (rfl) rfl fun a19 h19 => ?_
  refine cal h19 Try.call137 rfl (c_slIndexByte _ _ _) rfl ?_
  rintro v1 w1 a20 ⟨rfl, rfl⟩ h20
  refine asg h20 rfl rfl fun a21 h21 => ?_
  clear hK6 h16 h17 h18 h19 h20 K6 a16 a17 a18 a19 a20
  refine wpL_nil (hK7 _ _ ?_)
  refine rtn (leave h21 (res1 h21 rfl (rvt rfl)) ?_)
  exact ⟨_, rfl, rfl, rfl⟩

/-- internal/stringslite.Cut -/
theorem c_slCut (s : List UInt8) (c : UInt8) (w : World) (hs : s.length ≤ 9223372036854775807) :
  C Try.prog 190 [str s, str [c]] w fun v w' => v = cutV (Pl.cutS s c) ∧ Kept w w' := by
 refine enterE Try.func190 rfl 23 rfl rfl fun a0 h0 => ?_
 have hB := Kept.refl w
 refine sq fun K1 hK1 => ?_
 refine reg [some 4, some 5, some 6] rfl ?_
 refine asg h0 rfl rfl fun a1 h1 => ?_
 refine asg h1 rfl rfl fun a2 h2 => ?_
 refine asg h2 rfl rfl fun a3 h3 => ?_
 clear h0 h1 h2 a0 a1 a2
 refine wpL_nil (hK1 _ _ ?_)
 refine sq fun K2 hK2 => ?_
 refine sq fun K3 hK3 => ?_
 refine reg [some 8, some 9, some 10, some 7] rfl ?_
 refine mv h3 rfl rfl fun a4 h4 => ?_
 refine mv h4 rfl rfl fun a5 h5 => ?_
 refine cal h5 Try.call195 rfl (c_index1 _ c _) rfl ?_
 rintro v1 w1 a6 ⟨rfl, rfl⟩ h6
 refine asg h6 rfl rfl fun a7 h7 => ?_
 clear hK1 h3 h4 h5 h6 K1 a3 a4 a5 a6
 refine wpL_nil (hK3 _ _ ?_)
 refine sq fun K4 hK4 => ?_
 refine reg [some 11, some 12] rfl ?_
 refine mv h7 rfl rfl fun a8 h8 => ?_
 refine geq h8 rfl rfl rfl fun a9 h9 => ?_
 clear hK3 h7 h8 K3 a7 a8
 refine wpL_nil (hK4 _ _ ?_)
 refine spl h9 (d := 12) rfl (fun hb1 => ?_) (fun hb1 => ?_)
 ·
  have hp1 := of_decide_eq_true hb1
  have hlt := Pl.indexByte_lt' s c (of_decide_eq_true hb1)
  refine cdt h9 rfl hb1 ?_
  refine sq fun K5 hK5 => ?_
  clear hK4 K4
  refine drw h9 [some 13, some 14, some 15, some 16, some 17, some 18, some 19, some 20, some 21, some 4, some 5, some 6] rfl [Fx (str s), Fx (.int .i64 (Lib.indexByte s c)), Fx (str (s.take ((Lib.indexByte s c).toNat))), Fx (str s), Fx (.int .i64 (Lib.indexByte s c)), Fx (str [c]), Fx (.int .i64 (([c] : List UInt8).length : Int)), Fx (.int .i64 ((Lib.indexByte s c) + (([c] : List UInt8).length : Int))), Fx (str (s.drop ((Lib.indexByte s c).toNat + 1))), Fx (str (s.take ((Lib.indexByte s c).toNat))), Fx (str (s.drop ((Lib.indexByte s c).toNat + 1))), Fx ((.bool true))] Kept rfl rfl rfl rfl (drewKept _) keptT (mcons mfx (mcons mfx (mcons mfx (mcons mfx (mcons mfx (mcons mfx (mcons mfx (mcons mfx (mcons mfx (mcons mfx (mcons mfx (mcons mfx mnil)))))))))))) ⟨?_, ?_, ?_, ?_, ?_, ?_, ?_, ?_, ?_, ?_, ?_, ?_, trivial⟩ ?_
  ·
   intro L a w_ hH hb hR hd ho
   have hl0 := hb 0 _ rfl
   refine mv hH hl0 rfl fun a10 h10 => ?_
   exact wpL_nil ⟨_, h10, Kept.refl _, rfl⟩
  ·
   intro L a w_ hH hb hR hd ho
   have hl7 := hb 7 _ rfl
   refine mv hH hl7 rfl fun a11 h11 => ?_
   exact wpL_nil ⟨_, h11, Kept.refl _, rfl⟩
  ·
   intro L a w_ hH hb hR hd ho
   obtain ⟨_, hl13, rfl⟩ := hd 0 rfl
   obtain ⟨_, hl14, rfl⟩ := hd 1 rfl
   refine slct ((Lib.indexByte s c).toNat) hH Try.underlying9 hl13 ⟨_, hl14, by first | omega | (simp; omega)⟩ (by omega) rfl fun a12 h12 => ?_
   exact wpL_nil ⟨_, h12, Kept.refl _, rfl⟩
  ·
   intro L a w_ hH hb hR hd ho
   have hl0 := hb 0 _ rfl
   refine mv hH hl0 rfl fun a13 h13 => ?_
   exact wpL_nil ⟨_, h13, Kept.refl _, rfl⟩
  ·
   intro L a w_ hH hb hR hd ho
   have hl7 := hb 7 _ rfl
   refine mv hH hl7 rfl fun a14 h14 => ?_
   exact wpL_nil ⟨_, h14, Kept.refl _, rfl⟩
  ·
   intro L a w_ hH hb hR hd ho
   have hl1 := hb 1 _ rfl
   refine mv hH hl1 rfl fun a15 h15 => ?_
   exact wpL_nil ⟨_, h15, Kept.refl _, rfl⟩
  ·
   intro L a w_ hH hb hR hd ho
   obtain ⟨_, hl18, rfl⟩ := hd 5 rfl
   refine lens hH rfl Try.underlying9 hl18 rfl fun a16 h16 => ?_
   exact wpL_nil ⟨_, h16, Kept.refl _, rfl⟩
  ·
   intro L a w_ hH hb hR hd ho
   obtain ⟨_, hl17, rfl⟩ := hd 4 rfl
   obtain ⟨_, hl19, rfl⟩ := hd 6 rfl
   refine add hH hl17 hl19 rfl (by simp; omega) fun a17 h17 => ?_
   exact wpL_nil ⟨_, h17, Kept.refl _, rfl⟩
  ·
   intro L a w_ hH hb hR hd ho
   obtain ⟨_, hl16, rfl⟩ := hd 3 rfl
   obtain ⟨_, hl20, rfl⟩ := hd 7 rfl
   refine slcd ((Lib.indexByte s c).toNat + 1) hH Try.underlying9 hl16 ⟨_, hl20, by first | omega | (simp; omega)⟩ (by omega) rfl fun a18 h18 => ?_
   exact wpL_nil ⟨_, h18, Kept.refl _, rfl⟩
  ·
   intro L a w_ hH hb hR hd ho
   obtain ⟨_, hl15, rfl⟩ := hd 2 rfl
   refine asg hH hl15 rfl fun a19 h19 => ?_
   exact wpL_nil ⟨_, h19, Kept.refl _, rfl⟩
  ·
   intro L a w_ hH hb hR hd ho
   obtain ⟨_, hl21, rfl⟩ := hd 8 rfl
   refine asg hH hl21 rfl fun a20 h20 => ?_
   exact wpL_nil ⟨_, h20, Kept.refl _, rfl⟩
  ·
   intro L a w_ hH hb hR hd ho
   refine asg hH rfl rfl fun a21 h21 => ?_
   exact wpL_nil ⟨_, h21, Kept.refl _, rfl⟩
  intro L2 a22 w2 h22 hbh22 hRh22 hdh22
  obtain ⟨_, hl13, rfl⟩ := hdh22 0 (by decide)
  obtain ⟨_, hl14, rfl⟩ := hdh22 1 (by decide)
  obtain ⟨_, hl15, rfl⟩ := hdh22 2 (by decide)
  obtain ⟨_, hl16, rfl⟩ := hdh22 3 (by decide)
  obtain ⟨_, hl17, rfl⟩ := hdh22 4 (by decide)
  obtain ⟨_, hl18, rfl⟩ := hdh22 5 (by decide)
  obtain ⟨_, hl19, rfl⟩ := hdh22 6 (by decide)
  obtain ⟨_, hl20, rfl⟩ := hdh22 7 (by decide)
  obtain ⟨_, hl21, rfl⟩ := hdh22 8 (by decide)
  obtain ⟨_, hl4, rfl⟩ := hdh22 9 (by decide)
  obtain ⟨_, hl5, rfl⟩ := hdh22 10 (by decide)
  obtain ⟨_, hl6, rfl⟩ := hdh22 11 (by decide)
  have h23 := Has.under h22 hbh22
  have h24 := (h22.add hl6 (h22.add hl5 (h22.add hl4 (h22.add hl21 (h22.add hl20 (h22.add hl19 (h22.add hl18 (h22.add hl17 (h22.add hl16 (h22.add hl15 (h22.add hl14 (h22.add hl13 h23))))))))))))
  clear h23 hl13 hl14 hl15 hl16 hl17 hl18 hl19 hl20 hl21 hl4 hl5 hl6 hbh22 hdh22
  replace hB := Kept.trans hB hRh22
  refine hK5 _ _ ?_
  refine rtn (leave h24 (res3 h24 rfl (rvt rfl) (rvt rfl) (rvt rfl)) ?_)
  exact ⟨_, rfl, by rw [cutS_pos hp1]; simp [cutV], hB⟩
 ·
  have hp1 := of_decide_eq_false hb1
  refine cdf h9 rfl hb1 ?_
  refine skp (hK2 _ _ ?_)
  refine sq fun K6 hK6 => ?_
  refine reg [some 22, some 4, some 5, some 6] rfl ?_
  refine mv h9 rfl rfl fun a25 h25 => ?_
  refine asg h25 rfl rfl fun a26 h26 => ?_
  refine asg h26 rfl rfl fun a27 h27 => ?_
  refine asg h27 rfl rfl fun a28 h28 => ?_
  clear hK4 hK2 h9 h25 h26 h27 K4 K2 a9 a25 a26 a27
  refine wpL_nil (hK6 _ _ ?_)
  refine rtn (leave h28 (res3 h28 rfl (rvt rfl) (rvt rfl) (rvt rfl)) ?_)
  exact ⟨_, rfl, by rw [cutS_neg hp1]; rfl, hB⟩

/-- strings.Cut -/
theorem c_cut (s : List UInt8) (c : UInt8) (w : World) (hs : s.length ≤ 9223372036854775807) :
  C Try.prog 168 [str s, str [c]] w fun v w' => v = cutV (Pl.cutS s c) ∧ Kept w w' := by
 refine enterE Try.func168 rfl 13 rfl rfl fun a0 h0 => ?_
 have hB := Kept.refl w
 refine sq fun K1 hK1 => ?_
 refine reg [some 4, some 5, some 6] rfl ?_
 refine asg h0 rfl rfl fun a1 h1 => ?_
 refine asg h1 rfl rfl fun a2 h2 => ?_
 refine asg h2 rfl rfl fun a3 h3 => ?_
 clear h0 h1 h2 a0 a1 a2
 refine wpL_nil (hK1 _ _ ?_)
 refine sq fun K2 hK2 => ?_
 refine reg [some 7, some 8, some 9, some 10, some 11, some 12, some 4, some 5, some 6] rfl ?_
 refine mv h3 rfl rfl fun a4 h4 => ?_
 refine mv h4 rfl rfl fun a5 h5 => ?_
 refine cal h5 Try.call190 rfl (c_slCut _ _ _ hs) rfl ?_
 rintro v1 w1 a6 ⟨rfl, hk1⟩ h6
 replace hB := Kept.trans hB hk1
 refine ext3_0 h6 rfl rfl fun a7 h7 => ?_
 refine ext3_1 h7 rfl rfl fun a8 h8 => ?_
 refine ext3_2 h8 rfl rfl fun a9 h9 => ?_
 refine asg h9 rfl rfl fun a10 h10 => ?_
 refine asg h10 rfl rfl fun a11 h11 => ?_
 refine asg h11 rfl rfl fun a12 h12 => ?_
 clear hK1 h3 h4 h5 h6 h7 h8 h9 h10 h11 K1 a3 a4 a5 a6 a7 a8 a9 a10 a11
 refine wpL_nil (hK2 _ _ ?_)
 refine rtn (leave h12 (res3 h12 rfl (rvt rfl) (rvt rfl) (rvt rfl)) ?_)
 exact ⟨_, rfl, rfl, hB⟩

/-- internal/bytealg.LastIndexByteString -/
theorem c_baLast (s : List UInt8) (c : UInt8) (w : World) (hs : s.length ≤ 9223372036854775807) :
  C Try.prog 169 [str s, u8 c] w fun v w' => v = .int .i64 (Pl.lastByte s c s.length) ∧ w = w' := by
 refine enterE Try.func169 rfl 19 rfl rfl fun a0 h0 => ?_
 have hB := Kept.refl w
 refine sq fun K1 hK1 => ?_
 refine reg [some 4] rfl ?_
 refine asg h0 rfl rfl fun a1 h1 => ?_
 clear h0 a0
 refine wpL_nil (hK1 _ _ ?_)
 refine sq fun K2 hK2 => ?_
 refine sq fun K3 hK3 => ?_
 refine reg [some 6, some 7, some 8, some 5] rfl ?_
 refine mv h1 rfl rfl fun a2 h2 => ?_
 refine lens h2 rfl Try.underlying9 rfl rfl fun a3 h3 => ?_
 refine sub h3 rfl rfl rfl (by omega) fun a4 h4 => ?_
 refine asg h4 rfl rfl fun a5 h5 => ?_
 clear hK1 h1 h2 h3 h4 K1 a1 a2 a3 a4
 refine wpL_nil (hK3 _ _ ?_)
 refine blc ?_
 clear hK3 K3
 refine lp (fun (k : Nat) (a : Act) (W : World) => Has [] 19 [(0, str s), (1, u8 c), (5, .int .i64 ((k : Int) - 1))] a ∧ (k ≤ s.length) ∧ (Pl.lastByte s c s.length = Pl.lastByte s c k) ∧ (w = W)) (fun (k : Nat) => k) (s.length) ⟨(h5.cons' rfl (h5.cons' rfl (h5.cons' rfl (h5.nil')))), Nat.le_refl _, rfl, rfl⟩ ?_
 clear h5 hB
 rintro k a6 w1 ⟨h6, hk, hq, hB⟩
 refine sq fun K4 hK4 => ?_
 refine sq fun K5 hK5 => ?_
 refine reg [some 9, some 10] rfl ?_
 refine mv h6 rfl rfl fun a7 h7 => ?_
 refine geq h7 rfl rfl rfl fun a8 h8 => ?_
 clear h6 h7 a6 a7
 refine wpL_nil (hK5 _ _ ?_)
 refine spl h8 (d := 10) rfl (fun hb1 => ?_) (fun hb1 => ?_)
 ·
  have hp1 := of_decide_eq_true hb1
  obtain ⟨x, hx⟩ : ∃ x, s[k - 1]? = some x := ⟨_, List.getElem?_eq_getElem (by have := of_decide_eq_true hb1; omega)⟩
  refine cdt h8 rfl hb1 ?_
  refine skp (hK4 _ _ ?_)
  refine sq fun K6 hK6 => ?_
  refine blc ?_
  refine sq fun K7 hK7 => ?_
  refine reg [some 13, some 14, some 15, some 16, some 17] rfl ?_
  refine mv h8 rfl rfl fun a9 h9 => ?_
  refine mv h9 rfl rfl fun a10 h10 => ?_
  refine sdx (k := k - 1) h10 Try.underlying9 rfl rfl (by omega) (hx) rfl fun a11 h11 => ?_
  refine mv h11 rfl rfl fun a12 h12 => ?_
  refine ieq h12 rfl rfl rfl fun a13 h13 => ?_
  clear hK5 hK4 h8 h9 h10 h11 h12 K5 K4 a8 a9 a10 a11 a12
  refine wpL_nil (hK7 _ _ ?_)
  refine spl h13 (d := 17) rfl (fun hb2 => ?_) (fun hb2 => ?_)
  ·
   have hp2 := of_decide_eq_true hb2
   refine cdt h13 rfl hb2 ?_
   refine sq fun K8 hK8 => ?_
   refine reg [some 18, some 4] rfl ?_
   refine mv h13 rfl rfl fun a14 h14 => ?_
   refine asg h14 rfl rfl fun a15 h15 => ?_
   clear hK7 h13 h14 K7 a13 a14
   refine wpL_nil (hK8 _ _ ?_)
   refine rtn (leave h15 (res1 h15 rfl (rvt rfl)) ?_)
   exact ⟨_, rfl, by rw [hq, Pl.lastByte_hit hp1 hx hp2]; congr 1; omega, hB⟩
  ·
   have hp2 := of_decide_eq_false hb2
   refine cdf h13 rfl hb2 ?_
   refine skp (hK6 _ _ ?_)
   refine reg [some 11, some 12, some 5] rfl ?_
   refine mv h13 rfl rfl fun a16 h16 => ?_
   refine sub h16 rfl rfl rfl (by omega) fun a17 h17 => ?_
   refine asg h17 rfl rfl fun a18 h18 => ?_
   clear hK7 hK6 h13 h16 h17 K7 K6 a13 a16 a17
   refine wpL_nil ?_
   exact ⟨k - 1, ⟨(h18.cons' rfl (h18.cons' rfl (h18.cons' (lke rfl (by congr 1; omega)) (h18.nil')))), by omega, (hq.trans (Pl.lastByte_miss hp1 hx hp2)), hB⟩, by omega⟩
 ·
  have hp1 := of_decide_eq_false hb1
  refine cdf h8 rfl hb1 ?_
  refine xit (hK2 _ _ ?_)
  refine sq fun K9 hK9 => ?_
  refine reg [some 4] rfl ?_
  refine asg h8 rfl rfl fun a19 h19 => ?_
  clear hK5 hK2 hK4 h8 K5 K2 K4 a8
  refine wpL_nil (hK9 _ _ ?_)
  refine rtn (leave h19 (res1 h19 rfl (rvt rfl)) ?_)
  exact ⟨_, rfl, by rw [hq, show k = 0 by omega]; rfl, hB⟩

/-- strings.LastIndexByte -/
theorem c_last (s : List UInt8) (c : UInt8) (w : World) (hs : s.length ≤ 9223372036854775807) :
  C Try.prog 127 [str s, u8 c] w fun v w' => v = .int .i64 (Pl.lastByte s c s.length) ∧ w = w' := by
 refine enterE Try.func127 rfl 8 rfl rfl fun a0 h0 => ?_
 have hB := Kept.refl w
 refine sq fun K1 hK1 => ?_
 refine reg [some 4] rfl ?_
 refine asg h0 rfl rfl fun a1 h1 => ?_
 clear h0 a0
 refine wpL_nil (hK1 _ _ ?_)
 refine sq fun K2 hK2 => ?_
 refine reg [some 5, some 6, some 7, some 4] rfl ?_
 refine mv h1 rfl rfl fun a2 h2 => ?_
 refine mv h2 rfl rfl fun a3 h3 => ?_
 refine cal h3 Try.call169 rfl (c_baLast _ _ _ hs) rfl ?_
 rintro v1 w1 a4 ⟨rfl, rfl⟩ h4
 refine asg h4 rfl rfl fun a5 h5 => ?_
 clear hK1 h1 h2 h3 h4 K1 a1 a2 a3 a4
 refine wpL_nil (hK2 _ _ ?_)
 refine rtn (leave h5 (res1 h5 rfl (rvt rfl)) ?_)
 exact ⟨_, rfl, rfl, rfl⟩

/-- path.parts -/
theorem c_parts (p : List UInt8) (w : World) :
  C Try.prog 122 [str p] w fun v w' => ∃ g, v = .func (.func 167) #[] #[.pointer (some ⟨g, 0, none⟩)] ∧ w.heap.size ≤ g ∧ Blk w' g 9 [str p] ∧ Kept w w' := by
 refine enterE Try.func122 rfl 4 rfl rfl fun a0 h0 => ?_
 have hB := Kept.refl w
 refine sq fun K1 hK1 => ?_
 refine reg [some 1, some 2] rfl ?_
 refine bxv h0 rfl rfl rfl fun a1 w1 g1 h1 hk1 hz1 hg1 => ?_
 have hleg1 := Nat.le_trans hB.size hz1
 replace hB := Kept.trans hB hk1
 refine asg h1 rfl rfl fun a2 h2 => ?_
 clear h0 h1 a0 a1
 refine wpL_nil (hK1 _ _ ?_)
 refine sq fun K2 hK2 => ?_
 refine reg [some 3, some 2] rfl ?_
 refine mkf h2 rfl rfl rfl fun a3 h3 => ?_
 refine asg h3 rfl rfl fun a4 h4 => ?_
 clear hK1 h2 h3 K1 a2 a3
 refine wpL_nil (hK2 _ _ ?_)
 refine rtn (leave h4 (res1 h4 rfl (rvt rfl)) ?_)
 exact ⟨_, rfl, _, rfl, hz1, hg1, hB⟩

/-- path.May$1 -/
theorem c_odd (s : List UInt8) (w : World) :
  C Try.prog 121 [str s] w fun v w' => v = .bool (Pl.odd s) ∧ w = w' := by
 refine enterE Try.func121 rfl 13 rfl rfl fun a0 h0 => ?_
 have hB := Kept.refl w
 refine sq fun K1 hK1 => ?_
 refine reg [some 2] rfl ?_
 refine asg h0 rfl rfl fun a1 h1 => ?_
 clear h0 a0
 refine wpL_nil (hK1 _ _ ?_)
 refine sq fun K2 hK2 => ?_
 refine reg [some 3, some 4, some 5, some 6, some 7, some 8, some 9, some 10, some 11, some 12, some 2] rfl ?_
 refine mv h1 rfl rfl fun a2 h2 => ?_
 refine seq h2 rfl rfl rfl fun a3 h3 => ?_
 refine mv h3 rfl rfl fun a4 h4 => ?_
 refine spl h4 (d := 5) rfl (fun hb1 => ?_) (fun hb1 => ?_)
 ·
  have hp1 := of_decide_eq_true hb1
  refine goff h4 (d := 5) rfl rfl hb1 rfl fun a5 h5 => ?_
  refine goff h5 (d := 5) rfl rfl hb1 rfl fun a6 h6 => ?_
  refine pkt h6 rfl hb1 rfl rfl fun a7 h7 => ?_
  refine mv h7 rfl rfl fun a8 h8 => ?_
  refine goff h8 (d := 9) rfl rfl rfl rfl fun a9 h9 => ?_
  refine goff h9 (d := 9) rfl rfl rfl rfl fun a10 h10 => ?_
  refine pkt h10 rfl rfl rfl rfl fun a11 h11 => ?_
  refine asg h11 rfl rfl fun a12 h12 => ?_
  clear hK1 h1 h2 h3 h4 h5 h6 h7 h8 h9 h10 h11 K1 a1 a2 a3 a4 a5 a6 a7 a8 a9 a10 a11
  refine wpL_nil (hK2 _ _ ?_)
  refine rtn (leave h12 (res1 h12 rfl (rvt rfl)) ?_)
  exact ⟨_, rfl, by simp [Pl.odd, *], rfl⟩
 ·
  have hp1 := of_decide_eq_false hb1
  refine gon h4 (d := 5) rfl rfl hb1 ?_
  refine mv h4 rfl rfl fun a13 h13 => ?_
  refine gon h13 (d := 5) rfl rfl hb1 ?_
  refine seq h13 rfl rfl rfl fun a14 h14 => ?_
  refine pkf h14 rfl hb1 rfl rfl fun a15 h15 => ?_
  refine mv h15 rfl rfl fun a16 h16 => ?_
  refine spl h16 (d := 9) rfl (fun hb2 => ?_) (fun hb2 => ?_)
  ·
   have hp2 := of_decide_eq_true hb2
   refine goff h16 (d := 9) rfl rfl hb2 rfl fun a17 h17 => ?_
   refine goff h17 (d := 9) rfl rfl hb2 rfl fun a18 h18 => ?_
   refine pkt h18 rfl hb2 rfl rfl fun a19 h19 => ?_
   refine asg h19 rfl rfl fun a20 h20 => ?_
   clear hK1 h1 h2 h3 h4 h13 h14 h15 h16 h17 h18 h19 K1 a1 a2 a3 a4 a13 a14 a15 a16 a17 a18 a19
   refine wpL_nil (hK2 _ _ ?_)
   refine rtn (leave h20 (res1 h20 rfl (rvt rfl)) ?_)
   exact ⟨_, rfl, by simp [Pl.odd, *], rfl⟩
  ·
   have hp2 := of_decide_eq_false hb2
   refine gon h16 (d := 9) rfl rfl hb2 ?_
   refine mv h16 rfl rfl fun a21 h21 => ?_
   refine gon h21 (d := 9) rfl rfl hb2 ?_
   refine seq h21 rfl rfl rfl fun a22 h22 => ?_
   refine pkf h22 rfl hb2 rfl rfl fun a23 h23 => ?_
   refine asg h23 rfl rfl fun a24 h24 => ?_
   clear hK1 h1 h2 h3 h4 h13 h14 h15 h16 h21 h22 h23 K1 a1 a2 a3 a4 a13 a14 a15 a16 a21 a22 a23
   refine wpL_nil (hK2 _ _ ?_)
   refine rtn (leave h24 (res1 h24 rfl (rvt rfl)) ?_)
   exact ⟨_, rfl, by simp [Pl.odd, *], rfl⟩

/-- path.parts$1 -/
theorem i_parts (p : List UInt8) (g1 : Nat) (hp : p.length ≤ 9223372036854775807) : Iter Try.prog 167 [.pointer (some ⟨g1, 0, none⟩)] (fun s : List UInt8 => [str s]) (Pl.parts p) g1 9 [str p] (fun k => [str (Pl.rem p (k + 1))]) (fun _ => True) := by
 intro lr J Jx w hg1 _ hJk hJxk hY hJ
 refine enterI (vs := [_, _]) Try.func167 rfl 16 rfl rfl fun a0 h0 => ?_
 refine sq fun K1 hK1 => ?_
 refine reg [some 3] rfl ?_
 refine asg h0 rfl rfl fun a1 h1 => ?_
 clear h0 a0
 refine wpL_nil (hK1 _ _ ?_)
 refine blc ?_
 clear hK1 K1
 refine lp (fun (k : Nat) (a : Act) (W : World) => Has [] 16 [(0, .func (.yield lr) #[] #[]), (1, .pointer (some ⟨g1, 0, none⟩)), (3, .bool (decide (k < (Pl.parts p).length)))] a ∧ (k ≤ (Pl.parts p).length) ∧ (Blk W g1 9 [str (Pl.rem p k)]) ∧ (J k W)) (fun (k : Nat) => (Pl.parts p).length - k) (0) ⟨(h1.cons' rfl (h1.cons' rfl (h1.cons' (lke rfl (by rw [decide_eq_true (Pl.parts_pos p)])) (h1.nil')))), Nat.zero_le _, hg1, hJ⟩ ?_
 clear h1 hJ hg1
 rintro k a2 w1 ⟨h2, hkn, hg1, hJ⟩
 refine sq fun K2 hK2 => ?_
 refine sq fun K3 hK3 => ?_
 refine reg [some 5] rfl ?_
 refine mv h2 rfl rfl fun a3 h3 => ?_
 clear h2 a2
 refine wpL_nil (hK3 _ _ ?_)
 refine spl h3 (d := 5) rfl (fun hb777 => ?_) (fun hb777 => ?_)
 ·
  have hlt := of_decide_eq_true hb777
  obtain ⟨hxk, hmore⟩ := Pl.parts_step p k hlt
  refine cdt h3 rfl hb777 ?_
  refine skp (hK2 _ _ ?_)
  refine blc ?_
  refine sq fun K4 hK4 => ?_
  refine reg [some 4] rfl ?_
  refine asg h3 rfl rfl fun a4 h4 => ?_
  clear hK3 hK2 h3 K3 K2 a3
  refine wpL_nil (hK4 _ _ ?_)
  refine sq fun K5 hK5 => ?_
  refine reg [some 7, some 8, some 6, some 9, some 10, some 11, some 4, none, some 3] rfl ?_
  refine ldb h4 hg1 rfl Try.isAgg9 rfl rfl fun a5 h5 => ?_
  refine cal h5 Try.call168 rfl (c_cut _ 47 _ (Nat.le_trans (Pl.rem_len _ _) hp)) rfl ?_
  rintro v2 w2 a6 ⟨rfl, hk2⟩ h6
  replace hg1 := hg1.kept hk2
  replace hJ := hJk _ _ _ hJ (Kept.toBut hk2 _)
  refine mv h6 rfl rfl fun a7 h7 => ?_
  refine ext3_0 h7 rfl rfl fun a8 h8 => ?_
  refine ext3_1 h8 rfl rfl fun a9 h9 => ?_
  refine ext3_2 h9 rfl rfl fun a10 h10 => ?_
  refine asg h10 rfl rfl fun a11 h11 => ?_
  refine stb h11 hg1 rfl rfl _ rfl Try.sizeOf9 (by simp [Value.oneCell']) _ (by simp) rfl fun w3 hg1' hk3 => ?_
  clear hg1; have hg1 := hg1'; clear hg1'
  replace hJ := hJk _ _ _ hJ hk3
  refine asg h11 rfl rfl fun a12 h12 => ?_
  clear hK4 h4 h5 h6 h7 h8 h9 h10 h11 K4 a4 a5 a6 a7 a8 a9 a10 a11
  refine wpL_nil (hK5 _ _ ?_)
  refine sq fun K6 hK6 => ?_
  refine reg [some 12, some 13, some 14, some 15] rfl ?_
  refine mv h12 rfl rfl fun a13 h13 => ?_
  refine mv h13 rfl rfl fun a14 h14 => ?_
  have hY' := hY k _ _ hxk hJ hg1 trivial
  refine yld h14 rfl rfl rfl hY' ?_
  rintro e w4 (⟨rfl, hJ, hg1, -⟩ | ⟨rfl, hJx⟩)
  ·
   refine ⟨_, rfl, fun a15 h15 => ?_⟩
   refine unot h15 rfl rfl fun a16 h16 => ?_
   clear hK5 h12 h13 h14 h15 K5 a12 a13 a14 a15
   refine wpL_nil (hK6 _ _ ?_)
   refine cdf h16 rfl rfl ?_
   refine skp ?_
   exact ⟨k + 1, ⟨(h16.cons' rfl (h16.cons' rfl (h16.cons' (lke rfl (by rw [hmore])) (h16.nil')))), by omega, hg1, hJ⟩, by omega⟩
  ·
   refine ⟨_, rfl, fun a17 h17 => ?_⟩
   refine unot h17 rfl rfl fun a18 h18 => ?_
   clear hK5 h12 h13 h14 h17 K5 a12 a13 a14 a17
   refine wpL_nil (hK6 _ _ ?_)
   refine cdt h18 rfl rfl ?_
   refine rtn (leave h18 (res0 (by rfl)) ?_)
   exact ⟨_, rfl, .inr hJx⟩
 ·
  have hge := of_decide_eq_false hb777
  refine cdf h3 rfl hb777 ?_
  refine xit ?_
  refine leaveE h3 (res0 (by rfl)) ?_
  exact ⟨_, rfl, .inl (by rw [show (Pl.parts p).length = k by omega]; exact hJ)⟩

end Go.Proofs.Ytpgeogdmjgmimaa
