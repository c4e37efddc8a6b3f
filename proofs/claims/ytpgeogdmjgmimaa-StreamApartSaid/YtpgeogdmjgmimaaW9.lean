/-
  Walks, written by wip/gen/gen.py.
-/
import Derived.Test.YtpgeogdmjgmimaaK14
import Derived.Test.YtpgeogdmjgmimaaW8
import Derived.Test.YtpgeogdmjgmimaaPHead
set_option linter.unusedVariables false
set_option linter.unusedSimpArgs false
set_option maxRecDepth 4000
namespace Go.Proofs.Ytpgeogdmjgmimaa
open Go Go.RowKit K

/-- A literal's value. -/
theorem bld116_0_1_2 (x0 : Int) (x1 : Int) (x2 : Option Addr) (w : World) : (Instr.build 116 [(0, (.int .i64 x0)), (1, (.int .i64 x1)), (2, (.pointer x2))].toArray).run Try.prog w = .ok (.agg #[.int .i64 x0, .int .i64 x1, .pointer x2]) w := by kernel_rfl
/-- A literal's value. -/
theorem bsl2_111_0_1 (x1000 : Int) (x1001 : Int) (x1002 : Option Addr) (x2000 : Int) (x2001 : Int) (x2002 : Option Addr) (w : World) : (Instr.buildSlice 111 2 [(0, (.agg #[.int .i64 x1000, .int .i64 x1001, .pointer x1002])), (1, (.agg #[.int .i64 x2000, .int .i64 x2001, .pointer x2002]))].toArray).run Try.prog w = .ok (.slice (some ⟨w.heap.size, 0, none⟩) 2 2) (w.alloc (.cells [.int .i64 x1000, .int .i64 x1001, .pointer x1002, .int .i64 x2000, .int .i64 x2001, .pointer x2002].toArray 116)) := by kernel_rfl
/-- A literal's value. -/
theorem bsl1_111_0 (x1000 : Int) (x1001 : Int) (x1002 : Option Addr) (w : World) : (Instr.buildSlice 111 1 [(0, (.agg #[.int .i64 x1000, .int .i64 x1001, .pointer x1002]))].toArray).run Try.prog w = .ok (.slice (some ⟨w.heap.size, 0, none⟩) 1 1) (w.alloc (.cells [.int .i64 x1000, .int .i64 x1001, .pointer x1002].toArray 116)) := by kernel_rfl
/-- A literal's value. -/
theorem bld123_0_1_2 (x0 : Int) (x1 : Int) (x2 : Option Addr) (w : World) : (Instr.build 123 [(0, (.int .i64 x0)), (1, (.int .i64 x1)), (2, (.pointer x2))].toArray).run Try.prog w = .ok (.agg #[.int .i64 x0, .int .i64 x1, .pointer x2]) w := by kernel_rfl
/-- A literal's value. -/
theorem bsl5_119_0_1_2_3_4 (x1000 : Int) (x1001 : Int) (x1002 : Option Addr) (x2000 : Int) (x2001 : Int) (x2002 : Option Addr) (x3000 : Int) (x3001 : Int) (x3002 : Option Addr) (x4000 : Int) (x4001 : Int) (x4002 : Option Addr) (x5000 : Int) (x5001 : Int) (x5002 : Option Addr) (w : World) : (Instr.buildSlice 119 5 [(0, (.agg #[.int .i64 x1000, .int .i64 x1001, .pointer x1002])), (1, (.agg #[.int .i64 x2000, .int .i64 x2001, .pointer x2002])), (2, (.agg #[.int .i64 x3000, .int .i64 x3001, .pointer x3002])), (3, (.agg #[.int .i64 x4000, .int .i64 x4001, .pointer x4002])), (4, (.agg #[.int .i64 x5000, .int .i64 x5001, .pointer x5002]))].toArray).run Try.prog w = .ok (.slice (some ⟨w.heap.size, 0, none⟩) 5 5) (w.alloc (.cells [.int .i64 x1000, .int .i64 x1001, .pointer x1002, .int .i64 x2000, .int .i64 x2001, .pointer x2002, .int .i64 x3000, .int .i64 x3001, .pointer x3002, .int .i64 x4000, .int .i64 x4001, .pointer x4002, .int .i64 x5000, .int .i64 x5001, .pointer x5002].toArray 123)) := by kernel_rfl
/-- A literal's value. -/
theorem bsl2_119_0_1 (x1000 : Int) (x1001 : Int) (x1002 : Option Addr) (x2000 : Int) (x2001 : Int) (x2002 : Option Addr) (w : World) : (Instr.buildSlice 119 2 [(0, (.agg #[.int .i64 x1000, .int .i64 x1001, .pointer x1002])), (1, (.agg #[.int .i64 x2000, .int .i64 x2001, .pointer x2002]))].toArray).run Try.prog w = .ok (.slice (some ⟨w.heap.size, 0, none⟩) 2 2) (w.alloc (.cells [.int .i64 x1000, .int .i64 x1001, .pointer x1002, .int .i64 x2000, .int .i64 x2001, .pointer x2002].toArray 123)) := by kernel_rfl
def hdCells (h : Pl.Hd) : List Value := [str h.name, str h.pre, str h.link, .int .i64 h.mode, .int .i64 h.uid, .int .i64 h.gid, .int .i64 h.size, .int .i64 h.mtime, u8 h.typ, .int .i64 h.off, .int .i64 h.real]
def hdV (h : Pl.Hd) : Value := .agg (hdCells h).toArray
/-- A place of a header's: its cells. -/
def wc (g : Nat) (x : Nat × Nat × Nat) : List Value := [.int .i64 (x.1 : Int), .int .i64 (x.2.1 : Int), .pointer (some ⟨g, x.2.2, none⟩)]
theorem wc_len (g : Nat) (x : Nat × Nat × Nat) : (wc g x).length = 3 := rfl
theorem words_yes {t : UInt8} (g : Nat) (h : ¬ (t.toNat : Int) = 77) : (Pl.wordsL t).flatMap (wc g) = [.int .i64 0, .int .i64 100, .pointer (some ⟨g, 0, none⟩), .int .i64 157, .int .i64 100, .pointer (some ⟨g, 2, none⟩)] ++ [.int .i64 345, .int .i64 155, .pointer (some ⟨g, 1, none⟩)] := by
  rw [Pl.wordsL, if_neg (by intro e; subst e; exact h rfl)]; rfl
theorem words_no {t : UInt8} (g : Nat) (h : (t.toNat : Int) = 77) : (Pl.wordsL t).flatMap (wc g) = [.int .i64 0, .int .i64 100, .pointer (some ⟨g, 0, none⟩), .int .i64 157, .int .i64 100, .pointer (some ⟨g, 2, none⟩)] := by
  have e : t = 77 := UInt8.toNat_inj.1 (by show t.toNat = 77; omega)
  rw [Pl.wordsL, if_pos e]; rfl
theorem nums_yes {t : UInt8} (g : Nat) (h : (t.toNat : Int) = 77) : (Pl.numsL t).flatMap (wc g) = [.int .i64 100, .int .i64 8, .pointer (some ⟨g, 3, none⟩), .int .i64 108, .int .i64 8, .pointer (some ⟨g, 4, none⟩), .int .i64 116, .int .i64 8, .pointer (some ⟨g, 5, none⟩), .int .i64 124, .int .i64 12, .pointer (some ⟨g, 6, none⟩), .int .i64 136, .int .i64 12, .pointer (some ⟨g, 7, none⟩)] ++ [.int .i64 369, .int .i64 12, .pointer (some ⟨g, 9, none⟩), .int .i64 483, .int .i64 12, .pointer (some ⟨g, 10, none⟩)] := by
  have e : t = 77 := UInt8.toNat_inj.1 (by show t.toNat = 77; omega)
  rw [Pl.numsL, if_pos e]; rfl
theorem nums_no {t : UInt8} (g : Nat) (h : ¬ (t.toNat : Int) = 77) : (Pl.numsL t).flatMap (wc g) = [.int .i64 100, .int .i64 8, .pointer (some ⟨g, 3, none⟩), .int .i64 108, .int .i64 8, .pointer (some ⟨g, 4, none⟩), .int .i64 116, .int .i64 8, .pointer (some ⟨g, 5, none⟩), .int .i64 124, .int .i64 12, .pointer (some ⟨g, 6, none⟩), .int .i64 136, .int .i64 12, .pointer (some ⟨g, 7, none⟩)] := by
  rw [Pl.numsL, if_neg (by intro e; subst e; exact h rfl)]; rfl
theorem x_indexByteB {S : Nat → Prop} {v : Value} {bs : List UInt8} {c : UInt8} {w : World} (h : Byt S w v bs) : (callFunc 191 [v, u8 c].toArray).run Try.prog w = .ok (.value (.int .i64 (Lib.indexByte bs c))) w := by
  rw [run_callFunc_extern Try.func191 (by kernel_rfl) (by kernel_rfl) (by kernel_rfl) (e := Extern.BytealgIndexByte.indexByte) (by kernel_rfl)]
  show (Sem.run Try.prog (Extern.BytealgIndexByte.indexByte #[v, u8 c]) w).andThen _ = _
  rw [run_indexByteB h]
  simp [Result.andThen]
theorem sum_next {b : List UInt8} {k : Nat} {x : UInt8} (hx : b[k]? = some x) : Pl.sumAt 0 (b.take (k + 1)) = Pl.sumAt 0 (b.take k) + (if 148 ≤ k ∧ k < 156 then 32 else (x.toNat : Int)) := by
  have hk := (List.getElem?_eq_some_iff.1 hx).1
  rw [List.take_add_one, hx]
  show Pl.sumAt 0 (b.take k ++ [x]) = _
  rw [Pl.sumAt_next, List.length_take, Nat.min_eq_left (by omega), Nat.zero_add]
theorem putw_eq {p x : List UInt8} {i m : Nat} (hm : m = 512 - i) (hx : x.length ≤ m) : (p.map u8).take i ++ (x.map u8).take m ++ (p.map u8).drop (i + min x.length m) = (Pl.wr p i x).map u8 := by
  rw [List.take_of_length_le (l := x.map u8) (by simpa using hx), Nat.min_eq_left hx]
  simp [Pl.wr]
theorem wrs_next {p : List UInt8} {i k : Nat} {l : List (List UInt8)} {x : List UInt8} (hx : l[k]? = some x) : Pl.wr (Pl.wrs p i (l.take k)) (i + (l.take k).flatten.length) x = Pl.wrs p i (l.take (k + 1)) := by
  rw [List.take_add_one, hx]
  show _ = Pl.wrs p i (l.take k ++ [x])
  rw [Pl.wrs_append]; rfl

/-- head.words -/
theorem c_words (g : Nat) (h : Pl.Hd) (w : World) (hg : Blk w g 41 (hdCells h)) :
  C Try.prog 90 [.pointer (some ⟨g, 0, none⟩)] w fun v w' => Sts (wc g) (fun b => w.heap.size ≤ b) w' v (Pl.wordsL h.typ) ∧ Kept w w' := by
 refine enterE Try.func90 rfl 26 rfl rfl fun a0 h0 => ?_
 have hB := Kept.refl w
 refine sq fun K1 hK1 => ?_
 refine reg [some 2] rfl ?_
 refine asg h0 rfl rfl fun a1 h1 => ?_
 clear h0 a0
 refine wpL_nil (hK1 _ _ ?_)
 refine sq fun K2 hK2 => ?_
 clear hK1 K1
 refine drw h1 [some 4, some 5, some 6, some 7, some 8, some 9, some 10, some 11, some 12, some 3] rfl [Fx (.pointer (some ⟨g, 0, none⟩)), Fx (.pointer (some ⟨g, 0, none⟩)), Fx (.pointer (some ⟨g, 0, none⟩)), Fx (.agg #[(.int .i64 0), (.int .i64 100), .pointer (some ⟨g, 0, none⟩)]), Fx (.pointer (some ⟨g, 0, none⟩)), Fx (.pointer (some ⟨g, 0, none⟩)), Fx (.pointer (some ⟨g, 2, none⟩)), Fx (.agg #[(.int .i64 157), (.int .i64 100), .pointer (some ⟨g, 2, none⟩)]), fun v w' => ∃ q, v = .slice (some ⟨q, 0, none⟩) 2 2 ∧ w.heap.size ≤ q ∧ Blk w' q 116 [.int .i64 0, .int .i64 100, .pointer (some ⟨g, 0, none⟩), .int .i64 157, .int .i64 100, .pointer (some ⟨g, 2, none⟩)], fun v w' => ∃ q, v = .slice (some ⟨q, 0, none⟩) 2 2 ∧ w.heap.size ≤ q ∧ Blk w' q 116 [.int .i64 0, .int .i64 100, .pointer (some ⟨g, 0, none⟩), .int .i64 157, .int .i64 100, .pointer (some ⟨g, 2, none⟩)]] Kept rfl rfl rfl rfl (drewKept _) keptT (mcons mfx (mcons mfx (mcons mfx (mcons mfx (mcons mfx (mcons mfx (mcons mfx (mcons mfx (mcons (fun v w w' hk h => by obtain ⟨g, h1, h2, h3⟩ := h; exact ⟨g, h1, h2, h3.kept hk⟩) (mcons (fun v w w' hk h => by obtain ⟨g, h1, h2, h3⟩ := h; exact ⟨g, h1, h2, h3.kept hk⟩) mnil)))))))))) ⟨?_, ?_, ?_, ?_, ?_, ?_, ?_, ?_, ?_, ?_, trivial⟩ ?_
 ·
  intro L a w_ hH hb hR hd ho
  have hl0 := hb 0 _ rfl
  refine mv hH hl0 rfl fun a2 h2 => ?_
  exact wpL_nil ⟨_, h2, Kept.refl _, rfl⟩
 ·
  intro L a w_ hH hb hR hd ho
  obtain ⟨_, hl4, rfl⟩ := hd 0 rfl
  refine nlc hH hl4 rfl fun a3 h3 => ?_
  exact wpL_nil ⟨_, h3, Kept.refl _, rfl⟩
 ·
  intro L a w_ hH hb hR hd ho
  obtain ⟨_, hl5, rfl⟩ := hd 1 rfl
  refine fab hH hl5 Try.underlying41 rfl Try.sizeOf9 rfl 0 rfl rfl fun a4 h4 => ?_
  exact wpL_nil ⟨_, h4, Kept.refl _, rfl⟩
 ·
  intro L a w_ hH hb hR hd ho
  obtain ⟨_, hl6, rfl⟩ := hd 2 rfl
  refine bld hH (evpc rfl (evpc rfl (evpc hl6 evp0))) (bld116_0_1_2 _ _ _) rfl fun a5 h5 => ?_
  exact wpL_nil ⟨_, h5, Kept.refl _, rfl⟩
 ·
  intro L a w_ hH hb hR hd ho
  have hl0 := hb 0 _ rfl
  refine mv hH hl0 rfl fun a6 h6 => ?_
  exact wpL_nil ⟨_, h6, Kept.refl _, rfl⟩
 ·
  intro L a w_ hH hb hR hd ho
  obtain ⟨_, hl8, rfl⟩ := hd 4 rfl
  refine nlc hH hl8 rfl fun a7 h7 => ?_
  exact wpL_nil ⟨_, h7, Kept.refl _, rfl⟩
 ·
  intro L a w_ hH hb hR hd ho
  obtain ⟨_, hl9, rfl⟩ := hd 5 rfl
  refine fab hH hl9 Try.underlying41 rfl Try.sizeOf9 rfl 2 rfl rfl fun a8 h8 => ?_
  exact wpL_nil ⟨_, h8, Kept.refl _, rfl⟩
 ·
  intro L a w_ hH hb hR hd ho
  obtain ⟨_, hl10, rfl⟩ := hd 6 rfl
  refine bld hH (evpc rfl (evpc rfl (evpc hl10 evp0))) (bld116_0_1_2 _ _ _) rfl fun a9 h9 => ?_
  exact wpL_nil ⟨_, h9, Kept.refl _, rfl⟩
 ·
  intro L a w_ hH hb hR hd ho
  obtain ⟨_, hl7, rfl⟩ := hd 3 rfl
  obtain ⟨_, hl11, rfl⟩ := hd 7 rfl
  refine bsl hH (evpc hl7 (evpc hl11 evp0)) (bsl2_111_0_1 _ _ _ _ _ _) rfl fun a10 w1 g12 h10 hk1 hz12 hg12 => ?_
  exact wpL_nil ⟨_, h10, hk1, ⟨_, rfl, Nat.le_trans (Nat.le_trans hB.size hR.size) hz12, hg12⟩⟩
 ·
  intro L a w_ hH hb hR hd ho
  obtain ⟨v12, hl12, hf12⟩ := hd 8 rfl
  refine asg hH hl12 rfl fun a11 h11 => ?_
  exact wpL_nil ⟨_, h11, Kept.refl _, hf12⟩
 intro L2 a12 w2 h12 hbh12 hRh12 hdh12
 obtain ⟨_, hl4, rfl⟩ := hdh12 0 (by decide)
 obtain ⟨_, hl5, rfl⟩ := hdh12 1 (by decide)
 obtain ⟨_, hl6, rfl⟩ := hdh12 2 (by decide)
 obtain ⟨_, hl7, rfl⟩ := hdh12 3 (by decide)
 obtain ⟨_, hl8, rfl⟩ := hdh12 4 (by decide)
 obtain ⟨_, hl9, rfl⟩ := hdh12 5 (by decide)
 obtain ⟨_, hl10, rfl⟩ := hdh12 6 (by decide)
 obtain ⟨_, hl11, rfl⟩ := hdh12 7 (by decide)
 obtain ⟨v12, hl12, hf12⟩ := hdh12 8 (by decide)
 obtain ⟨v3, hl3, hf3⟩ := hdh12 9 (by decide)
 have h13 := Has.under h12 hbh12
 have h14 := (h12.add hl3 (h12.add hl12 (h12.add hl11 (h12.add hl10 (h12.add hl9 (h12.add hl8 (h12.add hl7 (h12.add hl6 (h12.add hl5 (h12.add hl4 h13))))))))))
 clear h13 hl4 hl5 hl6 hl7 hl8 hl9 hl10 hl11 hl12 hl3 hbh12 hdh12
 replace hB := Kept.trans hB hRh12
 replace hg := hg.kept hRh12
 obtain ⟨g3, rfl, hz3, hB3⟩ := hf3
 refine hK2 _ _ ?_
 refine sq fun K3 hK3 => ?_
 refine sq fun K4 hK4 => ?_
 refine reg [some 13, some 14, some 15, some 16, some 17] rfl ?_
 refine mv h14 rfl rfl fun a15 h15 => ?_
 refine nlc h15 rfl rfl fun a16 h16 => ?_
 refine fab h16 rfl Try.underlying41 rfl Try.sizeOf5 rfl 8 rfl rfl fun a17 h17 => ?_
 refine ldb h17 hg rfl Try.isAgg5 rfl rfl fun a18 h18 => ?_
 refine ineq h18 rfl rfl rfl fun a19 h19 => ?_
 clear hK2 h14 h15 h16 h17 h18 K2 a15 a16 a17 a18
 refine wpL_nil (hK4 _ _ ?_)
 refine spl h19 (d := 17) rfl (fun hb1 => ?_) (fun hb1 => ?_)
 ·
  have hp1 := of_decide_eq_false (bunt hb1)
  refine cdt h19 rfl (bnf (bunt hb1)) ?_
  refine reg [some 18, some 19, some 20, some 21, some 22, some 23, some 24, some 3] rfl ?_
  refine mv h19 rfl rfl fun a20 h20 => ?_
  refine mv h20 rfl rfl fun a21 h21 => ?_
  refine nlc h21 rfl rfl fun a22 h22 => ?_
  refine fab h22 rfl Try.underlying41 rfl Try.sizeOf9 rfl 1 rfl rfl fun a23 h23 => ?_
  refine bld h23 rfl (bld116_0_1_2 _ _ _) rfl fun a24 h24 => ?_
  refine bsl h24 rfl (bsl1_111_0 _ _ _) rfl fun a25 w3 g23 h25 hk3 hz23 hg23 => ?_
  have hleg23 := Nat.le_trans hB.size hz23
  have hnegg23 := Nat.lt_of_lt_of_le hg.lt hz23
  have hneg3g23 := Nat.lt_of_lt_of_le hB3.lt hz23
  replace hB := Kept.trans hB hk3
  replace hB3 := hB3.kept hk3
  refine apf h25 (lo := w.heap.size) (c := 2) (m := 1) (sz := 3) rfl rfl Try.underlying111 Try.type116 rfl rfl rfl (by decide) hB3 (by rfl) hB.size (Blk.in_ hg23 0 3 [.int .i64 345, .int .i64 155, .pointer (some ⟨g, 1, none⟩)] rfl) (by rfl) (by omega) (by show (_ + _) * 24 ≤ _; simp) (by decide) rfl fun a26 v24' w4 h26 hO24 hk4 => ?_
  replace hB := Kept.trans hB hk4
  refine asg h26 rfl rfl fun a27 h27 => ?_
  clear hK4 h19 h20 h21 h22 h23 h24 h25 h26 K4 a19 a20 a21 a22 a23 a24 a25 a26
  refine wpL_nil (hK3 _ _ ?_)
  refine sq fun K5 hK5 => ?_
  refine reg [some 25, some 2] rfl ?_
  refine mv h27 rfl rfl fun a28 h28 => ?_
  refine asg h28 rfl rfl fun a29 h29 => ?_
  clear hK3 h27 h28 K3 a27 a28
  refine wpL_nil (hK5 _ _ ?_)
  refine rtn (leave h29 (res1 h29 rfl (rvt rfl)) ?_)
  exact ⟨_, rfl, Own.sts (wc_len g) (by decide) (by rw [words_yes g hp1]; exact hO24), hB⟩
 ·
  have hp1 := of_decide_eq_true (bunf hb1)
  refine cdf h19 rfl (bnt (bunf hb1)) ?_
  refine skp (hK3 _ _ ?_)
  refine sq fun K6 hK6 => ?_
  refine reg [some 25, some 2] rfl ?_
  refine mv h19 rfl rfl fun a30 h30 => ?_
  refine asg h30 rfl rfl fun a31 h31 => ?_
  clear hK4 hK3 h19 h30 K4 K3 a19 a30
  refine wpL_nil (hK6 _ _ ?_)
  refine rtn (leave h31 (res1 h31 rfl (rvt rfl)) ?_)
  exact ⟨_, rfl, Own.sts (wc_len g) (by decide) (by rw [words_no g hp1]; exact Own.of_blk hB3 hz3 (by rfl) (by omega)), hB⟩

/-- head.numbers -/
theorem c_numbers (g : Nat) (h : Pl.Hd) (w : World) (hg : Blk w g 41 (hdCells h)) :
  C Try.prog 92 [.pointer (some ⟨g, 0, none⟩)] w fun v w' => Sts (wc g) (fun b => w.heap.size ≤ b) w' v (Pl.numsL h.typ) ∧ Kept w w' := by
 refine enterE Try.func92 rfl 42 rfl rfl fun a0 h0 => ?_
 have hB := Kept.refl w
 refine sq fun K1 hK1 => ?_
 refine reg [some 2] rfl ?_
 refine asg h0 rfl rfl fun a1 h1 => ?_
 clear h0 a0
 refine wpL_nil (hK1 _ _ ?_)
 refine sq fun K2 hK2 => ?_
 clear hK1 K1
 refine drw h1 [some 4, some 5, some 6, some 7, some 8, some 9, some 10, some 11, some 12, some 13, some 14, some 15, some 16, some 17, some 18, some 19, some 20, some 21, some 22, some 23, some 24, some 3] rfl [Fx (.pointer (some ⟨g, 0, none⟩)), Fx (.pointer (some ⟨g, 0, none⟩)), Fx (.pointer (some ⟨g, 3, none⟩)), Fx (.agg #[(.int .i64 100), (.int .i64 8), .pointer (some ⟨g, 3, none⟩)]), Fx (.pointer (some ⟨g, 0, none⟩)), Fx (.pointer (some ⟨g, 0, none⟩)), Fx (.pointer (some ⟨g, 4, none⟩)), Fx (.agg #[(.int .i64 108), (.int .i64 8), .pointer (some ⟨g, 4, none⟩)]), Fx (.pointer (some ⟨g, 0, none⟩)), Fx (.pointer (some ⟨g, 0, none⟩)), Fx (.pointer (some ⟨g, 5, none⟩)), Fx (.agg #[(.int .i64 116), (.int .i64 8), .pointer (some ⟨g, 5, none⟩)]), Fx (.pointer (some ⟨g, 0, none⟩)), Fx (.pointer (some ⟨g, 0, none⟩)), Fx (.pointer (some ⟨g, 6, none⟩)), Fx (.agg #[(.int .i64 124), (.int .i64 12), .pointer (some ⟨g, 6, none⟩)]), Fx (.pointer (some ⟨g, 0, none⟩)), Fx (.pointer (some ⟨g, 0, none⟩)), Fx (.pointer (some ⟨g, 7, none⟩)), Fx (.agg #[(.int .i64 136), (.int .i64 12), .pointer (some ⟨g, 7, none⟩)]), fun v w' => ∃ q, v = .slice (some ⟨q, 0, none⟩) 5 5 ∧ w.heap.size ≤ q ∧ Blk w' q 123 [.int .i64 100, .int .i64 8, .pointer (some ⟨g, 3, none⟩), .int .i64 108, .int .i64 8, .pointer (some ⟨g, 4, none⟩), .int .i64 116, .int .i64 8, .pointer (some ⟨g, 5, none⟩), .int .i64 124, .int .i64 12, .pointer (some ⟨g, 6, none⟩), .int .i64 136, .int .i64 12, .pointer (some ⟨g, 7, none⟩)], fun v w' => ∃ q, v = .slice (some ⟨q, 0, none⟩) 5 5 ∧ w.heap.size ≤ q ∧ Blk w' q 123 [.int .i64 100, .int .i64 8, .pointer (some ⟨g, 3, none⟩), .int .i64 108, .int .i64 8, .pointer (some ⟨g, 4, none⟩), .int .i64 116, .int .i64 8, .pointer (some ⟨g, 5, none⟩), .int .i64 124, .int .i64 12, .pointer (some ⟨g, 6, none⟩), .int .i64 136, .int .i64 12, .pointer (some ⟨g, 7, none⟩)]] Kept rfl rfl rfl rfl (drewKept _) keptT (mcons mfx (mcons mfx (mcons mfx (mcons mfx (mcons mfx (mcons mfx (mcons mfx (mcons mfx (mcons mfx (mcons mfx (mcons mfx (mcons mfx (mcons mfx (mcons mfx (mcons mfx (mcons mfx (mcons mfx (mcons mfx (mcons mfx (mcons mfx (mcons (fun v w w' hk h => by obtain ⟨g, h1, h2, h3⟩ := h; exact ⟨g, h1, h2, h3.kept hk⟩) (mcons (fun v w w' hk h => by obtain ⟨g, h1, h2, h3⟩ := h; exact ⟨g, h1, h2, h3.kept hk⟩) mnil)))))))))))))))))))))) ⟨?_, ?_, ?_, ?_, ?_, ?_, ?_, ?_, ?_, ?_, ?_, ?_, ?_, ?_, ?_, ?_, ?_, ?_, ?_, ?_, ?_, ?_, trivial⟩ ?_
 ·
  intro L a w_ hH hb hR hd ho
  have hl0 := hb 0 _ rfl
  refine mv hH hl0 rfl fun a2 h2 => ?_
  exact wpL_nil ⟨_, h2, Kept.refl _, rfl⟩
 ·
  intro L a w_ hH hb hR hd ho
  obtain ⟨_, hl4, rfl⟩ := hd 0 rfl
  refine nlc hH hl4 rfl fun a3 h3 => ?_
  exact wpL_nil ⟨_, h3, Kept.refl _, rfl⟩
 ·
  intro L a w_ hH hb hR hd ho
  obtain ⟨_, hl5, rfl⟩ := hd 1 rfl
  refine fab hH hl5 Try.underlying41 rfl Try.sizeOf3 rfl 3 rfl rfl fun a4 h4 => ?_
  exact wpL_nil ⟨_, h4, Kept.refl _, rfl⟩
 ·
  intro L a w_ hH hb hR hd ho
  obtain ⟨_, hl6, rfl⟩ := hd 2 rfl
  refine bld hH (evpc rfl (evpc rfl (evpc hl6 evp0))) (bld123_0_1_2 _ _ _) rfl fun a5 h5 => ?_
  exact wpL_nil ⟨_, h5, Kept.refl _, rfl⟩
 ·
  intro L a w_ hH hb hR hd ho
  have hl0 := hb 0 _ rfl
  refine mv hH hl0 rfl fun a6 h6 => ?_
  exact wpL_nil ⟨_, h6, Kept.refl _, rfl⟩
 ·
  intro L a w_ hH hb hR hd ho
  obtain ⟨_, hl8, rfl⟩ := hd 4 rfl
  refine nlc hH hl8 rfl fun a7 h7 => ?_
  exact wpL_nil ⟨_, h7, Kept.refl _, rfl⟩
 ·
  intro L a w_ hH hb hR hd ho
  obtain ⟨_, hl9, rfl⟩ := hd 5 rfl
  refine fab hH hl9 Try.underlying41 rfl Try.sizeOf3 rfl 4 rfl rfl fun a8 h8 => ?_
  exact wpL_nil ⟨_, h8, Kept.refl _, rfl⟩
 ·
  intro L a w_ hH hb hR hd ho
  obtain ⟨_, hl10, rfl⟩ := hd 6 rfl
  refine bld hH (evpc rfl (evpc rfl (evpc hl10 evp0))) (bld123_0_1_2 _ _ _) rfl fun a9 h9 => ?_
  exact wpL_nil ⟨_, h9, Kept.refl _, rfl⟩
 ·
  intro L a w_ hH hb hR hd ho
  have hl0 := hb 0 _ rfl
  refine mv hH hl0 rfl fun a10 h10 => ?_
  exact wpL_nil ⟨_, h10, Kept.refl _, rfl⟩
 ·
  intro L a w_ hH hb hR hd ho
  obtain ⟨_, hl12, rfl⟩ := hd 8 rfl
  refine nlc hH hl12 rfl fun a11 h11 => ?_
  exact wpL_nil ⟨_, h11, Kept.refl _, rfl⟩
 ·
  intro L a w_ hH hb hR hd ho
  obtain ⟨_, hl13, rfl⟩ := hd 9 rfl
  refine fab hH hl13 Try.underlying41 rfl Try.sizeOf3 rfl 5 rfl rfl fun a12 h12 => ?_
  exact wpL_nil ⟨_, h12, Kept.refl _, rfl⟩
 ·
  intro L a w_ hH hb hR hd ho
  obtain ⟨_, hl14, rfl⟩ := hd 10 rfl
  refine bld hH (evpc rfl (evpc rfl (evpc hl14 evp0))) (bld123_0_1_2 _ _ _) rfl fun a13 h13 => ?_
  exact wpL_nil ⟨_, h13, Kept.refl _, rfl⟩
 ·
  intro L a w_ hH hb hR hd ho
  have hl0 := hb 0 _ rfl
  refine mv hH hl0 rfl fun a14 h14 => ?_
  exact wpL_nil ⟨_, h14, Kept.refl _, rfl⟩
 ·
  intro L a w_ hH hb hR hd ho
  obtain ⟨_, hl16, rfl⟩ := hd 12 rfl
  refine nlc hH hl16 rfl fun a15 h15 => ?_
  exact wpL_nil ⟨_, h15, Kept.refl _, rfl⟩
 ·
  intro L a w_ hH hb hR hd ho
  obtain ⟨_, hl17, rfl⟩ := hd 13 rfl
  refine fab hH hl17 Try.underlying41 rfl Try.sizeOf3 rfl 6 rfl rfl fun a16 h16 => ?_
  exact wpL_nil ⟨_, h16, Kept.refl _, rfl⟩
 ·
  intro L a w_ hH hb hR hd ho
  obtain ⟨_, hl18, rfl⟩ := hd 14 rfl
  refine bld hH (evpc rfl (evpc rfl (evpc hl18 evp0))) (bld123_0_1_2 _ _ _) rfl fun a17 h17 => ?_
  exact wpL_nil ⟨_, h17, Kept.refl _, rfl⟩
 ·
  intro L a w_ hH hb hR hd ho
  have hl0 := hb 0 _ rfl
  refine mv hH hl0 rfl fun a18 h18 => ?_
  exact wpL_nil ⟨_, h18, Kept.refl _, rfl⟩
 ·
  intro L a w_ hH hb hR hd ho
  obtain ⟨_, hl20, rfl⟩ := hd 16 rfl
  refine nlc hH hl20 rfl fun a19 h19 => ?_
  exact wpL_nil ⟨_, h19, Kept.refl _, rfl⟩
 ·
  intro L a w_ hH hb hR hd ho
  obtain ⟨_, hl21, rfl⟩ := hd 17 rfl
  refine fab hH hl21 Try.underlying41 rfl Try.sizeOf3 rfl 7 rfl rfl fun a20 h20 => ?_
  exact wpL_nil ⟨_, h20, Kept.refl _, rfl⟩
 ·
  intro L a w_ hH hb hR hd ho
  obtain ⟨_, hl22, rfl⟩ := hd 18 rfl
  refine bld hH (evpc rfl (evpc rfl (evpc hl22 evp0))) (bld123_0_1_2 _ _ _) rfl fun a21 h21 => ?_
  exact wpL_nil ⟨_, h21, Kept.refl _, rfl⟩
 ·
  intro L a w_ hH hb hR hd ho
  obtain ⟨_, hl7, rfl⟩ := hd 3 rfl
  obtain ⟨_, hl11, rfl⟩ := hd 7 rfl
  obtain ⟨_, hl15, rfl⟩ := hd 11 rfl
  obtain ⟨_, hl19, rfl⟩ := hd 15 rfl
  obtain ⟨_, hl23, rfl⟩ := hd 19 rfl
  refine bsl hH (evpc hl7 (evpc hl11 (evpc hl15 (evpc hl19 (evpc hl23 evp0))))) (bsl5_119_0_1_2_3_4 _ _ _ _ _ _ _ _ _ _ _ _ _ _ _) rfl fun a22 w1 g24 h22 hk1 hz24 hg24 => ?_
  exact wpL_nil ⟨_, h22, hk1, ⟨_, rfl, Nat.le_trans (Nat.le_trans hB.size hR.size) hz24, hg24⟩⟩
 ·
  intro L a w_ hH hb hR hd ho
  obtain ⟨v24, hl24, hf24⟩ := hd 20 rfl
  refine asg hH hl24 rfl fun a23 h23 => ?_
  exact wpL_nil ⟨_, h23, Kept.refl _, hf24⟩
 intro L2 a24 w2 h24 hbh24 hRh24 hdh24
 obtain ⟨_, hl4, rfl⟩ := hdh24 0 (by decide)
 obtain ⟨_, hl5, rfl⟩ := hdh24 1 (by decide)
 obtain ⟨_, hl6, rfl⟩ := hdh24 2 (by decide)
 obtain ⟨_, hl7, rfl⟩ := hdh24 3 (by decide)
 obtain ⟨_, hl8, rfl⟩ := hdh24 4 (by decide)
 obtain ⟨_, hl9, rfl⟩ := hdh24 5 (by decide)
 obtain ⟨_, hl10, rfl⟩ := hdh24 6 (by decide)
 obtain ⟨_, hl11, rfl⟩ := hdh24 7 (by decide)
 obtain ⟨_, hl12, rfl⟩ := hdh24 8 (by decide)
 obtain ⟨_, hl13, rfl⟩ := hdh24 9 (by decide)
 obtain ⟨_, hl14, rfl⟩ := hdh24 10 (by decide)
 obtain ⟨_, hl15, rfl⟩ := hdh24 11 (by decide)
 obtain ⟨_, hl16, rfl⟩ := hdh24 12 (by decide)
 obtain ⟨_, hl17, rfl⟩ := hdh24 13 (by decide)
 obtain ⟨_, hl18, rfl⟩ := hdh24 14 (by decide)
 obtain ⟨_, hl19, rfl⟩ := hdh24 15 (by decide)
 obtain ⟨_, hl20, rfl⟩ := hdh24 16 (by decide)
 obtain ⟨_, hl21, rfl⟩ := hdh24 17 (by decide)
 obtain ⟨_, hl22, rfl⟩ := hdh24 18 (by decide)
 obtain ⟨_, hl23, rfl⟩ := hdh24 19 (by decide)
 obtain ⟨v24, hl24, hf24⟩ := hdh24 20 (by decide)
 obtain ⟨v3, hl3, hf3⟩ := hdh24 21 (by decide)
 have h25 := Has.under h24 hbh24
 have h26 := (h24.add hl3 (h24.add hl24 (h24.add hl23 (h24.add hl22 (h24.add hl21 (h24.add hl20 (h24.add hl19 (h24.add hl18 (h24.add hl17 (h24.add hl16 (h24.add hl15 (h24.add hl14 (h24.add hl13 (h24.add hl12 (h24.add hl11 (h24.add hl10 (h24.add hl9 (h24.add hl8 (h24.add hl7 (h24.add hl6 (h24.add hl5 (h24.add hl4 h25))))))))))))))))))))))
 clear h25 hl4 hl5 hl6 hl7 hl8 hl9 hl10 hl11 hl12 hl13 hl14 hl15 hl16 hl17 hl18 hl19 hl20 hl21 hl22 hl23 hl24 hl3 hbh24 hdh24
 replace hB := Kept.trans hB hRh24
 replace hg := hg.kept hRh24
 obtain ⟨g3, rfl, hz3, hB3⟩ := hf3
 refine hK2 _ _ ?_
 refine sq fun K3 hK3 => ?_
 refine sq fun K4 hK4 => ?_
 refine reg [some 25, some 26, some 27, some 28, some 29] rfl ?_
 refine mv h26 rfl rfl fun a27 h27 => ?_
 refine nlc h27 rfl rfl fun a28 h28 => ?_
 refine fab h28 rfl Try.underlying41 rfl Try.sizeOf5 rfl 8 rfl rfl fun a29 h29 => ?_
 refine ldb h29 hg rfl Try.isAgg5 rfl rfl fun a30 h30 => ?_
 refine ieq h30 rfl rfl rfl fun a31 h31 => ?_
 clear hK2 h26 h27 h28 h29 h30 K2 a27 a28 a29 a30
 refine wpL_nil (hK4 _ _ ?_)
 refine spl h31 (d := 29) rfl (fun hb1 => ?_) (fun hb1 => ?_)
 ·
  have hp1 := of_decide_eq_true hb1
  refine cdt h31 rfl hb1 ?_
  clear hK4 K4
  refine drw h31 [some 30, some 31, some 32, some 33, some 34, some 35, some 36, some 37, some 38, some 39, some 40, some 3] rfl [Fx (.slice (some ⟨g3, 0, none⟩) 5 5), Fx (.pointer (some ⟨g, 0, none⟩)), Fx (.pointer (some ⟨g, 0, none⟩)), Fx (.pointer (some ⟨g, 9, none⟩)), Fx (.agg #[(.int .i64 369), (.int .i64 12), .pointer (some ⟨g, 9, none⟩)]), Fx (.pointer (some ⟨g, 0, none⟩)), Fx (.pointer (some ⟨g, 0, none⟩)), Fx (.pointer (some ⟨g, 10, none⟩)), Fx (.agg #[(.int .i64 483), (.int .i64 12), .pointer (some ⟨g, 10, none⟩)]), fun v w' => ∃ q, v = .slice (some ⟨q, 0, none⟩) 2 2 ∧ w.heap.size ≤ q ∧ Blk w' q 123 [.int .i64 369, .int .i64 12, .pointer (some ⟨g, 9, none⟩), .int .i64 483, .int .i64 12, .pointer (some ⟨g, 10, none⟩)], fun v w' => K.Own w.heap.size w' v 123 3 ([.int .i64 100, .int .i64 8, .pointer (some ⟨g, 3, none⟩), .int .i64 108, .int .i64 8, .pointer (some ⟨g, 4, none⟩), .int .i64 116, .int .i64 8, .pointer (some ⟨g, 5, none⟩), .int .i64 124, .int .i64 12, .pointer (some ⟨g, 6, none⟩), .int .i64 136, .int .i64 12, .pointer (some ⟨g, 7, none⟩)] ++ [.int .i64 369, .int .i64 12, .pointer (some ⟨g, 9, none⟩), .int .i64 483, .int .i64 12, .pointer (some ⟨g, 10, none⟩)]), fun v w' => K.Own w.heap.size w' v 123 3 ([.int .i64 100, .int .i64 8, .pointer (some ⟨g, 3, none⟩), .int .i64 108, .int .i64 8, .pointer (some ⟨g, 4, none⟩), .int .i64 116, .int .i64 8, .pointer (some ⟨g, 5, none⟩), .int .i64 124, .int .i64 12, .pointer (some ⟨g, 6, none⟩), .int .i64 136, .int .i64 12, .pointer (some ⟨g, 7, none⟩)] ++ [.int .i64 369, .int .i64 12, .pointer (some ⟨g, 9, none⟩), .int .i64 483, .int .i64 12, .pointer (some ⟨g, 10, none⟩)])] Kept rfl rfl rfl rfl (drewKept _) keptT (mcons mfx (mcons mfx (mcons mfx (mcons mfx (mcons mfx (mcons mfx (mcons mfx (mcons mfx (mcons mfx (mcons (fun v w w' hk h => by obtain ⟨g, h1, h2, h3⟩ := h; exact ⟨g, h1, h2, h3.kept hk⟩) (mcons (fun v w w' hk h => h.kept hk) (mcons (fun v w w' hk h => h.kept hk) mnil)))))))))))) ⟨?_, ?_, ?_, ?_, ?_, ?_, ?_, ?_, ?_, ?_, ?_, ?_, trivial⟩ ?_
  ·
   intro L a w_ hH hb hR hd ho
   have hl3 := ho 3 _ rfl rfl
   refine mv hH hl3 rfl fun a32 h32 => ?_
   exact wpL_nil ⟨_, h32, Kept.refl _, rfl⟩
  ·
   intro L a w_ hH hb hR hd ho
   have hl0 := hb 0 _ rfl
   refine mv hH hl0 rfl fun a33 h33 => ?_
   exact wpL_nil ⟨_, h33, Kept.refl _, rfl⟩
  ·
   intro L a w_ hH hb hR hd ho
   obtain ⟨_, hl31, rfl⟩ := hd 1 rfl
   refine nlc hH hl31 rfl fun a34 h34 => ?_
   exact wpL_nil ⟨_, h34, Kept.refl _, rfl⟩
  ·
   intro L a w_ hH hb hR hd ho
   obtain ⟨_, hl32, rfl⟩ := hd 2 rfl
   refine fab hH hl32 Try.underlying41 rfl Try.sizeOf3 rfl 9 rfl rfl fun a35 h35 => ?_
   exact wpL_nil ⟨_, h35, Kept.refl _, rfl⟩
  ·
   intro L a w_ hH hb hR hd ho
   obtain ⟨_, hl33, rfl⟩ := hd 3 rfl
   refine bld hH (evpc rfl (evpc rfl (evpc hl33 evp0))) (bld123_0_1_2 _ _ _) rfl fun a36 h36 => ?_
   exact wpL_nil ⟨_, h36, Kept.refl _, rfl⟩
  ·
   intro L a w_ hH hb hR hd ho
   have hl0 := hb 0 _ rfl
   refine mv hH hl0 rfl fun a37 h37 => ?_
   exact wpL_nil ⟨_, h37, Kept.refl _, rfl⟩
  ·
   intro L a w_ hH hb hR hd ho
   obtain ⟨_, hl35, rfl⟩ := hd 5 rfl
   refine nlc hH hl35 rfl fun a38 h38 => ?_
   exact wpL_nil ⟨_, h38, Kept.refl _, rfl⟩
  ·
   intro L a w_ hH hb hR hd ho
   obtain ⟨_, hl36, rfl⟩ := hd 6 rfl
   refine fab hH hl36 Try.underlying41 rfl Try.sizeOf3 rfl 10 rfl rfl fun a39 h39 => ?_
   exact wpL_nil ⟨_, h39, Kept.refl _, rfl⟩
  ·
   intro L a w_ hH hb hR hd ho
   obtain ⟨_, hl37, rfl⟩ := hd 7 rfl
   refine bld hH (evpc rfl (evpc rfl (evpc hl37 evp0))) (bld123_0_1_2 _ _ _) rfl fun a40 h40 => ?_
   exact wpL_nil ⟨_, h40, Kept.refl _, rfl⟩
  ·
   intro L a w_ hH hb hR hd ho
   obtain ⟨_, hl34, rfl⟩ := hd 4 rfl
   obtain ⟨_, hl38, rfl⟩ := hd 8 rfl
   replace hB3 := hB3.kept hR
   refine bsl hH (evpc hl34 (evpc hl38 evp0)) (bsl2_119_0_1 _ _ _ _ _ _) rfl fun a41 w3 g39 h41 hk3 hz39 hg39 => ?_
   have hneg3g39 := Nat.lt_of_lt_of_le hB3.lt hz39
   exact wpL_nil ⟨_, h41, hk3, ⟨_, rfl, Nat.le_trans (Nat.le_trans hB.size hR.size) hz39, hg39⟩⟩
  ·
   intro L a w_ hH hb hR hd ho
   obtain ⟨_, hl30, rfl⟩ := hd 0 rfl
   obtain ⟨v39, hl39, hf39⟩ := hd 9 rfl
   replace hB3 := hB3.kept hR
   obtain ⟨g39, rfl, hz39, hB39⟩ := hf39
   refine apf hH (lo := w.heap.size) (c := 5) (m := 2) (sz := 3) hl30 hl39 Try.underlying119 Try.type123 rfl rfl rfl (by decide) hB3 (by rfl) (Nat.le_trans hB.size hR.size) (Blk.in_ hB39 0 6 [.int .i64 369, .int .i64 12, .pointer (some ⟨g, 9, none⟩), .int .i64 483, .int .i64 12, .pointer (some ⟨g, 10, none⟩)] rfl) (by rfl) (by omega) (by show (_ + _) * 24 ≤ _; simp) (by decide) rfl fun a42 v40' w4 h42 hO40 hk4 => ?_
   exact wpL_nil ⟨_, h42, hk4, hO40⟩
  ·
   intro L a w_ hH hb hR hd ho
   obtain ⟨v40, hl40, hf40⟩ := hd 10 rfl
   refine asg hH hl40 rfl fun a43 h43 => ?_
   exact wpL_nil ⟨_, h43, Kept.refl _, hf40⟩
  intro L5 a44 w5 h44 hbh44 hRh44 hdh44
  obtain ⟨_, hl30, rfl⟩ := hdh44 0 (by decide)
  obtain ⟨_, hl31, rfl⟩ := hdh44 1 (by decide)
  obtain ⟨_, hl32, rfl⟩ := hdh44 2 (by decide)
  obtain ⟨_, hl33, rfl⟩ := hdh44 3 (by decide)
  obtain ⟨_, hl34, rfl⟩ := hdh44 4 (by decide)
  obtain ⟨_, hl35, rfl⟩ := hdh44 5 (by decide)
  obtain ⟨_, hl36, rfl⟩ := hdh44 6 (by decide)
  obtain ⟨_, hl37, rfl⟩ := hdh44 7 (by decide)
  obtain ⟨_, hl38, rfl⟩ := hdh44 8 (by decide)
  obtain ⟨v39, hl39, hf39⟩ := hdh44 9 (by decide)
  obtain ⟨v40, hl40, hf40⟩ := hdh44 10 (by decide)
  obtain ⟨v3, hl3, hf3⟩ := hdh44 11 (by decide)
  have h45 := Has.under h44 hbh44
  have h46 := (h44.add hl3 (h44.add hl40 (h44.add hl39 (h44.add hl38 (h44.add hl37 (h44.add hl36 (h44.add hl35 (h44.add hl34 (h44.add hl33 (h44.add hl32 (h44.add hl31 (h44.add hl30 h45))))))))))))
  clear h45 hl30 hl31 hl32 hl33 hl34 hl35 hl36 hl37 hl38 hl39 hl40 hl3 hbh44 hdh44
  replace hB := Kept.trans hB hRh44
  have hO3 := hf3
  refine hK3 _ _ ?_
  refine sq fun K5 hK5 => ?_
  refine reg [some 41, some 2] rfl ?_
  refine mv h46 rfl rfl fun a47 h47 => ?_
  refine asg h47 rfl rfl fun a48 h48 => ?_
  clear hK3 h46 h47 K3 a47
  refine wpL_nil (hK5 _ _ ?_)
  refine rtn (leave h48 (res1 h48 rfl (rvt rfl)) ?_)
  exact ⟨_, rfl, Own.sts (wc_len g) (by decide) (by rw [nums_yes g hp1]; exact hO3), hB⟩
 ·
  have hp1 := of_decide_eq_false hb1
  refine cdf h31 rfl hb1 ?_
  refine skp (hK3 _ _ ?_)
  refine sq fun K6 hK6 => ?_
  refine reg [some 41, some 2] rfl ?_
  refine mv h31 rfl rfl fun a49 h49 => ?_
  refine asg h49 rfl rfl fun a50 h50 => ?_
  clear hK4 hK3 h31 h49 K4 K3 a31 a49
  refine wpL_nil (hK6 _ _ ?_)
  refine rtn (leave h50 (res1 h50 rfl (rvt rfl)) ?_)
  exact ⟨_, rfl, Own.sts (wc_len g) (by decide) (by rw [nums_no g hp1]; exact Own.of_blk hB3 hz3 (by rfl) (by omega)), hB⟩

/-- bytes.IndexByte -/
theorem c_bIndexByte {S : Nat → Prop} (v : Value) (b : List UInt8) (c : UInt8) (w : World) (hv : Byt S w v b) :
  C Try.prog 173 [v, u8 c] w fun v w' => v = .int .i64 (Lib.indexByte b c) ∧ w = w' := by
 refine enterE Try.func173 rfl 8 rfl rfl fun a0 h0 => ?_
 have hB := Kept.refl w
 refine sq fun K1 hK1 => ?_
 refine reg [some 4] rfl ?_
 refine asg h0 rfl rfl fun a1 h1 => ?_
 clear h0 a0
 refine wpL_nil (hK1 _ _ ?_)
 refine sq fun K2 hK2 => ?_
 refine reg [some 5, some 6, some 7, some 4] rfl ?_
 refine mv h1 rfl rfl fun a2 h2 => ?_
 refine mv h2 rfl rfl fun a3 h3 => ?_
 refine calx h3 rfl (x_indexByteB hv) rfl fun a4 h4 => ?_
 refine asg h4 rfl rfl fun a5 h5 => ?_
 clear hK1 h1 h2 h3 h4 K1 a1 a2 a3 a4
 refine wpL_nil (hK2 _ _ ?_)
 refine rtn (leave h5 (res1 h5 rfl (rvt rfl)) ?_)
 exact ⟨_, rfl, rfl, rfl⟩

/-- bytes.Index -/
theorem c_bIndex1 {S S2 : Nat → Prop} (v v2 : Value) (b : List UInt8) (c : UInt8) (w : World) (hv : Byt S w v b) (hv2 : Byt S2 w v2 [c]) :
  C Try.prog 140 [v, v2] w fun v w' => v = .int .i64 (Lib.indexByte b c) ∧ w = w' := by
 refine enterE Try.func140 rfl 200 rfl rfl fun a0 h0 => ?_
 have hB := Kept.refl w
 refine sq fun K1 hK1 => ?_
 refine reg [some 4] rfl ?_
 refine asg h0 rfl rfl fun a1 h1 => ?_
 clear h0 a0
 refine wpL_nil (hK1 _ _ ?_)
 refine sq fun K2 hK2 => ?_
 refine reg [some 20, some 21, some 5] rfl ?_
 refine mv h1 rfl rfl fun a2 h2 => ?_
 refine lnx h2 rfl Try.underlying35 rfl hv2.isl rfl fun a3 h3 => ?_
 refine asg h3 rfl rfl fun a4 h4 => ?_
 clear hK1 h1 h2 h3 K1 a1 a2 a3
 refine wpL_nil (hK2 _ _ ?_)
 refine sq fun K3 hK3 => ?_
 refine blc ?_
 refine sq fun K4 hK4 => ?_
 refine reg [some 23, some 24, some 22] rfl ?_
 refine mv h4 rfl rfl fun a5 h5 => ?_
 refine ieq h5 rfl rfl rfl fun a6 h6 => ?_
 refine asg h6 rfl rfl fun a7 h7 => ?_
 clear hK2 h4 h5 h6 K2 a4 a5 a6
 refine wpL_nil (hK4 _ _ ?_)
 refine knownF h7 (d := 22) rfl (rfl) fun hb1 => ?_
 have hp1 := of_decide_eq_false hb1
 refine cdf h7 rfl hb1 ?_
 refine sq fun K5 hK5 => ?_
 refine reg [some 26, some 27, some 25] rfl ?_
 refine mv h7 rfl rfl fun a8 h8 => ?_
 refine ieq h8 rfl rfl rfl fun a9 h9 => ?_
 refine asg h9 rfl rfl fun a10 h10 => ?_
 clear hK4 h7 h8 h9 K4 a7 a8 a9
 refine wpL_nil (hK5 _ _ ?_)
 refine knownT h10 (d := 25) rfl (rfl) fun hb2 => ?_
 have hp2 := of_decide_eq_true hb2
 refine cdt h10 rfl hb2 ?_
 refine sq fun K6 hK6 => ?_
 refine reg [some 28, some 29, some 30, some 31, some 32, some 4] rfl ?_
 refine mv h10 rfl rfl fun a11 h11 => ?_
 refine mv h11 rfl rfl fun a12 h12 => ?_
 refine ixB (k := 0) hv2 h12 rfl rfl Try.underlying35 Try.sizeOf5 Try.isAgg5 (by simp) (rfl) rfl rfl fun a13 z30 h13 => ?_
 refine cal h13 Try.call173 rfl (c_bIndexByte _ _ c _ hv) rfl ?_
 rintro v1 w1 a14 ⟨rfl, rfl⟩ h14
 refine asg h14 rfl rfl fun a15 h15 => ?_
 clear hK5 h10 h11 h12 h13 h14 K5 a10 a11 a12 a13 a14
 refine wpL_nil (hK6 _ _ ?_)
 refine rtn (leave h15 (res1 h15 rfl (rvt rfl)) ?_)
 exact ⟨_, rfl, rfl, rfl⟩

/-- bytes.Equal -/
theorem c_bEqual {S1 S2 : Nat → Prop} (v1 v2 : Value) (b1 b2 : List UInt8) (w : World) (hv1 : Byt S1 w v1 b1) (hv2 : Byt S2 w v2 b2) :
  C Try.prog 88 [v1, v2] w fun v w' => v = .bool (decide (b1 = b2)) ∧ w = w' := by
 refine enterE Try.func88 rfl 10 rfl rfl fun a0 h0 => ?_
 have hB := Kept.refl w
 refine sq fun K1 hK1 => ?_
 refine reg [some 4] rfl ?_
 refine asg h0 rfl rfl fun a1 h1 => ?_
 clear h0 a0
 refine wpL_nil (hK1 _ _ ?_)
 refine sq fun K2 hK2 => ?_
 refine reg [some 5, some 6, some 7, some 8, some 9, some 4] rfl ?_
 refine mv h1 rfl rfl fun a2 h2 => ?_
 refine btos h2 rfl Try.underlying35 Try.underlying5 Try.underlying9 hv1 rfl fun a3 h3 => ?_
 refine mv h3 rfl rfl fun a4 h4 => ?_
 refine btos h4 rfl Try.underlying35 Try.underlying5 Try.underlying9 hv2 rfl fun a5 h5 => ?_
 refine seq h5 rfl rfl rfl fun a6 h6 => ?_
 refine asg h6 rfl rfl fun a7 h7 => ?_
 clear hK1 h1 h2 h3 h4 h5 h6 K1 a1 a2 a3 a4 a5 a6
 refine wpL_nil (hK2 _ _ ?_)
 refine rtn (leave h7 (res1 h7 rfl (rvt rfl)) ?_)
 exact ⟨_, rfl, rfl, rfl⟩

/-- head.Sum -/
theorem c_sum {S : Nat → Prop} (v : Value) (b : List UInt8) (w : World) (hv : Byt S w v b) :
  C Try.prog 139 [v] w fun v w' => v = .int .i64 (Pl.sumB b) ∧ Kept w w' := by
 refine enterE Try.func139 rfl 28 rfl rfl fun a0 h0 => ?_
 have hB := Kept.refl w
 refine sq fun K1 hK1 => ?_
 refine reg [some 2] rfl ?_
 refine asg h0 rfl rfl fun a1 h1 => ?_
 clear h0 a0
 refine wpL_nil (hK1 _ _ ?_)
 refine sq fun K2 hK2 => ?_
 refine sq fun K3 hK3 => ?_
 refine reg [some 6, some 7, some 8] rfl ?_
 refine mv h1 rfl rfl fun a2 h2 => ?_
 refine lnx h2 rfl Try.underlying35 rfl hv.isl rfl fun a3 h3 => ?_
 refine ineq h3 rfl rfl rfl fun a4 h4 => ?_
 clear hK1 h1 h2 h3 K1 a1 a2 a3
 refine wpL_nil (hK3 _ _ ?_)
 refine spl h4 (d := 8) rfl (fun hb1 => ?_) (fun hb1 => ?_)
 ·
  have hp1 := of_decide_eq_false (bunt hb1)
  refine cdt h4 rfl (bnf (bunt hb1)) ?_
  refine sq fun K4 hK4 => ?_
  refine reg [some 2] rfl ?_
  refine asg h4 rfl rfl fun a5 h5 => ?_
  clear hK3 h4 K3 a4
  refine wpL_nil (hK4 _ _ ?_)
  refine rtn (leave h5 (res1 h5 rfl (rvt rfl)) ?_)
  exact ⟨_, rfl, by rw [Pl.sumB, if_neg (by omega)], hB⟩
 ·
  have hp1 := of_decide_eq_true (bunf hb1)
  refine cdf h4 rfl (bnt (bunf hb1)) ?_
  refine skp (hK2 _ _ ?_)
  refine sq fun K5 hK5 => ?_
  refine reg [some 3] rfl ?_
  refine asg h4 rfl rfl fun a6 h6 => ?_
  clear hK3 hK2 h4 K3 K2 a4
  refine wpL_nil (hK5 _ _ ?_)
  refine sq fun K6 hK6 => ?_
  refine sq fun K7 hK7 => ?_
  refine reg [some 9, some 10, some 11] rfl ?_
  refine mv h6 rfl rfl fun a7 h7 => ?_
  refine lnx h7 rfl Try.underlying35 rfl hv.isl rfl fun a8 h8 => ?_
  refine mv h8 rfl rfl fun a9 h9 => ?_
  clear hK5 h6 h7 h8 K5 a6 a7 a8
  refine wpL_nil (hK7 _ _ ?_)
  refine blc ?_
  clear hK7 K7
  refine lp (fun (k : Nat) (a : Act) (W : World) => Has [] 28 [(9, v), (10, .int .i64 (b.length : Int)), (11, .int .i64 (k : Int)), (3, .int .i64 (Pl.sumAt 0 (b.take k)))] a ∧ (k ≤ b.length) ∧ (Byt S W v b) ∧ (Kept w W)) (fun (k : Nat) => b.length - k) (0) ⟨(h9.cons' rfl (h9.cons' rfl (h9.cons' rfl (h9.cons' rfl (h9.nil'))))), Nat.zero_le _, hv, hB⟩ ?_
  clear h9 hv hB
  rintro k a10 w1 ⟨h10, hk, hv, hB⟩
  refine sq fun K8 hK8 => ?_
  refine reg [some 12] rfl ?_
  refine lss h10 rfl rfl rfl fun a11 h11 => ?_
  clear h10 a10
  refine wpL_nil (hK8 _ _ ?_)
  refine sq fun K9 hK9 => ?_
  refine spl h11 (d := 12) rfl (fun hb2 => ?_) (fun hb2 => ?_)
  ·
   have hp2 := of_decide_eq_true hb2
   obtain ⟨x, hx⟩ : ∃ x, b[k]? = some x := ⟨_, List.getElem?_eq_getElem (by have := of_decide_eq_true hb2; omega)⟩
   have hrg := Pl.sumAt_range 0 (b.take k)
   rw [List.length_take] at hrg
   have hx8 := x.toNat_lt
   refine cdt h11 rfl hb2 ?_
   refine skp (hK9 _ _ ?_)
   refine sq fun K10 hK10 => ?_
   refine blc ?_
   refine sq fun K11 hK11 => ?_
   refine reg [some 13, some 14, some 15, some 4, some 5] rfl ?_
   refine mv h11 rfl rfl fun a12 h12 => ?_
   refine ixB (k := k) hv h12 rfl rfl Try.underlying35 Try.sizeOf5 Try.isAgg5 (by simp) (hx) rfl rfl fun a13 z14 h13 => ?_
   refine asg h13 rfl rfl fun a14 h14 => ?_
   refine asg h14 rfl rfl fun a15 h15 => ?_
   clear hK8 hK9 h11 h12 h13 h14 K8 K9 a11 a12 a13 a14
   refine wpL_nil (hK11 _ _ ?_)
   refine sq fun K12 hK12 => ?_
   refine sq fun K13 hK13 => ?_
   refine reg [some 16, some 17, some 18, some 19, some 20, some 21] rfl ?_
   refine mv h15 rfl rfl fun a16 h16 => ?_
   refine geq h16 rfl rfl rfl fun a17 h17 => ?_
   refine mv h17 rfl rfl fun a18 h18 => ?_
   refine spl h18 (d := 18) rfl (fun hb3 => ?_) (fun hb3 => ?_)
   ·
    have hp3 := of_decide_eq_true hb3
    refine gon h18 (d := 18) rfl rfl hb3 ?_
    refine mv h18 rfl rfl fun a19 h19 => ?_
    refine gon h19 (d := 18) rfl rfl hb3 ?_
    refine lss h19 rfl rfl rfl fun a20 h20 => ?_
    refine pkt h20 rfl hb3 rfl rfl fun a21 h21 => ?_
    clear hK11 h15 h16 h17 h18 h19 h20 K11 a15 a16 a17 a18 a19 a20
    refine wpL_nil (hK13 _ _ ?_)
    refine spl h21 (d := 21) rfl (fun hb4 => ?_) (fun hb4 => ?_)
    ·
     have hp4 := of_decide_eq_true hb4
     refine cdt h21 rfl hb4 ?_
     refine reg [some 5] rfl ?_
     refine asg h21 rfl rfl fun a22 h22 => ?_
     clear hK13 h21 K13 a21
     refine wpL_nil (hK12 _ _ ?_)
     refine reg [some 22, some 23, some 24, some 25, some 3] rfl ?_
     refine mv h22 rfl rfl fun a23 h23 => ?_
     refine mv h23 rfl rfl fun a24 h24 => ?_
     refine ctoi h24 rfl Try.underlying5 Try.underlying3 rfl (by omega) fun a25 h25 => ?_
     refine add h25 rfl rfl rfl (by omega) fun a26 h26 => ?_
     refine asg h26 rfl rfl fun a27 h27 => ?_
     clear hK12 h22 h23 h24 h25 h26 K12 a22 a23 a24 a25 a26
     refine wpL_nil (hK10 _ _ ?_)
     refine reg [some 26, some 11] rfl ?_
     refine add h27 rfl rfl rfl (by omega) fun a28 h28 => ?_
     refine mv h28 rfl rfl fun a29 h29 => ?_
     clear hK10 h27 h28 K10 a27 a28
     refine wpL_nil ?_
     exact ⟨k + 1, ⟨(h29.cons' rfl (h29.cons' rfl (h29.cons' (lke rfl (by simp)) (h29.cons' (lke rfl (by rw [sum_next hx]; first | rw [if_pos (by omega)] | rw [if_neg (by omega)])) (h29.nil'))))), by omega, hv, hB⟩, by omega⟩
    ·
     have hp4 := of_decide_eq_false hb4
     refine cdf h21 rfl hb4 ?_
     refine skp (hK12 _ _ ?_)
     refine reg [some 22, some 23, some 24, some 25, some 3] rfl ?_
     refine mv h21 rfl rfl fun a30 h30 => ?_
     refine mv h30 rfl rfl fun a31 h31 => ?_
     refine ctoi h31 rfl Try.underlying5 Try.underlying3 rfl (by omega) fun a32 h32 => ?_
     refine add h32 rfl rfl rfl (by omega) fun a33 h33 => ?_
     refine asg h33 rfl rfl fun a34 h34 => ?_
     clear hK13 hK12 h21 h30 h31 h32 h33 K13 K12 a21 a30 a31 a32 a33
     refine wpL_nil (hK10 _ _ ?_)
     refine reg [some 26, some 11] rfl ?_
     refine add h34 rfl rfl rfl (by omega) fun a35 h35 => ?_
     refine mv h35 rfl rfl fun a36 h36 => ?_
     clear hK10 h34 h35 K10 a34 a35
     refine wpL_nil ?_
     exact ⟨k + 1, ⟨(h36.cons' rfl (h36.cons' rfl (h36.cons' (lke rfl (by simp)) (h36.cons' (lke rfl (by rw [sum_next hx]; first | rw [if_pos (by omega)] | rw [if_neg (by omega)])) (h36.nil'))))), by omega, hv, hB⟩, by omega⟩
   ·
    have hp3 := of_decide_eq_false hb3
    refine goff h18 (d := 18) rfl rfl hb3 rfl fun a37 h37 => ?_
    refine goff h37 (d := 18) rfl rfl hb3 rfl fun a38 h38 => ?_
    refine pkf h38 rfl hb3 rfl rfl fun a39 h39 => ?_
    clear hK11 h15 h16 h17 h18 h37 h38 K11 a15 a16 a17 a18 a37 a38
    refine wpL_nil (hK13 _ _ ?_)
    refine cdf h39 rfl rfl ?_
    refine skp (hK12 _ _ ?_)
    refine reg [some 22, some 23, some 24, some 25, some 3] rfl ?_
    refine mv h39 rfl rfl fun a40 h40 => ?_
    refine mv h40 rfl rfl fun a41 h41 => ?_
    refine ctoi h41 rfl Try.underlying5 Try.underlying3 rfl (by omega) fun a42 h42 => ?_
    refine add h42 rfl rfl rfl (by omega) fun a43 h43 => ?_
    refine asg h43 rfl rfl fun a44 h44 => ?_
    clear hK13 hK12 h39 h40 h41 h42 h43 K13 K12 a39 a40 a41 a42 a43
    refine wpL_nil (hK10 _ _ ?_)
    refine reg [some 26, some 11] rfl ?_
    refine add h44 rfl rfl rfl (by omega) fun a45 h45 => ?_
    refine mv h45 rfl rfl fun a46 h46 => ?_
    clear hK10 h44 h45 K10 a44 a45
    refine wpL_nil ?_
    exact ⟨k + 1, ⟨(h46.cons' rfl (h46.cons' rfl (h46.cons' (lke rfl (by simp)) (h46.cons' (lke rfl (by rw [sum_next hx]; first | rw [if_pos (by omega)] | rw [if_neg (by omega)])) (h46.nil'))))), by omega, hv, hB⟩, by omega⟩
  ·
   have hp2 := of_decide_eq_false hb2
   refine cdf h11 rfl hb2 ?_
   refine xit (hK6 _ _ ?_)
   refine sq fun K14 hK14 => ?_
   refine reg [some 27, some 2] rfl ?_
   refine mv h11 rfl rfl fun a47 h47 => ?_
   refine asg h47 rfl rfl fun a48 h48 => ?_
   clear hK8 hK6 hK9 h11 h47 K8 K6 K9 a11 a47
   refine wpL_nil (hK14 _ _ ?_)
   refine rtn (leave h48 (res1 h48 rfl (rvt rfl)) ?_)
   exact ⟨_, rfl, by rw [take_take_all (by omega), Pl.sumB, if_pos (by omega)], hB⟩

end Go.Proofs.Ytpgeogdmjgmimaa
