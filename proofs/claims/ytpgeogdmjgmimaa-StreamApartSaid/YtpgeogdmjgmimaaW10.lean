/-
  Walks, written by wip/gen/gen.py.
-/
import Derived.Test.YtpgeogdmjgmimaaK15
import Derived.Test.YtpgeogdmjgmimaaW9
set_option linter.unusedVariables false
set_option linter.unusedSimpArgs false
set_option maxRecDepth 4000
namespace Go.Proofs.Ytpgeogdmjgmimaa
open Go Go.RowKit K

/-- A literal's value. -/
theorem bsl2_35_0_1 (x0 : Int) (x1 : Int) (w : World) : (Instr.buildSlice 35 2 [(0, (.int .u8 x0)), (1, (.int .u8 x1))].toArray).run Try.prog w = .ok (.slice (some ⟨w.heap.size, 0, none⟩) 2 2) (w.alloc (.cells [.int .u8 x0, .int .u8 x1].toArray 5)) := by kernel_rfl
theorem wc_one (g : Nat) (x : Nat × Nat × Nat) : ∀ v ∈ wc g x, v.oneCell' = true := by intro v hv; simp [wc] at hv; rcases hv with rfl | rfl | rfl <;> rfl
theorem word_cell (h : Pl.Hd) {t : UInt8} {k : Nat} {x : Nat × Nat × Nat} (hx : (Pl.wordsL t)[k]? = some x) : (hdCells h)[x.2.2]? = some (str (Pl.hS h x.2.2)) := by
  have hm := List.mem_of_getElem? hx
  unfold Pl.wordsL at hm
  split at hm <;> simp at hm
  · rcases hm with rfl | rfl <;> rfl
  · rcases hm with rfl | rfl | rfl <;> rfl
theorem num_cell (h : Pl.Hd) {t : UInt8} {k : Nat} {x : Nat × Nat × Nat} (hx : (Pl.numsL t)[k]? = some x) : (hdCells h)[x.2.2]? = some (.int .i64 (Pl.hN h x.2.2)) := by
  have hm := List.mem_of_getElem? hx
  unfold Pl.numsL at hm
  split at hm <;> simp at hm
  · rcases hm with rfl | rfl | rfl | rfl | rfl | rfl | rfl <;> rfl
  · rcases hm with rfl | rfl | rfl | rfl | rfl <;> rfl
theorem words_len (t : UInt8) : (Pl.wordsL t).length ≤ 3 := by unfold Pl.wordsL; split <;> simp
theorem nums_len (t : UInt8) : (Pl.numsL t).length ≤ 7 := by unfold Pl.numsL; split <;> simp
theorem word_room {t : UInt8} {k : Nat} {x : Nat × Nat × Nat} (hx : (Pl.wordsL t)[k]? = some x) : x.1 + x.2.1 ≤ 500 := by
  have hm := List.mem_of_getElem? hx
  unfold Pl.wordsL at hm
  split at hm <;> simp at hm
  · rcases hm with rfl | rfl <;> decide
  · rcases hm with rfl | rfl | rfl <;> decide
theorem num_room {t : UInt8} {k : Nat} {x : Nat × Nat × Nat} (hx : (Pl.numsL t)[k]? = some x) : x.1 + x.2.1 ≤ 495 ∧ 2 ≤ x.2.1 ∧ x.2.1 ≤ 20 := by
  have hm := List.mem_of_getElem? hx
  unfold Pl.numsL at hm
  split at hm <;> simp at hm
  · rcases hm with rfl | rfl | rfl | rfl | rfl | rfl | rfl <;> decide
  · rcases hm with rfl | rfl | rfl | rfl | rfl <;> decide
/-- A header's numbers are numbers of the language. -/
def HdR (h : Pl.Hd) : Prop := ∀ o, -9223372036854775808 ≤ Pl.hN h o ∧ Pl.hN h o ≤ 9223372036854775807
theorem may_1 {h : Pl.Hd} (e : Pl.may1 h = false) : Pl.mayH h = false := by simp [Pl.mayH, e]
theorem may_2 {h : Pl.Hd} (e : Pl.may2 h = false) : Pl.mayH h = false := by simp [Pl.mayH, e]
theorem may_w {h : Pl.Hd} {k : Nat} {x : Nat × Nat × Nat} (hx : (Pl.wordsL h.typ)[k]? = some x) (e : Pl.okW h x = false) : Pl.mayH h = false := by
  simp only [Pl.mayH, all_not hx e, Bool.and_false, Bool.false_and]
theorem may_n {h : Pl.Hd} {k : Nat} {x : Nat × Nat × Nat} (hx : (Pl.numsL h.typ)[k]? = some x) (e : Pl.okN h x = false) : Pl.mayH h = false := by
  simp only [Pl.mayH, all_not hx e, Bool.and_false]
theorem may_yes {h : Pl.Hd} (e1 : Pl.may1 h = true) (e2 : Pl.may2 h = true) (e3 : (Pl.wordsL h.typ).all (Pl.okW h) = true) (e4 : (Pl.numsL h.typ).all (Pl.okN h) = true) : Pl.mayH h = true := by simp [Pl.mayH, e1, e2, e3, e4]
theorem typ77 {t : UInt8} : decide ((t.toNat : Int) = 77) = decide (t = 77) := by
  rw [decide_eq_decide]; constructor
  · intro h; exact UInt8.toNat_inj.1 (by show t.toNat = 77; omega)
  · rintro rfl; rfl

/-- (head.page).put -/
theorem c_put {S : Nat → Prop} (g : Nat) (pg : List UInt8) (at_ : Nat) (v : Value) (l : List (List UInt8)) (w : World) (hg : Blk w g 5 (pg.map u8)) (hp : pg.length = 512) (hv : Rws S w v l) (hSg : ¬ S g) (hat : at_ + l.flatten.length < 512) :
  C Try.prog 130 [.agg #[.slice (some ⟨g, 0, none⟩) 512 512], .int .i64 (at_ : Int), v] w fun v w' => v = .tuple #[] ∧ Blk w' g 5 ((Pl.wrs pg at_ l).map u8) ∧ But g w w' := by
 have hbd := hv.bound
 refine enterE Try.func130 rfl 23 rfl rfl fun a0 h0 => ?_
 have hB := But.refl g w
 refine sq fun K1 hK1 => ?_
 refine reg [some 3] rfl ?_
 refine bxv h0 rfl rfl rfl fun a1 w1 g3 h1 hk1 hz3 hg3 => ?_
 have hleg3 := Nat.le_trans hB.size hz3
 have hnegg3 := Nat.lt_of_lt_of_le hg.lt hz3
 replace hB := But.trans hB (Kept.toBut hk1 _)
 replace hg := hg.kept hk1
 replace hv := hv.kept hk1
 clear h0 a0
 refine wpL_nil (hK1 _ _ ?_)
 refine sq fun K2 hK2 => ?_
 refine reg [some 8, some 9, some 10] rfl ?_
 refine mv h1 rfl rfl fun a2 h2 => ?_
 refine lnx h2 rfl Try.underlying25 rfl hv.isl rfl fun a3 h3 => ?_
 refine mv h3 rfl rfl fun a4 h4 => ?_
 clear hK1 h1 h2 h3 K1 a1 a2 a3
 refine wpL_nil (hK2 _ _ ?_)
 refine blc ?_
 clear hK2 K2
 refine lp (fun (k : Nat) (a : Act) (W : World) => Has [] 23 [(1, .int .i64 (((at_ + (l.take k).flatten.length : Nat)) : Int)), (3, .pointer (some ⟨g3, 0, none⟩)), (8, v), (9, .int .i64 (l.length : Int)), (10, .int .i64 (k : Int))] a ∧ (k ≤ l.length) ∧ (Blk W g3 106 [.slice (some ⟨g, 0, none⟩) 512 512]) ∧ (Blk W g 5 ((Pl.wrs pg at_ (l.take k)).map u8)) ∧ (Rws S W v l) ∧ (But g w W)) (fun (k : Nat) => l.length - k) (0) ⟨(h4.cons' rfl (h4.cons' rfl (h4.cons' rfl (h4.cons' rfl (h4.cons' rfl (h4.nil')))))), Nat.zero_le _, hg3, hg, hv, hB⟩ ?_
 clear h4 hg3 hv hg hB
 rintro k a5 w2 ⟨h5, hk, hg3, hg, hv, hB⟩
 refine sq fun K3 hK3 => ?_
 refine reg [some 11] rfl ?_
 refine lss h5 rfl rfl rfl fun a6 h6 => ?_
 clear h5 a5
 refine wpL_nil (hK3 _ _ ?_)
 refine sq fun K4 hK4 => ?_
 refine spl h6 (d := 11) rfl (fun hb1 => ?_) (fun hb1 => ?_)
 ·
  have hp1 := of_decide_eq_true hb1
  obtain ⟨x, hx⟩ : ∃ x, l[k]? = some x := ⟨_, List.getElem?_eq_getElem (by have := of_decide_eq_true hb1; omega)⟩
  have hfl := Pl.flatten_take_le l (k + 1)
  rw [Pl.flatten_next hx, List.length_append] at hfl
  have hwl : (Pl.wrs pg at_ (l.take k)).length = 512 := by rw [Pl.wrs_len (by omega), hp]
  refine cdt h6 rfl hb1 ?_
  refine skp (hK4 _ _ ?_)
  refine sq fun K5 hK5 => ?_
  refine blc ?_
  refine sq fun K6 hK6 => ?_
  refine reg [some 12, some 13, some 7] rfl ?_
  refine ixR (k := k) hv h6 rfl rfl Try.underlying25 Try.sizeOf35 Try.isAgg35 (by simp) (hx) rfl rfl fun a7 z12 v13' h7 hs13 => ?_
  refine asg h7 rfl rfl fun a8 h8 => ?_
  clear hK3 hK4 h6 h7 K3 K4 a6 a7
  refine wpL_nil (hK6 _ _ ?_)
  refine reg [some 14, some 15, some 16, some 17, some 18, some 19, some 20, some 21, some 1] rfl ?_
  refine mv h8 rfl rfl fun a9 h9 => ?_
  refine fab h9 rfl Try.underlying106 rfl Try.sizeOf35 rfl 0 rfl rfl fun a10 h10 => ?_
  refine ldb h10 hg3 rfl Try.isAgg35 rfl rfl fun a11 h11 => ?_
  refine mv h11 rfl rfl fun a12 h12 => ?_
  refine slr (at_ + (l.take k).flatten.length) h12 Try.underlying35 rfl Try.sizeOf5 ⟨_, rfl, by simp⟩ (by omega) (by omega) (by omega) rfl fun a13 h13 => ?_
  refine mv h13 rfl rfl fun a14 h14 => ?_
  obtain ⟨A13, c13, rfl, h131, h132, hI13⟩ := hs13
  refine cpb h14 Try.underlying35 Try.sizeOf5 rfl rfl hg hI13 (by rw [List.length_map]) (by rw [List.length_map]; omega) (by simp [Value.oneCell']) rfl fun a15 w3 h15 hg' hk3 => ?_
  replace hg3 := hg3.but hk3 (by omega)
  clear hg; have hg := hg'; clear hg'
  replace hv := hv.but hk3 (hSg)
  replace hB := But.trans hB hk3
  rw [Nat.zero_add, putw_eq rfl (by omega), wrs_next hx] at hg
  refine add h15 rfl rfl rfl (by omega) fun a16 h16 => ?_
  refine asg h16 rfl rfl fun a17 h17 => ?_
  clear hK6 h8 h9 h10 h11 h12 h13 h14 h15 h16 K6 a8 a9 a10 a11 a12 a13 a14 a15 a16
  refine wpL_nil (hK5 _ _ ?_)
  refine reg [some 22, some 10] rfl ?_
  refine add h17 rfl rfl rfl (by omega) fun a18 h18 => ?_
  refine mv h18 rfl rfl fun a19 h19 => ?_
  clear hK5 h17 h18 K5 a17 a18
  refine wpL_nil ?_
  exact ⟨k + 1, ⟨(h19.cons' (lke rfl (by rw [Pl.flatten_next hx, List.length_append]; congr 1; omega)) (h19.cons' rfl (h19.cons' rfl (h19.cons' rfl (h19.cons' (lke rfl (by simp)) (h19.nil')))))), by omega, hg3, hg, hv, hB⟩, by omega⟩
 ·
  have hp1 := of_decide_eq_false hb1
  refine cdf h6 rfl hb1 ?_
  refine xit ?_
  refine leaveE h6 (res0 (by rfl)) ?_
  exact ⟨_, rfl, rfl, by rw [take_take_all (by omega)] at hg; exact hg, hB⟩

/-- (head.signed).sum -/
theorem c_ssum {S : Nat → Prop} (v : Value) (b : List UInt8) (w : World) (hv : Byt S w v b) :
  C Try.prog 89 [.agg #[v]] w fun v w' => K.Own w.heap.size w' v 5 1 ((Pl.sumF b).map u8) ∧ Kept w w' := by
 have hsr := Pl.sumB_range b
 replace hv := hv.old
 refine enterE Try.func89 rfl 17 rfl rfl fun a0 h0 => ?_
 have hB := Kept.refl w
 refine sq fun K1 hK1 => ?_
 refine reg [some 1, some 2] rfl ?_
 refine bxv h0 rfl rfl rfl fun a1 w1 g1 h1 hk1 hz1 hg1 => ?_
 have hleg1 := Nat.le_trans hB.size hz1
 replace hB := Kept.trans hB hk1
 replace hv := hv.kept hk1
 refine asg h1 rfl rfl fun a2 h2 => ?_
 clear h0 h1 a0 a1
 refine wpL_nil (hK1 _ _ ?_)
 refine sq fun K2 hK2 => ?_
 refine reg [some 6, some 7, some 8, some 9, some 10, some 5, some 11, some 12, some 3, some 4] rfl ?_
 refine fab h2 rfl Try.underlying108 rfl Try.sizeOf106 rfl 0 rfl rfl fun a3 h3 => ?_
 refine fab h3 rfl Try.underlying106 rfl Try.sizeOf35 rfl 0 rfl rfl fun a4 h4 => ?_
 refine ldb h4 hg1 rfl Try.isAgg35 rfl rfl fun a5 h5 => ?_
 refine cal h5 Try.call139 rfl (c_sum _ _ _ hv) rfl ?_
 rintro v2 w2 a6 ⟨rfl, hk2⟩ h6
 replace hB := Kept.trans hB hk2
 replace hg1 := hg1.kept hk2
 refine cal h6 Try.call138 rfl (c_octal _ _ _ ⟨by omega, by omega⟩) rfl ?_
 rintro v3 w3 a7 ⟨rfl, hk3⟩ h7
 replace hB := Kept.trans hB hk3
 replace hg1 := hg1.kept hk3
 refine mv h7 rfl rfl fun a8 h8 => ?_
 refine ext2_0 h8 rfl rfl fun a9 h9 => ?_
 refine ext2_1 h9 rfl rfl fun a10 h10 => ?_
 refine asg h10 rfl rfl fun a11 h11 => ?_
 refine asg h11 rfl rfl fun a12 h12 => ?_
 clear hK1 h2 h3 h4 h5 h6 h7 h8 h9 h10 h11 K1 a2 a3 a4 a5 a6 a7 a8 a9 a10 a11
 refine wpL_nil (hK2 _ _ ?_)
 refine sq fun K3 hK3 => ?_
 refine reg [some 13, some 14, some 15, some 16, some 2] rfl ?_
 refine mv h12 rfl rfl fun a13 h13 => ?_
 have hlo14 := hB.size
 have hlg1c14 := hg1.lt
 refine stob h13 rfl Try.underlying9 Try.underlying35 Try.underlying5 (by rw [oct_len]; split <;> omega) rfl fun a14 v4 w4 h14 hk4 hO14 => ?_
 replace hB := Kept.trans hB hk4
 replace hg1 := hg1.kept hk4
 have hls14 := hk4.size
 refine bsl h14 rfl (bsl2_35_0_1 _ _) rfl fun a15 w5 g15 h15 hk5 hz15 hg15 => ?_
 have hleg15 := Nat.le_trans hB.size hz15
 have hneg1g15 := Nat.lt_of_lt_of_le hg1.lt hz15
 have hNhls14g15 := Nat.le_trans hls14 hz15
 replace hB := Kept.trans hB hk5
 replace hO14 := hO14.kept hk5
 replace hls14 := Nat.le_trans hls14 hk5.size
 refine apn (sz := 1) h15 rfl rfl Try.underlying35 Try.type5 rfl rfl rfl (by decide) hO14 (hls14) (Blk.in_ hg15 0 2 [u8 0, u8 32] rfl) (by simp) (by simp [Value.oneCell']) (by show (_ + _) * 1 ≤ _; rw [List.length_map, oct_len]; split <;> simp) (by decide) rfl fun a16 v6 w6 h16 hO16' hk6 hat6 => ?_
 replace hB := ButV.kept0 hB hk6 hO14 (hlo14)
 replace hls14 := Nat.le_trans hls14 hk6.size
 try clear hO14
 have hO16 := hO16'; clear hO16'
 refine asg h16 rfl rfl fun a17 h17 => ?_
 clear hK2 h12 h13 h14 h15 h16 K2 a12 a13 a14 a15 a16
 refine wpL_nil (hK3 _ _ ?_)
 refine rtn (leave h17 (res1 h17 rfl (rvt rfl)) ?_)
 exact ⟨_, rfl, (by have := hO16.mono (lo' := w.heap.size) (by omega); simpa [Pl.sumF, u8] using this), hB⟩

/-- bytes.Cut -/
theorem c_bCut {S S2 : Nat → Prop} (v v2 : Value) (b : List UInt8) (c : UInt8) (w : World) (hv : Byt S w v b) (hv2 : Byt S2 w v2 [c]) :
  C Try.prog 91 [v, v2] w fun v w' => (∃ u1 u2 t, v = .tuple #[u1, u2, .bool t] ∧ Byt S w' u1 (Pl.cutS b c).1) ∧ Kept w w' := by
 have hbd := hv.bound
 refine enterE Try.func91 rfl 23 rfl rfl fun a0 h0 => ?_
 have hB := Kept.refl w
 refine sq fun K1 hK1 => ?_
 refine reg [some 4, some 5, some 6] rfl ?_
 refine asg h0 rfl rfl fun a1 h1 => ?_
 refine asg h1 rfl rfl fun a2 h2 => ?_
 refine asg h2 rfl rfl fun a3 h3 => ?_
 clear h0 h1 h2 a0 a1 a2
 refine wpL_nil (hK1 _ _ ?_)
 refine sq fun K2 hK2 => ?_
 refine sq fun K3 hK3 => ?_
 refine reg [some 8, some 9, some 10, some 7] rfl ?_
 refine mv h3 rfl rfl fun a4 h4 => ?_
 refine mv h4 rfl rfl fun a5 h5 => ?_
 refine cal h5 Try.call140 rfl (c_bIndex1 _ _ _ c _ hv hv2) rfl ?_
 rintro v1 w1 a6 ⟨rfl, rfl⟩ h6
 refine asg h6 rfl rfl fun a7 h7 => ?_
 clear hK1 h3 h4 h5 h6 K1 a3 a4 a5 a6
 refine wpL_nil (hK3 _ _ ?_)
 refine sq fun K4 hK4 => ?_
 refine reg [some 11, some 12] rfl ?_
 refine mv h7 rfl rfl fun a8 h8 => ?_
 refine geq h8 rfl rfl rfl fun a9 h9 => ?_
 clear hK3 h7 h8 K3 a7 a8
 refine wpL_nil (hK4 _ _ ?_)
 refine spl h9 (d := 12) rfl (fun hb1 => ?_) (fun hb1 => ?_)
 ·
  have hp1 := of_decide_eq_true hb1
  have hlt := Pl.indexByte_lt' b c (of_decide_eq_true hb1)
  refine cdt h9 rfl hb1 ?_
  refine sq fun K5 hK5 => ?_
  clear hK4 K4
  refine drw h9 [some 13, some 14, some 15, some 16, some 17, some 18, some 19, some 20, some 21, some 4, some 5, some 6] rfl [Fx (v), Fx (.int .i64 (Lib.indexByte b c)), fun v w' => Byt S w' v ((b.take (Lib.indexByte b c).toNat).drop 0), Fx (v), Fx (.int .i64 (Lib.indexByte b c)), Fx (v2), Fx (.int .i64 (([c] : List UInt8).length : Int)), Fx (.int .i64 ((Lib.indexByte b c) + (([c] : List UInt8).length : Int))), fun v w' => Byt S w' v ((b.take b.length).drop ((Lib.indexByte b c).toNat + 1)), fun v w' => Byt S w' v ((b.take (Lib.indexByte b c).toNat).drop 0), fun v w' => Byt S w' v ((b.take b.length).drop ((Lib.indexByte b c).toNat + 1)), Fx ((.bool true))] Kept rfl rfl rfl rfl (drewKept _) keptT (mcons mfx (mcons mfx (mcons (fun v w w' hk h => h.kept hk) (mcons mfx (mcons mfx (mcons mfx (mcons mfx (mcons mfx (mcons (fun v w w' hk h => h.kept hk) (mcons (fun v w w' hk h => h.kept hk) (mcons (fun v w w' hk h => h.kept hk) (mcons mfx mnil)))))))))))) ⟨?_, ?_, ?_, ?_, ?_, ?_, ?_, ?_, ?_, ?_, ?_, ?_, trivial⟩ ?_
  ·
   intro L a w_ hH hb hR hd ho
   have hl0 := hb 0 _ rfl
   refine mv hH hl0 rfl fun a10 h10 => ?_
   exact wpL_nil ⟨_, h10, Kept.refl _, rfl⟩
  ·
   intro L a w_ hH hb hR hd ho
   have hl7 := hb 7 _ rfl
   refine mv hH hl7 rfl fun a11 h11 => ?_
   exact wpL_nil ⟨_, h11, Kept.refl _, rfl⟩
  ·
   intro L a w_ hH hb hR hd ho
   obtain ⟨_, hl13, rfl⟩ := hd 0 rfl
   obtain ⟨_, hl14, rfl⟩ := hd 1 rfl
   replace hv := hv.kept hR
   refine slB (0) ((Lib.indexByte b c).toNat) hv hH Try.underlying35 hl13 Try.sizeOf5 rfl ⟨_, hl14, by first | omega | (simp; omega)⟩ (by omega) (by omega) rfl fun a12 v15' h12 hs15 => ?_
   exact wpL_nil ⟨_, h12, Kept.refl _, hs15⟩
  ·
   intro L a w_ hH hb hR hd ho
   have hl0 := hb 0 _ rfl
   refine mv hH hl0 rfl fun a13 h13 => ?_
   exact wpL_nil ⟨_, h13, Kept.refl _, rfl⟩
  ·
   intro L a w_ hH hb hR hd ho
   have hl7 := hb 7 _ rfl
   refine mv hH hl7 rfl fun a14 h14 => ?_
   exact wpL_nil ⟨_, h14, Kept.refl _, rfl⟩
  ·
   intro L a w_ hH hb hR hd ho
   have hl1 := hb 1 _ rfl
   refine mv hH hl1 rfl fun a15 h15 => ?_
   exact wpL_nil ⟨_, h15, Kept.refl _, rfl⟩
  ·
   intro L a w_ hH hb hR hd ho
   obtain ⟨_, hl18, rfl⟩ := hd 5 rfl
   replace hv2 := hv2.kept hR
   refine lnx hH rfl Try.underlying35 hl18 hv2.isl rfl fun a16 h16 => ?_
   exact wpL_nil ⟨_, h16, Kept.refl _, rfl⟩
  ·
   intro L a w_ hH hb hR hd ho
   obtain ⟨_, hl17, rfl⟩ := hd 4 rfl
   obtain ⟨_, hl19, rfl⟩ := hd 6 rfl
   refine add hH hl17 hl19 rfl (by simp; omega) fun a17 h17 => ?_
   exact wpL_nil ⟨_, h17, Kept.refl _, rfl⟩
  ·
   intro L a w_ hH hb hR hd ho
   obtain ⟨_, hl16, rfl⟩ := hd 3 rfl
   obtain ⟨_, hl20, rfl⟩ := hd 7 rfl
   replace hv := hv.kept hR
   refine slB ((Lib.indexByte b c).toNat + 1) (b.length) hv hH Try.underlying35 hl16 Try.sizeOf5 ⟨_, hl20, by first | omega | (simp; omega)⟩ rfl (by omega) (by omega) rfl fun a18 v21' h18 hs21 => ?_
   exact wpL_nil ⟨_, h18, Kept.refl _, hs21⟩
  ·
   intro L a w_ hH hb hR hd ho
   obtain ⟨v15, hl15, hf15⟩ := hd 2 rfl
   refine asg hH hl15 rfl fun a19 h19 => ?_
   exact wpL_nil ⟨_, h19, Kept.refl _, hf15⟩
  ·
   intro L a w_ hH hb hR hd ho
   obtain ⟨v21, hl21, hf21⟩ := hd 8 rfl
   refine asg hH hl21 rfl fun a20 h20 => ?_
   exact wpL_nil ⟨_, h20, Kept.refl _, hf21⟩
  ·
   intro L a w_ hH hb hR hd ho
   refine asg hH rfl rfl fun a21 h21 => ?_
   exact wpL_nil ⟨_, h21, Kept.refl _, rfl⟩
  intro L2 a22 w2 h22 hbh22 hRh22 hdh22
  obtain ⟨_, hl13, rfl⟩ := hdh22 0 (by decide)
  obtain ⟨_, hl14, rfl⟩ := hdh22 1 (by decide)
  obtain ⟨v15, hl15, hf15⟩ := hdh22 2 (by decide)
  obtain ⟨_, hl16, rfl⟩ := hdh22 3 (by decide)
  obtain ⟨_, hl17, rfl⟩ := hdh22 4 (by decide)
  obtain ⟨_, hl18, rfl⟩ := hdh22 5 (by decide)
  obtain ⟨_, hl19, rfl⟩ := hdh22 6 (by decide)
  obtain ⟨_, hl20, rfl⟩ := hdh22 7 (by decide)
  obtain ⟨v21, hl21, hf21⟩ := hdh22 8 (by decide)
  obtain ⟨v4, hl4, hf4⟩ := hdh22 9 (by decide)
  obtain ⟨v5, hl5, hf5⟩ := hdh22 10 (by decide)
  obtain ⟨_, hl6, rfl⟩ := hdh22 11 (by decide)
  have h23 := Has.under h22 hbh22
  have h24 := (h22.add hl6 (h22.add hl5 (h22.add hl4 (h22.add hl21 (h22.add hl20 (h22.add hl19 (h22.add hl18 (h22.add hl17 (h22.add hl16 (h22.add hl15 (h22.add hl14 (h22.add hl13 h23))))))))))))
  clear h23 hl13 hl14 hl15 hl16 hl17 hl18 hl19 hl20 hl21 hl4 hl5 hl6 hbh22 hdh22
  replace hB := Kept.trans hB hRh22
  refine hK5 _ _ ?_
  refine rtn (leave h24 (res3 h24 rfl (rvt rfl) (rvt rfl) (rvt rfl)) ?_)
  exact ⟨_, rfl, ⟨_, _, _, rfl, by rw [cutS_pos hp1]; simpa using hf4⟩, hB⟩
 ·
  have hp1 := of_decide_eq_false hb1
  refine cdf h9 rfl hb1 ?_
  refine skp (hK2 _ _ ?_)
  refine sq fun K6 hK6 => ?_
  refine reg [some 22, some 4, some 5, some 6] rfl ?_
  refine mv h9 rfl rfl fun a25 h25 => ?_
  refine asg h25 rfl rfl fun a26 h26 => ?_
  refine asg h26 rfl rfl fun a27 h27 => ?_
  refine asg h27 rfl rfl fun a28 h28 => ?_
  clear hK4 hK2 h9 h25 h26 h27 K4 K2 a9 a25 a26 a27
  refine wpL_nil (hK6 _ _ ?_)
  refine rtn (leave h28 (res3 h28 rfl (rvt rfl) (rvt rfl) (rvt rfl)) ?_)
  exact ⟨_, rfl, ⟨_, _, _, rfl, by rw [cutS_neg hp1]; exact hv⟩, hB⟩

/-- head.May -/
theorem c_headMay (h : Pl.Hd) (w : World) (hr : HdR h) :
  C Try.prog 45 [hdV h] w fun v w' => v = .bool (Pl.mayH h) ∧ Kept w w' := by
 refine enterE Try.func45 rfl 83 rfl rfl fun a0 h0 => ?_
 have hB := Kept.refl w
 refine sq fun K1 hK1 => ?_
 refine reg [some 1, some 2] rfl ?_
 refine bxv h0 rfl rfl rfl fun a1 w1 g1 h1 hk1 hz1 hg1 => ?_
 have hleg1 := Nat.le_trans hB.size hz1
 replace hB := Kept.trans hB hk1
 refine asg h1 rfl rfl fun a2 h2 => ?_
 clear h0 h1 a0 a1
 refine wpL_nil (hK1 _ _ ?_)
 refine sq fun K2 hK2 => ?_
 refine sq fun K3 hK3 => ?_
 refine reg [some 9, some 10, some 11, some 12, some 13, some 14, some 15, some 16, some 17] rfl ?_
 clear hK1 K1
 refine jn h2 (K := K3) 17 (.bool (!Pl.may1 h)) (fun W => w1 = W) ?_ ?_
 ·
  rintro a3 w2 h3 rfl
  refine hK3 _ _ ?_
  refine spl h3 (d := 17) rfl (fun hb1 => ?_) (fun hb1 => ?_)
  ·
   refine cdt h3 rfl hb1 ?_
   refine sq fun K4 hK4 => ?_
   refine reg [some 2] rfl ?_
   refine asg h3 rfl rfl fun a4 h4 => ?_
   clear hK3 h3 K3 a3
   refine wpL_nil (hK4 _ _ ?_)
   refine rtn (leave h4 (res1 h4 rfl (rvt rfl)) ?_)
   exact ⟨_, rfl, by rw [may_1 (bunt hb1)], hB⟩
  ·
   refine cdf h3 rfl hb1 ?_
   refine skp (hK2 _ _ ?_)
   refine sq fun K5 hK5 => ?_
   refine sq fun K6 hK6 => ?_
   refine reg [some 18, some 19, some 20, some 21, some 22, some 23, some 24, some 25, some 26, some 27, some 28, some 29, some 30, some 31, some 32, some 33, some 34, some 35, some 36, some 37, some 38, some 39, some 40] rfl ?_
   clear hK3 hK2 K3 K2
   refine jn h3 (K := K6) 40 (.bool (!Pl.may2 h)) (fun W => w1 = W) ?_ ?_
   ·
    rintro a5 w3 h5 rfl
    refine hK6 _ _ ?_
    refine spl h5 (d := 40) rfl (fun hb2 => ?_) (fun hb2 => ?_)
    ·
     refine cdt h5 rfl hb2 ?_
     refine sq fun K7 hK7 => ?_
     refine reg [some 2] rfl ?_
     refine asg h5 rfl rfl fun a6 h6 => ?_
     clear hK6 h5 K6 a5
     refine wpL_nil (hK7 _ _ ?_)
     refine rtn (leave h6 (res1 h6 rfl (rvt rfl)) ?_)
     exact ⟨_, rfl, by rw [may_2 (bunt hb2)], hB⟩
    ·
     refine cdf h5 rfl hb2 ?_
     refine skp (hK5 _ _ ?_)
     refine sq fun K8 hK8 => ?_
     refine sq fun K9 hK9 => ?_
     refine reg [some 41, some 42, some 43] rfl ?_
     have hsz4 := hB.size
     have hlg14 := hg1.lt
     refine cal h5 Try.call90 rfl (c_words _ _ _ hg1) rfl ?_
     rintro v4 w4 a7 ⟨hW4, hk4⟩ h7
     replace hB := Kept.trans hB hk4
     replace hg1 := hg1.kept hk4
     replace hW4 := hW4.lt
     refine lnx h7 rfl Try.underlying111 rfl hW4.isl rfl fun a8 h8 => ?_
     refine mv h8 rfl rfl fun a9 h9 => ?_
     clear hK6 hK5 h5 h7 h8 K6 K5 a5 a7 a8
     refine wpL_nil (hK9 _ _ ?_)
     refine blc ?_
     clear hK9 K9
     refine lp (fun (k : Nat) (a : Act) (W : World) => ∃ (vW : Value), ∃ (nW : Nat), Has [] 83 [(1, .pointer (some ⟨g1, 0, none⟩)), (41, vW), (42, .int .i64 ((Pl.wordsL h.typ).length : Int)), (43, .int .i64 (k : Int))] a ∧ (k ≤ (Pl.wordsL h.typ).length) ∧ (((Pl.wordsL h.typ).take k).all (Pl.okW h) = true) ∧ (Blk W g1 41 (hdCells h)) ∧ (Sts (wc g1) (Lo nW) W vW (Pl.wordsL h.typ)) ∧ (nW ≤ W.heap.size) ∧ (Kept w W)) (fun (k : Nat) => (Pl.wordsL h.typ).length - k) (0) ⟨_, _, (h9.cons' rfl (h9.cons' rfl (h9.cons' rfl (h9.cons' rfl (h9.nil'))))), Nat.zero_le _, rfl, hg1, hW4.old, Nat.le_refl _, hB⟩ ?_
     clear h9 hW4 hg1 hB
     rintro k a10 w5 ⟨vW, nW, h10, hk, hq, hg1, hW, hnW, hB⟩
     refine sq fun K10 hK10 => ?_
     refine reg [some 44] rfl ?_
     refine lss h10 rfl rfl rfl fun a11 h11 => ?_
     clear h10 a10
     refine wpL_nil (hK10 _ _ ?_)
     refine sq fun K11 hK11 => ?_
     refine spl h11 (d := 44) rfl (fun hb3 => ?_) (fun hb3 => ?_)
     ·
      have hp3 := of_decide_eq_true hb3
      obtain ⟨x, hx⟩ : ∃ x, (Pl.wordsL h.typ)[k]? = some x := ⟨_, List.getElem?_eq_getElem (by have := of_decide_eq_true hb3; omega)⟩
      have hwl := words_len h.typ
      refine cdt h11 rfl hb3 ?_
      refine skp (hK11 _ _ ?_)
      refine sq fun K12 hK12 => ?_
      refine blc ?_
      refine sq fun K13 hK13 => ?_
      refine reg [some 45, some 46, some 4, none] rfl ?_
      refine ixS (k := k) (wc_len _) hW h11 rfl rfl Try.underlying111 Try.sizeOf116 (by decide) (by simp) (hx) rfl fun a12 ad45 h12 hI45 => ?_
      refine ldS h12 hI45 rfl Try.isAgg116 Try.sizeOf116 rfl fun a13 h13 => ?_
      refine alc h13 Try.zeroValue116 rfl rfl fun a14 w6 g4 h14 hk6 hz4 hg4 => ?_
      have hneg1g4 := Nat.lt_of_lt_of_le hg1.lt hz4
      have hNhnWg4 := Nat.le_trans hnW hz4
      have hleg4 := Nat.le_trans hB.size hz4
      replace hg1 := hg1.kept hk6
      replace hW := hW.kept hk6
      replace hnW := Nat.le_trans hnW hk6.size
      replace hB := Kept.trans hB hk6
      refine stb h14 hg4 rfl rfl _ rfl Try.sizeOf116 (wc_one _ _) _ (by simp [wc]) rfl fun w7 hg4' hk7 => ?_
      replace hg1 := hg1.but hk7 (by omega)
      replace hW := hW.but hk7 (by first | (show ¬ (_ < _); omega) | (simp; omega))
      replace hnW := Nat.le_trans hnW hk7.size
      replace hB := Kept.but hB hk7 (by omega)
      clear hg4; have hg4 := hg4'; clear hg4'
      clear hK10 hK11 h11 h12 h13 K10 K11 a11 a12 a13
      refine wpL_nil (hK13 _ _ ?_)
      refine sq fun K14 hK14 => ?_
      clear hK13 K13
      cases hc : decide (((x.2.1 : Nat) : Int) < (Pl.hS h x.2.2).length) with
      | true =>
       refine drw h14 [some 47, some 48, some 49, some 50, some 51, some 52, some 53, some 54, some 55, some 56, some 57, some 58, some 59, some 60, some 61, some 62] rfl [Fx (.pointer (some ⟨g4, 2, none⟩)), Fx (.pointer (some ⟨g1, x.2.2, none⟩)), Fx (.pointer (some ⟨g1, x.2.2, none⟩)), Fx (str (Pl.hS h x.2.2)), Fx (.int .i64 (((Pl.hS h x.2.2) : List UInt8).length : Int)), Fx (.pointer (some ⟨g4, 1, none⟩)), Fx (.int .i64 (x.2.1 : Int)), Fx (.bool (decide ((x.2.1 : Int) < (((Pl.hS h x.2.2) : List UInt8).length : Int)))), Fx (.bool (decide ((x.2.1 : Int) < (((Pl.hS h x.2.2) : List UInt8).length : Int)))), Fx (undef), Fx (undef), Fx (undef), Fx (undef), Fx (undef), Fx (undef), Fx ((.bool true))] Kept rfl rfl rfl rfl (drewKept _) keptT (mcons mfx (mcons mfx (mcons mfx (mcons mfx (mcons mfx (mcons mfx (mcons mfx (mcons mfx (mcons mfx (mcons mfx (mcons mfx (mcons mfx (mcons mfx (mcons mfx (mcons mfx (mcons mfx mnil)))))))))))))))) ⟨?_, ?_, ?_, ?_, ?_, ?_, ?_, ?_, ?_, ?_, ?_, ?_, ?_, ?_, ?_, ?_, trivial⟩ ?_
       ·
        intro L a w_ hH hb hR hd ho
        have hl4 := hb 4 _ rfl
        refine fab hH hl4 Try.underlying116 rfl Try.sizeOf114 rfl 2 rfl rfl fun a15 h15 => ?_
        exact wpL_nil ⟨_, h15, Kept.refl _, rfl⟩
       ·
        intro L a w_ hH hb hR hd ho
        obtain ⟨_, hl47, rfl⟩ := hd 0 rfl
        replace hg4 := hg4.kept hR
        refine ldb hH hg4 hl47 Try.isAgg114 rfl rfl fun a16 h16 => ?_
        exact wpL_nil ⟨_, h16, Kept.refl _, rfl⟩
       ·
        intro L a w_ hH hb hR hd ho
        obtain ⟨_, hl48, rfl⟩ := hd 1 rfl
        refine nlc hH hl48 rfl fun a17 h17 => ?_
        exact wpL_nil ⟨_, h17, Kept.refl _, rfl⟩
       ·
        intro L a w_ hH hb hR hd ho
        obtain ⟨_, hl49, rfl⟩ := hd 2 rfl
        replace hg1 := hg1.kept hR
        refine ldb hH hg1 hl49 Try.isAgg9 (word_cell h hx) rfl fun a18 h18 => ?_
        exact wpL_nil ⟨_, h18, Kept.refl _, rfl⟩
       ·
        intro L a w_ hH hb hR hd ho
        obtain ⟨_, hl50, rfl⟩ := hd 3 rfl
        refine lens hH rfl Try.underlying9 hl50 rfl fun a19 h19 => ?_
        exact wpL_nil ⟨_, h19, Kept.refl _, rfl⟩
       ·
        intro L a w_ hH hb hR hd ho
        have hl4 := hb 4 _ rfl
        refine fab hH hl4 Try.underlying116 rfl Try.sizeOf3 rfl 1 rfl rfl fun a20 h20 => ?_
        exact wpL_nil ⟨_, h20, Kept.refl _, rfl⟩
       ·
        intro L a w_ hH hb hR hd ho
        obtain ⟨_, hl52, rfl⟩ := hd 5 rfl
        replace hg4 := hg4.kept hR
        refine ldb hH hg4 hl52 Try.isAgg3 rfl rfl fun a21 h21 => ?_
        exact wpL_nil ⟨_, h21, Kept.refl _, rfl⟩
       ·
        intro L a w_ hH hb hR hd ho
        obtain ⟨_, hl51, rfl⟩ := hd 4 rfl
        obtain ⟨_, hl53, rfl⟩ := hd 6 rfl
        refine gtr hH hl51 hl53 rfl fun a22 h22 => ?_
        exact wpL_nil ⟨_, h22, Kept.refl _, rfl⟩
       ·
        intro L a w_ hH hb hR hd ho
        obtain ⟨_, hl54, rfl⟩ := hd 7 rfl
        refine mv hH hl54 rfl fun a23 h23 => ?_
        exact wpL_nil ⟨_, h23, Kept.refl _, rfl⟩
       ·
        intro L a w_ hH hb hR hd ho
        have hl4 := hb 4 _ rfl
        obtain ⟨_, hl55, rfl⟩ := hd 8 rfl
        refine goff hH rfl hl55 hc rfl fun a24 h24 => ?_
        exact wpL_nil ⟨_, h24, Kept.refl _, rfl⟩
       ·
        intro L a w_ hH hb hR hd ho
        obtain ⟨_, hl56, rfl⟩ := hd 9 rfl
        obtain ⟨_, hl55, rfl⟩ := hd 8 rfl
        refine goff hH rfl hl55 hc rfl fun a25 h25 => ?_
        exact wpL_nil ⟨_, h25, Kept.refl _, rfl⟩
       ·
        intro L a w_ hH hb hR hd ho
        obtain ⟨_, hl57, rfl⟩ := hd 10 rfl
        obtain ⟨_, hl55, rfl⟩ := hd 8 rfl
        refine goff hH rfl hl55 hc rfl fun a26 h26 => ?_
        exact wpL_nil ⟨_, h26, Kept.refl _, rfl⟩
       ·
        intro L a w_ hH hb hR hd ho
        obtain ⟨_, hl58, rfl⟩ := hd 11 rfl
        obtain ⟨_, hl55, rfl⟩ := hd 8 rfl
        refine goff hH rfl hl55 hc rfl fun a27 h27 => ?_
        exact wpL_nil ⟨_, h27, Kept.refl _, rfl⟩
       ·
        intro L a w_ hH hb hR hd ho
        obtain ⟨_, hl59, rfl⟩ := hd 12 rfl
        obtain ⟨_, hl55, rfl⟩ := hd 8 rfl
        refine goff hH rfl hl55 hc rfl fun a28 h28 => ?_
        exact wpL_nil ⟨_, h28, Kept.refl _, rfl⟩
       ·
        intro L a w_ hH hb hR hd ho
        obtain ⟨_, hl60, rfl⟩ := hd 13 rfl
        obtain ⟨_, hl55, rfl⟩ := hd 8 rfl
        refine goff hH rfl hl55 hc rfl fun a29 h29 => ?_
        exact wpL_nil ⟨_, h29, Kept.refl _, rfl⟩
       ·
        intro L a w_ hH hb hR hd ho
        obtain ⟨_, hl55, rfl⟩ := hd 8 rfl
        obtain ⟨_, hl61, rfl⟩ := hd 14 rfl
        refine pkt hH hl55 hc rfl rfl fun a30 h30 => ?_
        exact wpL_nil ⟨_, h30, Kept.refl _, rfl⟩
       intro L8 a31 w8 h31 hbh31 hRh31 hdh31
       obtain ⟨_, hl47, rfl⟩ := hdh31 0 (by decide)
       obtain ⟨_, hl48, rfl⟩ := hdh31 1 (by decide)
       obtain ⟨_, hl49, rfl⟩ := hdh31 2 (by decide)
       obtain ⟨_, hl50, rfl⟩ := hdh31 3 (by decide)
       obtain ⟨_, hl51, rfl⟩ := hdh31 4 (by decide)
       obtain ⟨_, hl52, rfl⟩ := hdh31 5 (by decide)
       obtain ⟨_, hl53, rfl⟩ := hdh31 6 (by decide)
       obtain ⟨_, hl54, rfl⟩ := hdh31 7 (by decide)
       obtain ⟨_, hl55, rfl⟩ := hdh31 8 (by decide)
       obtain ⟨_, hl56, rfl⟩ := hdh31 9 (by decide)
       obtain ⟨_, hl57, rfl⟩ := hdh31 10 (by decide)
       obtain ⟨_, hl58, rfl⟩ := hdh31 11 (by decide)
       obtain ⟨_, hl59, rfl⟩ := hdh31 12 (by decide)
       obtain ⟨_, hl60, rfl⟩ := hdh31 13 (by decide)
       obtain ⟨_, hl61, rfl⟩ := hdh31 14 (by decide)
       obtain ⟨_, hl62, rfl⟩ := hdh31 15 (by decide)
       have h32 := Has.under h31 hbh31
       have h33 := (h31.add hl62 (h31.add hl61 (h31.add hl60 (h31.add hl59 (h31.add hl58 (h31.add hl57 (h31.add hl56 (h31.add hl55 (h31.add hl54 (h31.add hl53 (h31.add hl52 (h31.add hl51 (h31.add hl50 (h31.add hl49 (h31.add hl48 (h31.add hl47 h32))))))))))))))))
       clear h32 hl47 hl48 hl49 hl50 hl51 hl52 hl53 hl54 hl55 hl56 hl57 hl58 hl59 hl60 hl61 hl62 hbh31 hdh31
       replace hnW := Nat.le_trans hnW hRh31.size
       replace hB := Kept.trans hB hRh31
       refine hK14 _ _ ?_
       refine cdt h33 rfl rfl ?_
       refine sq fun K15 hK15 => ?_
       refine reg [some 2] rfl ?_
       refine asg h33 rfl rfl fun a34 h34 => ?_
       clear hK14 h33 K14
       refine wpL_nil (hK15 _ _ ?_)
       refine rtn (leave h34 (res1 h34 rfl (rvt rfl)) ?_)
       exact ⟨_, rfl, by rw [may_w hx (by rw [Pl.okW, hc]; rfl)], hB⟩
      | false =>
       refine drw h14 [some 47, some 48, some 49, some 50, some 51, some 52, some 53, some 54, some 55, some 56, some 57, some 58, some 59, some 60, some 61, some 62] rfl [Fx (.pointer (some ⟨g4, 2, none⟩)), Fx (.pointer (some ⟨g1, x.2.2, none⟩)), Fx (.pointer (some ⟨g1, x.2.2, none⟩)), Fx (str (Pl.hS h x.2.2)), Fx (.int .i64 (((Pl.hS h x.2.2) : List UInt8).length : Int)), Fx (.pointer (some ⟨g4, 1, none⟩)), Fx (.int .i64 (x.2.1 : Int)), Fx (.bool (decide ((x.2.1 : Int) < (((Pl.hS h x.2.2) : List UInt8).length : Int)))), Fx (.bool (decide ((x.2.1 : Int) < (((Pl.hS h x.2.2) : List UInt8).length : Int)))), Fx (.pointer (some ⟨g4, 2, none⟩)), Fx (.pointer (some ⟨g1, x.2.2, none⟩)), Fx (.pointer (some ⟨g1, x.2.2, none⟩)), Fx (str (Pl.hS h x.2.2)), Fx (.int .i64 (Lib.indexByte (Pl.hS h x.2.2) 0)), Fx (.bool (decide (0 ≤ (Lib.indexByte (Pl.hS h x.2.2) 0)))), Fx (.bool (decide (0 ≤ (Lib.indexByte (Pl.hS h x.2.2) 0))))] Kept rfl rfl rfl rfl (drewKept _) keptT (mcons mfx (mcons mfx (mcons mfx (mcons mfx (mcons mfx (mcons mfx (mcons mfx (mcons mfx (mcons mfx (mcons mfx (mcons mfx (mcons mfx (mcons mfx (mcons mfx (mcons mfx (mcons mfx mnil)))))))))))))))) ⟨?_, ?_, ?_, ?_, ?_, ?_, ?_, ?_, ?_, ?_, ?_, ?_, ?_, ?_, ?_, ?_, trivial⟩ ?_
       ·
        intro L a w_ hH hb hR hd ho
        have hl4 := hb 4 _ rfl
        refine fab hH hl4 Try.underlying116 rfl Try.sizeOf114 rfl 2 rfl rfl fun a35 h35 => ?_
        exact wpL_nil ⟨_, h35, Kept.refl _, rfl⟩
       ·
        intro L a w_ hH hb hR hd ho
        obtain ⟨_, hl47, rfl⟩ := hd 0 rfl
        replace hg4 := hg4.kept hR
        refine ldb hH hg4 hl47 Try.isAgg114 rfl rfl fun a36 h36 => ?_
        exact wpL_nil ⟨_, h36, Kept.refl _, rfl⟩
       ·
        intro L a w_ hH hb hR hd ho
        obtain ⟨_, hl48, rfl⟩ := hd 1 rfl
        refine nlc hH hl48 rfl fun a37 h37 => ?_
        exact wpL_nil ⟨_, h37, Kept.refl _, rfl⟩
       ·
        intro L a w_ hH hb hR hd ho
        obtain ⟨_, hl49, rfl⟩ := hd 2 rfl
        replace hg1 := hg1.kept hR
        refine ldb hH hg1 hl49 Try.isAgg9 (word_cell h hx) rfl fun a38 h38 => ?_
        exact wpL_nil ⟨_, h38, Kept.refl _, rfl⟩
       ·
        intro L a w_ hH hb hR hd ho
        obtain ⟨_, hl50, rfl⟩ := hd 3 rfl
        refine lens hH rfl Try.underlying9 hl50 rfl fun a39 h39 => ?_
        exact wpL_nil ⟨_, h39, Kept.refl _, rfl⟩
       ·
        intro L a w_ hH hb hR hd ho
        have hl4 := hb 4 _ rfl
        refine fab hH hl4 Try.underlying116 rfl Try.sizeOf3 rfl 1 rfl rfl fun a40 h40 => ?_
        exact wpL_nil ⟨_, h40, Kept.refl _, rfl⟩
       ·
        intro L a w_ hH hb hR hd ho
        obtain ⟨_, hl52, rfl⟩ := hd 5 rfl
        replace hg4 := hg4.kept hR
        refine ldb hH hg4 hl52 Try.isAgg3 rfl rfl fun a41 h41 => ?_
        exact wpL_nil ⟨_, h41, Kept.refl _, rfl⟩
       ·
        intro L a w_ hH hb hR hd ho
        obtain ⟨_, hl51, rfl⟩ := hd 4 rfl
        obtain ⟨_, hl53, rfl⟩ := hd 6 rfl
        refine gtr hH hl51 hl53 rfl fun a42 h42 => ?_
        exact wpL_nil ⟨_, h42, Kept.refl _, rfl⟩
       ·
        intro L a w_ hH hb hR hd ho
        obtain ⟨_, hl54, rfl⟩ := hd 7 rfl
        refine mv hH hl54 rfl fun a43 h43 => ?_
        exact wpL_nil ⟨_, h43, Kept.refl _, rfl⟩
       ·
        intro L a w_ hH hb hR hd ho
        have hl4 := hb 4 _ rfl
        obtain ⟨_, hl55, rfl⟩ := hd 8 rfl
        refine gon hH rfl hl55 hc ?_
        refine fab hH hl4 Try.underlying116 rfl Try.sizeOf114 rfl 2 rfl rfl fun a44 h44 => ?_
        exact wpL_nil ⟨_, h44, Kept.refl _, rfl⟩
       ·
        intro L a w_ hH hb hR hd ho
        obtain ⟨_, hl56, rfl⟩ := hd 9 rfl
        obtain ⟨_, hl55, rfl⟩ := hd 8 rfl
        replace hg4 := hg4.kept hR
        refine gon hH rfl hl55 hc ?_
        refine ldb hH hg4 hl56 Try.isAgg114 rfl rfl fun a45 h45 => ?_
        exact wpL_nil ⟨_, h45, Kept.refl _, rfl⟩
       ·
        intro L a w_ hH hb hR hd ho
        obtain ⟨_, hl57, rfl⟩ := hd 10 rfl
        obtain ⟨_, hl55, rfl⟩ := hd 8 rfl
        refine gon hH rfl hl55 hc ?_
        refine nlc hH hl57 rfl fun a46 h46 => ?_
        exact wpL_nil ⟨_, h46, Kept.refl _, rfl⟩
       ·
        intro L a w_ hH hb hR hd ho
        obtain ⟨_, hl58, rfl⟩ := hd 11 rfl
        obtain ⟨_, hl55, rfl⟩ := hd 8 rfl
        replace hg1 := hg1.kept hR
        refine gon hH rfl hl55 hc ?_
        refine ldb hH hg1 hl58 Try.isAgg9 (word_cell h hx) rfl fun a47 h47 => ?_
        exact wpL_nil ⟨_, h47, Kept.refl _, rfl⟩
       ·
        intro L a w_ hH hb hR hd ho
        obtain ⟨_, hl59, rfl⟩ := hd 12 rfl
        obtain ⟨_, hl55, rfl⟩ := hd 8 rfl
        refine gon hH rfl hl55 hc ?_
        refine cal hH Try.call87 (evs2 hl59 rfl) (c_indexByte _ 0 _) rfl ?_
        rintro v9 w9 a48 ⟨rfl, rfl⟩ h48
        exact wpL_nil ⟨_, h48, Kept.refl _, rfl⟩
       ·
        intro L a w_ hH hb hR hd ho
        obtain ⟨_, hl60, rfl⟩ := hd 13 rfl
        obtain ⟨_, hl55, rfl⟩ := hd 8 rfl
        refine gon hH rfl hl55 hc ?_
        refine geq hH hl60 rfl rfl fun a49 h49 => ?_
        exact wpL_nil ⟨_, h49, Kept.refl _, rfl⟩
       ·
        intro L a w_ hH hb hR hd ho
        obtain ⟨_, hl55, rfl⟩ := hd 8 rfl
        obtain ⟨_, hl61, rfl⟩ := hd 14 rfl
        refine pkf hH hl55 hc hl61 rfl fun a50 h50 => ?_
        exact wpL_nil ⟨_, h50, Kept.refl _, rfl⟩
       intro L10 a51 w10 h51 hbh51 hRh51 hdh51
       obtain ⟨_, hl47, rfl⟩ := hdh51 0 (by decide)
       obtain ⟨_, hl48, rfl⟩ := hdh51 1 (by decide)
       obtain ⟨_, hl49, rfl⟩ := hdh51 2 (by decide)
       obtain ⟨_, hl50, rfl⟩ := hdh51 3 (by decide)
       obtain ⟨_, hl51, rfl⟩ := hdh51 4 (by decide)
       obtain ⟨_, hl52, rfl⟩ := hdh51 5 (by decide)
       obtain ⟨_, hl53, rfl⟩ := hdh51 6 (by decide)
       obtain ⟨_, hl54, rfl⟩ := hdh51 7 (by decide)
       obtain ⟨_, hl55, rfl⟩ := hdh51 8 (by decide)
       obtain ⟨_, hl56, rfl⟩ := hdh51 9 (by decide)
       obtain ⟨_, hl57, rfl⟩ := hdh51 10 (by decide)
       obtain ⟨_, hl58, rfl⟩ := hdh51 11 (by decide)
       obtain ⟨_, hl59, rfl⟩ := hdh51 12 (by decide)
       obtain ⟨_, hl60, rfl⟩ := hdh51 13 (by decide)
       obtain ⟨_, hl61, rfl⟩ := hdh51 14 (by decide)
       obtain ⟨_, hl62, rfl⟩ := hdh51 15 (by decide)
       have h52 := Has.under h51 hbh51
       have h53 := (h51.add hl62 (h51.add hl61 (h51.add hl60 (h51.add hl59 (h51.add hl58 (h51.add hl57 (h51.add hl56 (h51.add hl55 (h51.add hl54 (h51.add hl53 (h51.add hl52 (h51.add hl51 (h51.add hl50 (h51.add hl49 (h51.add hl48 (h51.add hl47 h52))))))))))))))))
       clear h52 hl47 hl48 hl49 hl50 hl51 hl52 hl53 hl54 hl55 hl56 hl57 hl58 hl59 hl60 hl61 hl62 hbh51 hdh51
       replace hg1 := hg1.kept hRh51
       replace hW := hW.kept hRh51
       replace hnW := Nat.le_trans hnW hRh51.size
       replace hB := Kept.trans hB hRh51
       refine hK14 _ _ ?_
       refine spl h53 (d := 62) rfl (fun hb9002 => ?_) (fun hb9002 => ?_)
       ·
        have hp9002 := of_decide_eq_true hb9002
        refine cdt h53 rfl hb9002 ?_
        refine sq fun K16 hK16 => ?_
        refine reg [some 2] rfl ?_
        refine asg h53 rfl rfl fun a54 h54 => ?_
        clear hK14 h53 K14
        refine wpL_nil (hK16 _ _ ?_)
        refine rtn (leave h54 (res1 h54 rfl (rvt rfl)) ?_)
        exact ⟨_, rfl, by rw [may_w hx (by rw [Pl.okW, decide_eq_true hp9002, Bool.or_true]; rfl)], hB⟩
       ·
        have hp9002 := of_decide_eq_false hb9002
        refine cdf h53 rfl hb9002 ?_
        refine skp (hK12 _ _ ?_)
        refine reg [some 63, some 43] rfl ?_
        refine add h53 rfl rfl rfl (by omega) fun a55 h55 => ?_
        refine mv h55 rfl rfl fun a56 h56 => ?_
        clear hK14 hK12 h53 h55 K14 K12 a55
        refine wpL_nil ?_
        exact ⟨k + 1, ⟨_, _, (h56.cons' rfl (h56.cons' rfl (h56.cons' rfl (h56.cons' (lke rfl (by simp)) (h56.nil'))))), by omega, (all_next hq hx (by rw [Pl.okW, hc, decide_eq_false hp9002]; rfl)), hg1, hW, hnW, hB⟩, by omega⟩
     ·
      have hp3 := of_decide_eq_false hb3
      have hqW : (Pl.wordsL h.typ).all (Pl.okW h) = true := by rw [take_take_all (by have := of_decide_eq_false hb3; omega)] at hq; exact hq
      refine cdf h11 rfl hb3 ?_
      refine xit (hK8 _ _ ?_)
      refine sq fun K17 hK17 => ?_
      refine sq fun K18 hK18 => ?_
      refine reg [some 64, some 65, some 66] rfl ?_
      have hlg111 := hg1.lt
      have hsz11 := hB.size
      refine cal h11 Try.call92 rfl (c_numbers _ _ _ hg1) rfl ?_
      rintro v11 w11 a57 ⟨hW11, hk11⟩ h57
      replace hg1 := hg1.kept hk11
      replace hnW := Nat.le_trans hnW hk11.size
      replace hB := Kept.trans hB hk11
      replace hW11 := hW11.lt
      refine lnx h57 rfl Try.underlying119 rfl hW11.isl rfl fun a58 h58 => ?_
      refine mv h58 rfl rfl fun a59 h59 => ?_
      clear hK10 hK8 hK11 h11 h57 h58 K10 K8 K11 a11 a57 a58
      refine wpL_nil (hK18 _ _ ?_)
      refine blc ?_
      clear hK18 K18
      refine lp (fun (k : Nat) (a : Act) (W : World) => ∃ (vN : Value), ∃ (nW : Nat), Has [] 83 [(1, .pointer (some ⟨g1, 0, none⟩)), (64, vN), (65, .int .i64 ((Pl.numsL h.typ).length : Int)), (66, .int .i64 (k : Int))] a ∧ (k ≤ (Pl.numsL h.typ).length) ∧ (((Pl.numsL h.typ).take k).all (Pl.okN h) = true) ∧ (Blk W g1 41 (hdCells h)) ∧ (Sts (wc g1) (Lo nW) W vN (Pl.numsL h.typ)) ∧ (nW ≤ W.heap.size) ∧ (Kept w W)) (fun (k : Nat) => (Pl.numsL h.typ).length - k) (0) ⟨_, _, (h59.cons' rfl (h59.cons' rfl (h59.cons' rfl (h59.cons' rfl (h59.nil'))))), Nat.zero_le _, rfl, hg1, hW11.old, Nat.le_refl _, hB⟩ ?_
      clear h59 hW11 hB hnW hW hg1 hq hk
      rintro k a60 w12 ⟨vN, nW, h60, hk2, hq2, hg1, hWN, hnW, hB⟩
      refine sq fun K19 hK19 => ?_
      refine reg [some 67] rfl ?_
      refine lss h60 rfl rfl rfl fun a61 h61 => ?_
      clear h60 a60
      refine wpL_nil (hK19 _ _ ?_)
      refine sq fun K20 hK20 => ?_
      refine spl h61 (d := 67) rfl (fun hb93 => ?_) (fun hb93 => ?_)
      ·
       have hp93 := of_decide_eq_true hb93
       obtain ⟨x, hx⟩ : ∃ x, (Pl.numsL h.typ)[k]? = some x := ⟨_, List.getElem?_eq_getElem (by have := of_decide_eq_true hb93; omega)⟩
       have hwl := nums_len h.typ
       refine cdt h61 rfl hb93 ?_
       refine skp (hK20 _ _ ?_)
       refine sq fun K21 hK21 => ?_
       refine blc ?_
       refine sq fun K22 hK22 => ?_
       refine reg [some 68, some 69, some 6, none] rfl ?_
       refine ixS (k := k) (wc_len _) hWN h61 rfl rfl Try.underlying119 Try.sizeOf123 (by decide) (by simp) (hx) rfl fun a62 ad68 h62 hI68 => ?_
       refine ldS h62 hI68 rfl Try.isAgg123 Try.sizeOf123 rfl fun a63 h63 => ?_
       refine alc h63 Try.zeroValue123 rfl rfl fun a64 w13 g6 h64 hk13 hz6 hg6 => ?_
       have hneg1g6 := Nat.lt_of_lt_of_le hg1.lt hz6
       have hNhnWg6 := Nat.le_trans hnW hz6
       have hleg6 := Nat.le_trans hB.size hz6
       replace hg1 := hg1.kept hk13
       replace hWN := hWN.kept hk13
       replace hnW := Nat.le_trans hnW hk13.size
       replace hB := Kept.trans hB hk13
       refine stb h64 hg6 rfl rfl _ rfl Try.sizeOf123 (wc_one _ _) _ (by simp [wc]) rfl fun w14 hg6' hk14 => ?_
       replace hg1 := hg1.but hk14 (by omega)
       replace hWN := hWN.but hk14 (by first | (show ¬ (_ < _); omega) | (simp; omega))
       replace hnW := Nat.le_trans hnW hk14.size
       replace hB := Kept.but hB hk14 (by omega)
       clear hg6; have hg6 := hg6'; clear hg6'
       clear hK19 hK20 h61 h62 h63 K19 K20 a61 a62 a63
       refine wpL_nil (hK22 _ _ ?_)
       refine sq fun K23 hK23 => ?_
       clear hK22 K22
       refine drw h64 [some 71, some 72, some 73, some 74, some 75, some 76, some 77, some 70, some 78, some 79, some 7, some 8] rfl [Fx (.pointer (some ⟨g6, 2, none⟩)), Fx (.pointer (some ⟨g1, x.2.2, none⟩)), Fx (.pointer (some ⟨g1, x.2.2, none⟩)), Fx (.int .i64 (Pl.hN h x.2.2)), Fx (.pointer (some ⟨g6, 1, none⟩)), Fx (.int .i64 (x.2.1 : Int)), fun v _ => ∃ u, v = .tuple #[u, .bool (Pl.okN h x)], fun v _ => ∃ u, v = .tuple #[u, .bool (Pl.okN h x)], fun _ _ => True, Fx (.bool (Pl.okN h x)), fun _ _ => True, Fx (.bool (Pl.okN h x))] Kept rfl rfl rfl rfl (drewKept _) keptT (mcons mfx (mcons mfx (mcons mfx (mcons mfx (mcons mfx (mcons mfx (mcons (fun _ _ _ _ h => h) (mcons (fun _ _ _ _ h => h) (mcons (fun _ _ _ _ h => h) (mcons mfx (mcons (fun _ _ _ _ h => h) (mcons mfx mnil)))))))))))) ⟨?_, ?_, ?_, ?_, ?_, ?_, ?_, ?_, ?_, ?_, ?_, ?_, trivial⟩ ?_
       ·
        intro L a w_ hH hb hR hd ho
        have hl6 := hb 6 _ rfl
        refine fab hH hl6 Try.underlying123 rfl Try.sizeOf121 rfl 2 rfl rfl fun a65 h65 => ?_
        exact wpL_nil ⟨_, h65, Kept.refl _, rfl⟩
       ·
        intro L a w_ hH hb hR hd ho
        obtain ⟨_, hl71, rfl⟩ := hd 0 rfl
        replace hg6 := hg6.kept hR
        refine ldb hH hg6 hl71 Try.isAgg121 rfl rfl fun a66 h66 => ?_
        exact wpL_nil ⟨_, h66, Kept.refl _, rfl⟩
       ·
        intro L a w_ hH hb hR hd ho
        obtain ⟨_, hl72, rfl⟩ := hd 1 rfl
        refine nlc hH hl72 rfl fun a67 h67 => ?_
        exact wpL_nil ⟨_, h67, Kept.refl _, rfl⟩
       ·
        intro L a w_ hH hb hR hd ho
        obtain ⟨_, hl73, rfl⟩ := hd 2 rfl
        replace hg1 := hg1.kept hR
        refine ldb hH hg1 hl73 Try.isAgg3 (num_cell h hx) rfl fun a68 h68 => ?_
        exact wpL_nil ⟨_, h68, Kept.refl _, rfl⟩
       ·
        intro L a w_ hH hb hR hd ho
        have hl6 := hb 6 _ rfl
        refine fab hH hl6 Try.underlying123 rfl Try.sizeOf3 rfl 1 rfl rfl fun a69 h69 => ?_
        exact wpL_nil ⟨_, h69, Kept.refl _, rfl⟩
       ·
        intro L a w_ hH hb hR hd ho
        obtain ⟨_, hl75, rfl⟩ := hd 4 rfl
        replace hg6 := hg6.kept hR
        refine ldb hH hg6 hl75 Try.isAgg3 rfl rfl fun a70 h70 => ?_
        exact wpL_nil ⟨_, h70, Kept.refl _, rfl⟩
       ·
        intro L a w_ hH hb hR hd ho
        obtain ⟨_, hl74, rfl⟩ := hd 3 rfl
        obtain ⟨_, hl76, rfl⟩ := hd 5 rfl
        refine cal hH Try.call101 (evs2 hl74 hl76) (c_numPut _ _ _ (hr _) (by have := num_room hx; omega)) rfl ?_
        rintro v15 w15 a71 ⟨u77, rfl, hu77, hk15⟩ h71
        exact wpL_nil ⟨_, h71, hk15, ⟨_, rfl⟩⟩
       ·
        intro L a w_ hH hb hR hd ho
        obtain ⟨v77, hl77, hf77⟩ := hd 6 rfl
        refine mv hH hl77 rfl fun a72 h72 => ?_
        exact wpL_nil ⟨_, h72, Kept.refl _, hf77⟩
       ·
        intro L a w_ hH hb hR hd ho
        obtain ⟨v70, hl70, hf70⟩ := hd 7 rfl
        obtain ⟨u70, rfl⟩ := hf70
        refine ext2_0 hH hl70 rfl fun a73 h73 => ?_
        exact wpL_nil ⟨_, h73, Kept.refl _, trivial⟩
       ·
        intro L a w_ hH hb hR hd ho
        obtain ⟨v70, hl70, hf70⟩ := hd 7 rfl
        obtain ⟨u70, rfl⟩ := hf70
        refine ext2_1 hH hl70 rfl fun a74 h74 => ?_
        exact wpL_nil ⟨_, h74, Kept.refl _, rfl⟩
       ·
        intro L a w_ hH hb hR hd ho
        obtain ⟨v78, hl78, hf78⟩ := hd 8 rfl
        refine asg hH hl78 rfl fun a75 h75 => ?_
        exact wpL_nil ⟨_, h75, Kept.refl _, trivial⟩
       ·
        intro L a w_ hH hb hR hd ho
        obtain ⟨_, hl79, rfl⟩ := hd 9 rfl
        refine asg hH hl79 rfl fun a76 h76 => ?_
        exact wpL_nil ⟨_, h76, Kept.refl _, rfl⟩
       intro L16 a77 w16 h77 hbh77 hRh77 hdh77
       obtain ⟨_, hl71, rfl⟩ := hdh77 0 (by decide)
       obtain ⟨_, hl72, rfl⟩ := hdh77 1 (by decide)
       obtain ⟨_, hl73, rfl⟩ := hdh77 2 (by decide)
       obtain ⟨_, hl74, rfl⟩ := hdh77 3 (by decide)
       obtain ⟨_, hl75, rfl⟩ := hdh77 4 (by decide)
       obtain ⟨_, hl76, rfl⟩ := hdh77 5 (by decide)
       obtain ⟨v77, hl77, hf77⟩ := hdh77 6 (by decide)
       obtain ⟨v70, hl70, hf70⟩ := hdh77 7 (by decide)
       obtain ⟨v78, hl78, hf78⟩ := hdh77 8 (by decide)
       obtain ⟨_, hl79, rfl⟩ := hdh77 9 (by decide)
       obtain ⟨v7, hl7, hf7⟩ := hdh77 10 (by decide)
       obtain ⟨_, hl8, rfl⟩ := hdh77 11 (by decide)
       have h78 := Has.under h77 hbh77
       have h79 := (h77.add hl8 (h77.add hl7 (h77.add hl79 (h77.add hl78 (h77.add hl70 (h77.add hl77 (h77.add hl76 (h77.add hl75 (h77.add hl74 (h77.add hl73 (h77.add hl72 (h77.add hl71 h78))))))))))))
       clear h78 hl71 hl72 hl73 hl74 hl75 hl76 hl77 hl70 hl78 hl79 hl7 hl8 hbh77 hdh77
       replace hg1 := hg1.kept hRh77
       replace hWN := hWN.kept hRh77
       replace hnW := Nat.le_trans hnW hRh77.size
       replace hB := Kept.trans hB hRh77
       refine hK23 _ _ ?_
       refine sq fun K24 hK24 => ?_
       refine reg [some 80, some 81] rfl ?_
       refine mv h79 rfl rfl fun a80 h80 => ?_
       refine unot h80 rfl rfl fun a81 h81 => ?_
       clear hK23 h79 h80 K23 a80
       refine wpL_nil (hK24 _ _ ?_)
       refine spl h81 (d := 81) rfl (fun hb95 => ?_) (fun hb95 => ?_)
       ·
        refine cdt h81 rfl (bnf (bunt hb95)) ?_
        refine sq fun K25 hK25 => ?_
        refine reg [some 2] rfl ?_
        refine asg h81 rfl rfl fun a82 h82 => ?_
        clear hK24 h81 K24 a81
        refine wpL_nil (hK25 _ _ ?_)
        refine rtn (leave h82 (res1 h82 rfl (rvt rfl)) ?_)
        exact ⟨_, rfl, by rw [may_n hx (bunt hb95)], hB⟩
       ·
        refine cdf h81 rfl (bnt (bunf hb95)) ?_
        refine skp (hK21 _ _ ?_)
        refine reg [some 82, some 66] rfl ?_
        refine add h81 rfl rfl rfl (by omega) fun a83 h83 => ?_
        refine mv h83 rfl rfl fun a84 h84 => ?_
        clear hK24 hK21 h81 h83 K24 K21 a81 a83
        refine wpL_nil ?_
        exact ⟨k + 1, ⟨_, _, (h84.cons' rfl (h84.cons' rfl (h84.cons' rfl (h84.cons' (lke rfl (by simp)) (h84.nil'))))), by omega, (all_next hq2 hx (bunf hb95)), hg1, hWN, hnW, hB⟩, by omega⟩
      ·
       have hp93 := of_decide_eq_false hb93
       rw [take_take_all (by have := of_decide_eq_false hb93; omega)] at hq2
       refine cdf h61 rfl hb93 ?_
       refine xit (hK17 _ _ ?_)
       refine sq fun K26 hK26 => ?_
       refine reg [some 2] rfl ?_
       refine asg h61 rfl rfl fun a85 h85 => ?_
       clear hK19 hK17 hK20 h61 K19 K17 K20 a61
       refine wpL_nil (hK26 _ _ ?_)
       refine rtn (leave h85 (res1 h85 rfl (rvt rfl)) ?_)
       exact ⟨_, rfl, by rw [may_yes (bunf hb1) (bunf hb2) hqW hq2], hB⟩
   intro hJ3
   refine fab h3 rfl Try.underlying41 rfl Try.sizeOf5 rfl 8 rfl rfl fun a86 h86 => ?_
   refine ldb h86 hg1 rfl Try.isAgg5 rfl rfl fun a87 h87 => ?_
   refine ieq h87 rfl rfl rfl fun a88 h88 => ?_
   refine mv h88 rfl rfl fun a89 h89 => ?_
   refine spl h89 (d := 21) rfl (fun hb96 => ?_) (fun hb96 => ?_)
   ·
    have hp96 := of_decide_eq_true hb96
    refine gon h89 (d := 21) rfl rfl hb96 ?_
    refine fab h89 rfl Try.underlying41 rfl Try.sizeOf9 rfl 1 rfl rfl fun a90 h90 => ?_
    refine gon h90 (d := 21) rfl rfl hb96 ?_
    refine ldb h90 hg1 rfl Try.isAgg9 rfl rfl fun a91 h91 => ?_
    refine gon h91 (d := 21) rfl rfl hb96 ?_
    refine sneq h91 rfl rfl rfl fun a92 h92 => ?_
    refine pkt h92 rfl hb96 rfl rfl fun a93 h93 => ?_
    refine mv h93 rfl rfl fun a94 h94 => ?_
    refine spl h94 (d := 26) rfl (fun hb97 => ?_) (fun hb97 => ?_)
    ·
     have hp97 := of_decide_eq_false (bunt hb97)
     refine goff h94 (d := 26) rfl rfl (bnf (bunt hb97)) rfl fun a95 h95 => ?_
     refine goff h95 (d := 26) rfl rfl (bnf (bunt hb97)) rfl fun a96 h96 => ?_
     refine goff h96 (d := 26) rfl rfl (bnf (bunt hb97)) rfl fun a97 h97 => ?_
     refine goff h97 (d := 26) rfl rfl (bnf (bunt hb97)) rfl fun a98 h98 => ?_
     refine goffu h98 (d := 30) rfl rfl rfl fun a99 h99 => ?_
     refine goffu h99 (d := 30) rfl rfl rfl fun a100 h100 => ?_
     refine goffu h100 (d := 30) rfl rfl rfl fun a101 h101 => ?_
     refine goffu h101 (d := 30) rfl rfl rfl fun a102 h102 => ?_
     refine goffu h102 (d := 34) rfl rfl rfl fun a103 h103 => ?_
     refine goffu h103 (d := 34) rfl rfl rfl fun a104 h104 => ?_
     refine goffu h104 (d := 34) rfl rfl rfl fun a105 h105 => ?_
     refine goffu h105 (d := 30) rfl rfl rfl fun a106 h106 => ?_
     refine goff h106 (d := 26) rfl rfl (bnf (bunt hb97)) rfl fun a107 h107 => ?_
     refine pkt h107 rfl (bnf (bunt hb97)) rfl rfl fun a108 h108 => ?_
     clear h3 h86 h87 h88 h89 h90 h91 h92 h93 h94 h95 h96 h97 h98 h99 h100 h101 h102 h103 h104 h105 h106 h107 a3 a86 a87 a88 a89 a90 a91 a92 a93 a94 a95 a96 a97 a98 a99 a100 a101 a102 a103 a104 a105 a106 a107
     exact wpL_nil (hJ3 _ _ (h108.cons' (lke rfl (by first | (exfalso; omega) | (unfold Pl.may2; rw [← typ77]; simp [*]))) (((((((((((((((((((((((h108.tail rfl).tail rfl).tail rfl).tail rfl).tail rfl).tail rfl).tail rfl).tail rfl).tail rfl).tail rfl).tail rfl).tail rfl).tail rfl).tail rfl).tail rfl).tail rfl).tail rfl).tail rfl).tail rfl).tail rfl).tail rfl).tail rfl).tail rfl)) rfl)
    ·
     have hp97 := of_decide_eq_true (bunf hb97)
     refine gon h94 (d := 26) rfl rfl (bnt (bunf hb97)) ?_
     refine fab h94 rfl Try.underlying41 rfl Try.sizeOf5 rfl 8 rfl rfl fun a109 h109 => ?_
     refine gon h109 (d := 26) rfl rfl (bnt (bunf hb97)) ?_
     refine ldb h109 hg1 rfl Try.isAgg5 rfl rfl fun a110 h110 => ?_
     refine gon h110 (d := 26) rfl rfl (bnt (bunf hb97)) ?_
     refine ineq h110 rfl rfl rfl fun a111 h111 => ?_
     refine gon h111 (d := 26) rfl rfl (bnt (bunf hb97)) ?_
     refine mv h111 rfl rfl fun a112 h112 => ?_
     refine spl h112 (d := 30) rfl (fun hb98 => ?_) (fun hb98 => ?_)
     ·
      have hp98 := of_decide_eq_false (bunt hb98)
      refine gon h112 (d := 30) rfl rfl (bnf (bunt hb98)) ?_
      refine fab h112 rfl Try.underlying41 rfl Try.sizeOf3 rfl 9 rfl rfl fun a113 h113 => ?_
      refine gon h113 (d := 30) rfl rfl (bnf (bunt hb98)) ?_
      refine ldb h113 hg1 rfl Try.isAgg3 rfl rfl fun a114 h114 => ?_
      refine gon h114 (d := 30) rfl rfl (bnf (bunt hb98)) ?_
      refine ineq h114 rfl rfl rfl fun a115 h115 => ?_
      refine gon h115 (d := 30) rfl rfl (bnf (bunt hb98)) ?_
      refine mv h115 rfl rfl fun a116 h116 => ?_
      refine spl h116 (d := 34) rfl (fun hb99 => ?_) (fun hb99 => ?_)
      ·
       have hp99 := of_decide_eq_false (bunt hb99)
       refine goff h116 (d := 34) rfl rfl (bnf (bunt hb99)) rfl fun a117 h117 => ?_
       refine goff h117 (d := 34) rfl rfl (bnf (bunt hb99)) rfl fun a118 h118 => ?_
       refine goff h118 (d := 34) rfl rfl (bnf (bunt hb99)) rfl fun a119 h119 => ?_
       refine gon h119 (d := 30) rfl rfl (bnf (bunt hb98)) ?_
       refine pkt h119 rfl (bnf (bunt hb99)) rfl rfl fun a120 h120 => ?_
       refine gon h120 (d := 26) rfl rfl (bnt (bunf hb97)) ?_
       refine pkt h120 rfl (bnf (bunt hb98)) rfl rfl fun a121 h121 => ?_
       refine pkf h121 rfl (bnt (bunf hb97)) rfl rfl fun a122 h122 => ?_
       clear h3 h86 h87 h88 h89 h90 h91 h92 h93 h94 h109 h110 h111 h112 h113 h114 h115 h116 h117 h118 h119 h120 h121 a3 a86 a87 a88 a89 a90 a91 a92 a93 a94 a109 a110 a111 a112 a113 a114 a115 a116 a117 a118 a119 a120 a121
       exact wpL_nil (hJ3 _ _ (h122.cons' (lke rfl (by first | (exfalso; omega) | (unfold Pl.may2; rw [← typ77]; simp [*]))) (((((((((((((((((((((((h122.tail rfl).tail rfl).tail rfl).tail rfl).tail rfl).tail rfl).tail rfl).tail rfl).tail rfl).tail rfl).tail rfl).tail rfl).tail rfl).tail rfl).tail rfl).tail rfl).tail rfl).tail rfl).tail rfl).tail rfl).tail rfl).tail rfl).tail rfl)) rfl)
      ·
       have hp99 := of_decide_eq_true (bunf hb99)
       refine gon h116 (d := 34) rfl rfl (bnt (bunf hb99)) ?_
       refine fab h116 rfl Try.underlying41 rfl Try.sizeOf3 rfl 10 rfl rfl fun a123 h123 => ?_
       refine gon h123 (d := 34) rfl rfl (bnt (bunf hb99)) ?_
       refine ldb h123 hg1 rfl Try.isAgg3 rfl rfl fun a124 h124 => ?_
       refine gon h124 (d := 34) rfl rfl (bnt (bunf hb99)) ?_
       refine ineq h124 rfl rfl rfl fun a125 h125 => ?_
       refine gon h125 (d := 30) rfl rfl (bnf (bunt hb98)) ?_
       refine pkf h125 rfl (bnt (bunf hb99)) rfl rfl fun a126 h126 => ?_
       refine gon h126 (d := 26) rfl rfl (bnt (bunf hb97)) ?_
       refine pkt h126 rfl (bnf (bunt hb98)) rfl rfl fun a127 h127 => ?_
       refine pkf h127 rfl (bnt (bunf hb97)) rfl rfl fun a128 h128 => ?_
       clear h3 h86 h87 h88 h89 h90 h91 h92 h93 h94 h109 h110 h111 h112 h113 h114 h115 h116 h123 h124 h125 h126 h127 a3 a86 a87 a88 a89 a90 a91 a92 a93 a94 a109 a110 a111 a112 a113 a114 a115 a116 a123 a124 a125 a126 a127
       exact wpL_nil (hJ3 _ _ (h128.cons' (lke rfl (by first | (exfalso; omega) | (unfold Pl.may2; rw [← typ77]; simp [*]))) (((((((((((((((((((((((h128.tail rfl).tail rfl).tail rfl).tail rfl).tail rfl).tail rfl).tail rfl).tail rfl).tail rfl).tail rfl).tail rfl).tail rfl).tail rfl).tail rfl).tail rfl).tail rfl).tail rfl).tail rfl).tail rfl).tail rfl).tail rfl).tail rfl).tail rfl)) rfl)
     ·
      have hp98 := of_decide_eq_true (bunf hb98)
      refine goff h112 (d := 30) rfl rfl (bnt (bunf hb98)) rfl fun a129 h129 => ?_
      refine goff h129 (d := 30) rfl rfl (bnt (bunf hb98)) rfl fun a130 h130 => ?_
      refine goff h130 (d := 30) rfl rfl (bnt (bunf hb98)) rfl fun a131 h131 => ?_
      refine goff h131 (d := 30) rfl rfl (bnt (bunf hb98)) rfl fun a132 h132 => ?_
      refine goffu h132 (d := 34) rfl rfl rfl fun a133 h133 => ?_
      refine goffu h133 (d := 34) rfl rfl rfl fun a134 h134 => ?_
      refine goffu h134 (d := 34) rfl rfl rfl fun a135 h135 => ?_
      refine goff h135 (d := 30) rfl rfl (bnt (bunf hb98)) rfl fun a136 h136 => ?_
      refine gon h136 (d := 26) rfl rfl (bnt (bunf hb97)) ?_
      refine pkf h136 rfl (bnt (bunf hb98)) rfl rfl fun a137 h137 => ?_
      refine pkf h137 rfl (bnt (bunf hb97)) rfl rfl fun a138 h138 => ?_
      clear h3 h86 h87 h88 h89 h90 h91 h92 h93 h94 h109 h110 h111 h112 h129 h130 h131 h132 h133 h134 h135 h136 h137 a3 a86 a87 a88 a89 a90 a91 a92 a93 a94 a109 a110 a111 a112 a129 a130 a131 a132 a133 a134 a135 a136 a137
      exact wpL_nil (hJ3 _ _ (h138.cons' (lke rfl (by first | (exfalso; omega) | (unfold Pl.may2; rw [← typ77]; simp [*]))) (((((((((((((((((((((((h138.tail rfl).tail rfl).tail rfl).tail rfl).tail rfl).tail rfl).tail rfl).tail rfl).tail rfl).tail rfl).tail rfl).tail rfl).tail rfl).tail rfl).tail rfl).tail rfl).tail rfl).tail rfl).tail rfl).tail rfl).tail rfl).tail rfl).tail rfl)) rfl)
   ·
    have hp96 := of_decide_eq_false hb96
    refine goff h89 (d := 21) rfl rfl hb96 rfl fun a139 h139 => ?_
    refine goff h139 (d := 21) rfl rfl hb96 rfl fun a140 h140 => ?_
    refine goff h140 (d := 21) rfl rfl hb96 rfl fun a141 h141 => ?_
    refine pkf h141 rfl hb96 rfl rfl fun a142 h142 => ?_
    refine mv h142 rfl rfl fun a143 h143 => ?_
    refine gon h143 (d := 26) rfl rfl rfl ?_
    refine fab h143 rfl Try.underlying41 rfl Try.sizeOf5 rfl 8 rfl rfl fun a144 h144 => ?_
    refine gon h144 (d := 26) rfl rfl rfl ?_
    refine ldb h144 hg1 rfl Try.isAgg5 rfl rfl fun a145 h145 => ?_
    refine gon h145 (d := 26) rfl rfl rfl ?_
    refine ineq h145 rfl rfl rfl fun a146 h146 => ?_
    refine gon h146 (d := 26) rfl rfl rfl ?_
    refine mv h146 rfl rfl fun a147 h147 => ?_
    refine spl h147 (d := 30) rfl (fun hb101 => ?_) (fun hb101 => ?_)
    ·
     have hp101 := of_decide_eq_false (bunt hb101)
     refine gon h147 (d := 30) rfl rfl (bnf (bunt hb101)) ?_
     refine fab h147 rfl Try.underlying41 rfl Try.sizeOf3 rfl 9 rfl rfl fun a148 h148 => ?_
     refine gon h148 (d := 30) rfl rfl (bnf (bunt hb101)) ?_
     refine ldb h148 hg1 rfl Try.isAgg3 rfl rfl fun a149 h149 => ?_
     refine gon h149 (d := 30) rfl rfl (bnf (bunt hb101)) ?_
     refine ineq h149 rfl rfl rfl fun a150 h150 => ?_
     refine gon h150 (d := 30) rfl rfl (bnf (bunt hb101)) ?_
     refine mv h150 rfl rfl fun a151 h151 => ?_
     refine spl h151 (d := 34) rfl (fun hb102 => ?_) (fun hb102 => ?_)
     ·
      have hp102 := of_decide_eq_false (bunt hb102)
      refine goff h151 (d := 34) rfl rfl (bnf (bunt hb102)) rfl fun a152 h152 => ?_
      refine goff h152 (d := 34) rfl rfl (bnf (bunt hb102)) rfl fun a153 h153 => ?_
      refine goff h153 (d := 34) rfl rfl (bnf (bunt hb102)) rfl fun a154 h154 => ?_
      refine gon h154 (d := 30) rfl rfl (bnf (bunt hb101)) ?_
      refine pkt h154 rfl (bnf (bunt hb102)) rfl rfl fun a155 h155 => ?_
      refine gon h155 (d := 26) rfl rfl rfl ?_
      refine pkt h155 rfl (bnf (bunt hb101)) rfl rfl fun a156 h156 => ?_
      refine pkf h156 rfl rfl rfl rfl fun a157 h157 => ?_
      clear h3 h86 h87 h88 h89 h139 h140 h141 h142 h143 h144 h145 h146 h147 h148 h149 h150 h151 h152 h153 h154 h155 h156 a3 a86 a87 a88 a89 a139 a140 a141 a142 a143 a144 a145 a146 a147 a148 a149 a150 a151 a152 a153 a154 a155 a156
      exact wpL_nil (hJ3 _ _ (h157.cons' (lke rfl (by first | (exfalso; omega) | (unfold Pl.may2; rw [← typ77]; simp [*]))) (((((((((((((((((((((((h157.tail rfl).tail rfl).tail rfl).tail rfl).tail rfl).tail rfl).tail rfl).tail rfl).tail rfl).tail rfl).tail rfl).tail rfl).tail rfl).tail rfl).tail rfl).tail rfl).tail rfl).tail rfl).tail rfl).tail rfl).tail rfl).tail rfl).tail rfl)) rfl)
     ·
      have hp102 := of_decide_eq_true (bunf hb102)
      refine gon h151 (d := 34) rfl rfl (bnt (bunf hb102)) ?_
      refine fab h151 rfl Try.underlying41 rfl Try.sizeOf3 rfl 10 rfl rfl fun a158 h158 => ?_
      refine gon h158 (d := 34) rfl rfl (bnt (bunf hb102)) ?_
      refine ldb h158 hg1 rfl Try.isAgg3 rfl rfl fun a159 h159 => ?_
      refine gon h159 (d := 34) rfl rfl (bnt (bunf hb102)) ?_
      refine ineq h159 rfl rfl rfl fun a160 h160 => ?_
      refine gon h160 (d := 30) rfl rfl (bnf (bunt hb101)) ?_
      refine pkf h160 rfl (bnt (bunf hb102)) rfl rfl fun a161 h161 => ?_
      refine gon h161 (d := 26) rfl rfl rfl ?_
      refine pkt h161 rfl (bnf (bunt hb101)) rfl rfl fun a162 h162 => ?_
      refine pkf h162 rfl rfl rfl rfl fun a163 h163 => ?_
      clear h3 h86 h87 h88 h89 h139 h140 h141 h142 h143 h144 h145 h146 h147 h148 h149 h150 h151 h158 h159 h160 h161 h162 a3 a86 a87 a88 a89 a139 a140 a141 a142 a143 a144 a145 a146 a147 a148 a149 a150 a151 a158 a159 a160 a161 a162
      exact wpL_nil (hJ3 _ _ (h163.cons' (lke rfl (by first | (exfalso; omega) | (unfold Pl.may2; rw [← typ77]; simp [*]))) (((((((((((((((((((((((h163.tail rfl).tail rfl).tail rfl).tail rfl).tail rfl).tail rfl).tail rfl).tail rfl).tail rfl).tail rfl).tail rfl).tail rfl).tail rfl).tail rfl).tail rfl).tail rfl).tail rfl).tail rfl).tail rfl).tail rfl).tail rfl).tail rfl).tail rfl)) rfl)
    ·
     have hp101 := of_decide_eq_true (bunf hb101)
     refine goff h147 (d := 30) rfl rfl (bnt (bunf hb101)) rfl fun a164 h164 => ?_
     refine goff h164 (d := 30) rfl rfl (bnt (bunf hb101)) rfl fun a165 h165 => ?_
     refine goff h165 (d := 30) rfl rfl (bnt (bunf hb101)) rfl fun a166 h166 => ?_
     refine goff h166 (d := 30) rfl rfl (bnt (bunf hb101)) rfl fun a167 h167 => ?_
     refine goffu h167 (d := 34) rfl rfl rfl fun a168 h168 => ?_
     refine goffu h168 (d := 34) rfl rfl rfl fun a169 h169 => ?_
     refine goffu h169 (d := 34) rfl rfl rfl fun a170 h170 => ?_
     refine goff h170 (d := 30) rfl rfl (bnt (bunf hb101)) rfl fun a171 h171 => ?_
     refine gon h171 (d := 26) rfl rfl rfl ?_
     refine pkf h171 rfl (bnt (bunf hb101)) rfl rfl fun a172 h172 => ?_
     refine pkf h172 rfl rfl rfl rfl fun a173 h173 => ?_
     clear h3 h86 h87 h88 h89 h139 h140 h141 h142 h143 h144 h145 h146 h147 h164 h165 h166 h167 h168 h169 h170 h171 h172 a3 a86 a87 a88 a89 a139 a140 a141 a142 a143 a144 a145 a146 a147 a164 a165 a166 a167 a168 a169 a170 a171 a172
     exact wpL_nil (hJ3 _ _ (h173.cons' (lke rfl (by first | (exfalso; omega) | (unfold Pl.may2; rw [← typ77]; simp [*]))) (((((((((((((((((((((((h173.tail rfl).tail rfl).tail rfl).tail rfl).tail rfl).tail rfl).tail rfl).tail rfl).tail rfl).tail rfl).tail rfl).tail rfl).tail rfl).tail rfl).tail rfl).tail rfl).tail rfl).tail rfl).tail rfl).tail rfl).tail rfl).tail rfl).tail rfl)) rfl)
 intro hJ1
 refine fab h2 rfl Try.underlying41 rfl Try.sizeOf9 rfl 0 rfl rfl fun a174 h174 => ?_
 refine ldb h174 hg1 rfl Try.isAgg9 rfl rfl fun a175 h175 => ?_
 refine seq h175 rfl rfl rfl fun a176 h176 => ?_
 refine mv h176 rfl rfl fun a177 h177 => ?_
 refine spl h177 (d := 12) rfl (fun hb104 => ?_) (fun hb104 => ?_)
 ·
  have hp104 := of_decide_eq_true hb104
  refine goff h177 (d := 12) rfl rfl hb104 rfl fun a178 h178 => ?_
  refine goff h178 (d := 12) rfl rfl hb104 rfl fun a179 h179 => ?_
  refine goff h179 (d := 12) rfl rfl hb104 rfl fun a180 h180 => ?_
  refine goff h180 (d := 12) rfl rfl hb104 rfl fun a181 h181 => ?_
  refine pkt h181 rfl hb104 rfl rfl fun a182 h182 => ?_
  clear h2 h174 h175 h176 h177 h178 h179 h180 h181 a2 a174 a175 a176 a177 a178 a179 a180 a181
  exact wpL_nil (hJ1 _ _ (h182.cons' (lke rfl (by unfold Pl.may1 Pl.kindsS; simp only [*, Bool.not_not, decide_true, decide_false, Bool.true_or, Bool.false_or])) (((((((((h182.tail rfl).tail rfl).tail rfl).tail rfl).tail rfl).tail rfl).tail rfl).tail rfl).tail rfl)) rfl)
 ·
  have hp104 := of_decide_eq_false hb104
  refine gon h177 (d := 12) rfl rfl hb104 ?_
  refine fab h177 rfl Try.underlying41 rfl Try.sizeOf5 rfl 8 rfl rfl fun a183 h183 => ?_
  refine gon h183 (d := 12) rfl rfl hb104 ?_
  refine ldb h183 hg1 rfl Try.isAgg5 rfl rfl fun a184 h184 => ?_
  refine gon h184 (d := 12) rfl rfl hb104 ?_
  refine cal h184 Try.call87 rfl (c_indexByte _ _ _) rfl ?_
  rintro v17 w17 a185 ⟨rfl, rfl⟩ h185
  refine gon h185 (d := 12) rfl rfl hb104 ?_
  refine lss h185 rfl rfl rfl fun a186 h186 => ?_
  refine pkf h186 rfl hb104 rfl rfl fun a187 h187 => ?_
  clear h2 h174 h175 h176 h177 h183 h184 h185 h186 a2 a174 a175 a176 a177 a183 a184 a185 a186
  exact wpL_nil (hJ1 _ _ (h187.cons' (lke rfl (by unfold Pl.may1 Pl.kindsS; simp only [*, Bool.not_not, decide_true, decide_false, Bool.true_or, Bool.false_or])) (((((((((h187.tail rfl).tail rfl).tail rfl).tail rfl).tail rfl).tail rfl).tail rfl).tail rfl).tail rfl)) rfl)

end Go.Proofs.Ytpgeogdmjgmimaa
