/-
  Walks, written by wip/gen/gen.py.
-/
import Derived.Test.YtpgeogdmjgmimaaK13
import Derived.Test.YtpgeogdmjgmimaaW6
set_option linter.unusedVariables false
set_option linter.unusedSimpArgs false
set_option maxRecDepth 4000
namespace Go.Proofs.Ytpgeogdmjgmimaa
open Go Go.RowKit K

/-- A literal's value. -/
theorem bsl1_25_0 (x0 : Option Addr) (y0 z0 : Nat) (w : World) : (Instr.buildSlice 25 1 [(0, (.slice x0 y0 z0))].toArray).run Try.prog w = .ok (.slice (some ⟨w.heap.size, 0, none⟩) 1 1) (w.alloc (.cells [.slice x0 y0 z0].toArray 35)) := by kernel_rfl
theorem chunk_ne {s : List UInt8} {k : Nat} (h : ¬ s.drop (512 * k) = []) : k < Pl.nch s.length := by
  apply Pl.nch_lt
  rcases Nat.lt_or_ge (512 * k) s.length with h1 | h1
  · exact h1
  · exact absurd (List.drop_of_length_le h1) h
theorem chunk_eq {s : List UInt8} {k : Nat} (h : s.drop (512 * k) = []) : Pl.nch s.length ≤ k := Pl.nch_ge (by simpa using h)
theorem bytes_le {a b : Nat} (h : (a + b) * 24 ≤ 140737488355328) : (a + b) * 24 ≤ 140737488355328 := h
theorem rep_next {α : Type} (k : Nat) (x : α) : List.replicate (k + 1) x = List.replicate k x ++ [x] := List.replicate_succ'
theorem zero_row : List.replicate 512 (Value.int .u8 0) = (List.replicate 512 (0 : UInt8)).map u8 := by simp [-List.reduceReplicate, u8]
theorem all_next2 {k : Nat} {a b : List (List UInt8)} {x y : List UInt8} (hx : a[k]? = some x) (hy : b[k]? = some y) (h : a.take k = b.take k) (e : x = y) : a.take (k + 1) = b.take (k + 1) := by
  rw [List.take_add_one, List.take_add_one, hx, hy, h, e]

/-- block.pieces -/
theorem c_pieces (p : List UInt8) (w : World) :
  C Try.prog 133 [str p] w fun v w' => ∃ g, v = .func (.func 170) #[] #[.pointer (some ⟨g, 0, none⟩)] ∧ w.heap.size ≤ g ∧ Blk w' g 9 [str p] ∧ Kept w w' := by
 refine enterE Try.func133 rfl 4 rfl rfl fun a0 h0 => ?_
 have hB := Kept.refl w
 refine sq fun K1 hK1 => ?_
 refine reg [some 1, some 2] rfl ?_
 refine bxv h0 rfl rfl rfl fun a1 w1 g1 h1 hk1 hz1 hg1 => ?_
 have hleg1 := Nat.le_trans hB.size hz1
 replace hB := Kept.trans hB hk1
 refine asg h1 rfl rfl fun a2 h2 => ?_
 clear h0 h1 a0 a1
 refine wpL_nil (hK1 _ _ ?_)
 refine sq fun K2 hK2 => ?_
 refine reg [some 3, some 2] rfl ?_
 refine mkf h2 rfl rfl rfl fun a3 h3 => ?_
 refine asg h3 rfl rfl fun a4 h4 => ?_
 clear hK1 h2 h3 K1 a2 a3
 refine wpL_nil (hK2 _ _ ?_)
 refine rtn (leave h4 (res1 h4 rfl (rvt rfl)) ?_)
 exact ⟨_, rfl, _, rfl, hz1, hg1, hB⟩

/-- block.pieces$1 -/
theorem i_pieces (s : List UInt8) (g1 : Nat) (hs : s.length ≤ 4611686018427387904) : Iter Try.prog 170 [.pointer (some ⟨g1, 0, none⟩)] (fun s : List UInt8 => [str s]) (Pl.chunks s) g1 9 [str s] (fun k => [str (s.drop (512 * k))]) (fun _ => True) := by
 intro lr J Jx w hg1 _ hJk hJxk hY hJ
 refine enterI (vs := [_, _]) Try.func170 rfl 18 rfl rfl fun a0 h0 => ?_
 refine blc ?_
 refine lp (fun (k : Nat) (a : Act) (W : World) => Has [] 18 [(0, .func (.yield lr) #[] #[]), (1, .pointer (some ⟨g1, 0, none⟩))] a ∧ (k ≤ Pl.nch s.length) ∧ (Blk W g1 9 [str (s.drop (512 * k))]) ∧ (J k W)) (fun (k : Nat) => Pl.nch s.length - k) (0) ⟨(h0.cons' rfl (h0.cons' rfl (h0.nil'))), Nat.zero_le _, hg1, hJ⟩ ?_
 clear h0 hJ hg1
 rintro k a1 w1 ⟨h1, hkn, hg1, hJ⟩
 refine sq fun K1 hK1 => ?_
 refine sq fun K2 hK2 => ?_
 refine reg [some 4, some 5] rfl ?_
 refine ldb h1 hg1 rfl Try.isAgg9 rfl rfl fun a2 h2 => ?_
 refine sneq h2 rfl rfl rfl fun a3 h3 => ?_
 clear h1 h2 a1 a2
 refine wpL_nil (hK2 _ _ ?_)
 refine spl h3 (d := 5) rfl (fun hb1 => ?_) (fun hb1 => ?_)
 ·
  have hp1 := of_decide_eq_false (bunt hb1)
  have hlt := chunk_ne (of_decide_eq_false (bunt hb1))
  have hld : (s.drop (512 * k)).length ≤ s.length := by simp
  refine cdt h3 rfl (bnf (bunt hb1)) ?_
  refine skp (hK1 _ _ ?_)
  refine blc ?_
  refine sq fun K3 hK3 => ?_
  refine reg [some 6, some 7, some 8, some 3] rfl ?_
  refine ldb h3 hg1 rfl Try.isAgg9 rfl rfl fun a4 h4 => ?_
  refine lens h4 rfl Try.underlying9 rfl rfl fun a5 h5 => ?_
  refine minv h5 rfl rfl rfl fun a6 h6 => ?_
  refine asg h6 rfl rfl fun a7 h7 => ?_
  clear hK2 hK1 h3 h4 h5 h6 K2 K1 a3 a4 a5 a6
  refine wpL_nil (hK3 _ _ ?_)
  refine sq fun K4 hK4 => ?_
  refine sq fun K5 hK5 => ?_
  refine reg [some 9, some 10, some 11, some 12, some 13, some 14] rfl ?_
  refine mv h7 rfl rfl fun a8 h8 => ?_
  refine ldb h8 hg1 rfl Try.isAgg9 rfl rfl fun a9 h9 => ?_
  refine mv h9 rfl rfl fun a10 h10 => ?_
  refine slct (min (s.drop (512 * k)).length 512) h10 Try.underlying9 rfl ⟨_, rfl, by first | omega | (simp; omega)⟩ (by omega) rfl fun a11 h11 => ?_
  have hxk := Pl.chunks_get s k hlt
  rw [Pl.chunk_min] at hxk
  have hY' := hY k _ _ hxk hJ hg1 trivial
  refine yld h11 rfl rfl rfl hY' ?_
  rintro e w2 (⟨rfl, hJ, hg1, -⟩ | ⟨rfl, hJx⟩)
  ·
   refine ⟨_, rfl, fun a12 h12 => ?_⟩
   refine unot h12 rfl rfl fun a13 h13 => ?_
   clear hK3 h7 h8 h9 h10 h11 h12 K3 a7 a8 a9 a10 a11 a12
   refine wpL_nil (hK5 _ _ ?_)
   refine cdf h13 rfl rfl ?_
   refine skp (hK4 _ _ ?_)
   refine reg [some 15, some 16, some 17, none] rfl ?_
   refine ldb h13 hg1 rfl Try.isAgg9 rfl rfl fun a14 h14 => ?_
   refine mv h14 rfl rfl fun a15 h15 => ?_
   refine slcd (min (s.drop (512 * k)).length 512) h15 Try.underlying9 rfl ⟨_, rfl, by first | omega | (simp; omega)⟩ (by omega) rfl fun a16 h16 => ?_
   refine stb h16 hg1 rfl rfl _ rfl Try.sizeOf9 (by simp [Value.oneCell']) _ (by simp) rfl fun w3 hg1' hk3 => ?_
   clear hg1; have hg1 := hg1'; clear hg1'
   replace hJ := hJk _ _ _ hJ hk3
   clear hK5 hK4 h13 h14 h15 K5 K4 a13 a14 a15
   refine wpL_nil ?_
   exact ⟨k + 1, ⟨(h16.cons' rfl (h16.cons' rfl (h16.nil'))), by omega, (by rw [← Pl.chunk_next]; exact hg1), hJ⟩, by omega⟩
  ·
   refine ⟨_, rfl, fun a17 h17 => ?_⟩
   refine unot h17 rfl rfl fun a18 h18 => ?_
   clear hK3 h7 h8 h9 h10 h11 h17 K3 a7 a8 a9 a10 a11 a17
   refine wpL_nil (hK5 _ _ ?_)
   refine cdt h18 rfl rfl ?_
   refine rtn (leave h18 (res0 (by rfl)) ?_)
   exact ⟨_, rfl, .inr hJx⟩
 ·
  have hp1 := of_decide_eq_true (bunf hb1)
  have hge := chunk_eq (of_decide_eq_true (bunf hb1))
  refine cdf h3 rfl (bnt (bunf hb1)) ?_
  refine xit ?_
  refine leaveE h3 (res0 (by rfl)) ?_
  exact ⟨_, rfl, .inl (by rw [Pl.chunks_length, show Pl.nch s.length = k by omega]; exact hJ)⟩

/-- block.Cut -/
theorem c_cutB (s : List UInt8) (w : World) (hs : s.length ≤ 1000000000) :
  C Try.prog 80 [str s] w fun v w' => Rws (fun b => w.heap.size ≤ b) w' v (Pl.cutB s) ∧ Kept w w' := by
 have hnc : Pl.nch s.length ≤ 2000000 := by unfold Pl.nch; omega
 refine enterM Try.func80 rfl 18 rfl rfl fun a0 h0 => ?_
 have hB := Kept.refl w
 refine sq fun K1 hK1 => ?_
 refine reg [some 2] rfl ?_
 refine asg h0 rfl rfl fun a1 h1 => ?_
 clear h0 a0
 refine wpL_nil (hK1 _ _ ?_)
 refine sq fun K2 hK2 => ?_
 refine reg [some 3] rfl ?_
 refine alc h1 Try.zeroValue25 rfl rfl fun a2 w1 g3 h2 hk1 hz3 hg3 => ?_
 have hleg3 := Nat.le_trans hB.size hz3
 replace hB := Kept.trans hB hk1
 clear hK1 h1 K1 a1
 refine wpL_nil (hK2 _ _ ?_)
 refine sq fun K3 hK3 => ?_
 refine sq fun K4 hK4 => ?_
 refine reg [some 6, some 7] rfl ?_
 refine mv h2 rfl rfl fun a3 h3 => ?_
 have hsz2 := hB.size
 have hlg32 := hg3.lt
 refine cal h3 Try.call133 rfl (c_pieces _ _) rfl ?_
 rintro v2 w2 a4 ⟨gp, rfl, hgp0, hgp, hk2⟩ h4
 replace hB := Kept.trans hB hk2
 replace hg3 := hg3.kept hk2
 clear hK2 h2 h3 K2 a2 a3
 refine wpL_nil (hK4 _ _ ?_)
 refine blc ?_
 clear hK4 K4
 have hle0 := hB.size
 have hgl := hgp.lt
 refine rgf h4 rfl Try.call170 rfl (i_pieces s gp (by omega)) hgp (trivial) (fun _ _ h _ => h) (fun (k : Nat) (W : World) => ∃ (vo : Value), ∃ (vs : List Value), (K.Own (gp + 1) W vo 35 1 vs) ∧ (Vec (SV (gp + 1) vo) W vs (((Pl.chunks s).take k).map Pl.pad)) ∧ (Blk W g3 25 [vo]) ∧ (Kept w W)) (fun (c : Code) (W : World) => False) ?_ ?_ ⟨_, _, Own.nil _ _ _ _, Vec.nil _ _, hg3, hB⟩ (fun _ => rfl) ?_ ?_ ?_
 ·
  rintro k A B ⟨vo, vs, hO, hV, hg3, hB⟩ hck; exact ⟨vo, vs, hO.ck hck (by omega), hV.ck hck (by intro h; have := h.1; omega), hg3.ck hck (by omega), hB.ck hck (by omega) (by omega)⟩
 ·
  rintro c A B h hck; exact h.elim
 ·
  intro k x lr a5 w3 hx h5
  refine reg [some 4] rfl ?_
  refine asg h5 rfl rfl fun a6 h6 => ?_
  clear h5 a5
  refine wpL_nil ?_
  refine And.intro rfl ?_
  rintro w4 ⟨vo, vs, hO, hV, hg3, hB⟩ hBit hMit
  have hN := KeepsOthers.refl w4
  have hgl4 := hBit.lt
  replace hV := hV.lt
  refine blc ?_
  refine sq fun K5 hK5 => ?_
  refine reg [some 9, some 5] rfl ?_
  refine mks h6 (m := 512) (z := .int .u8 0) rfl rfl (by omega) Try.underlying35 (b := 1) (by kernel_rfl) rfl (by omega) (by omega) rfl fun a7 w5 g9 h7 hk5 hz9 hg9 => ?_
  have hneg3g9 := Nat.lt_of_lt_of_le hg3.lt hz9
  have hleg9 := Nat.le_trans hB.size hz9
  have hnegpg9 := Nat.lt_of_lt_of_le hBit.lt hz9
  replace hO := hO.kept hk5
  replace hV := hV.kept hk5
  replace hg3 := hg3.kept hk5
  replace hB := Kept.trans hB hk5
  replace hBit := hBit.kept hk5
  replace hN := hN.trans (Kept.nc hk5)
  refine asg h7 rfl rfl fun a8 h8 => ?_
  clear h6 h7 a6 a7
  refine wpL_nil (hK5 _ _ ?_)
  refine sq fun K6 hK6 => ?_
  refine reg [some 10, some 11, some 12] rfl ?_
  refine mv h8 rfl rfl fun a9 h9 => ?_
  refine mv h9 rfl rfl fun a10 h10 => ?_
  refine cps h10 Try.underlying35 Try.sizeOf5 rfl rfl hg9 (by simp; try omega) rfl fun a11 w6 h11 hg9' hk6 => ?_
  replace hN := hN.trans (But.nc hk6 hg9)
  replace hO := hO.butNe hk6 (hO.ne_type hg9 (by decide))
  replace hV := hV.but hk6 (by intro h; have := h.2; omega)
  replace hg3 := hg3.but hk6 (by omega)
  replace hB := Kept.but hB hk6 (by omega)
  replace hBit := hBit.but hk6 (by omega)
  clear hg9; have hg9 := hg9'; clear hg9'
  rw [pad_eq (Pl.chunk_len hx)] at hg9
  clear hK5 h8 h9 h10 K5 a8 a9 a10
  refine wpL_nil (hK6 _ _ ?_)
  refine reg [some 13, some 14, some 15, some 16, none] rfl ?_
  refine ldb h11 hg3 rfl Try.isAgg25 rfl rfl fun a12 h12 => ?_
  refine mv h12 rfl rfl fun a13 h13 => ?_
  refine bsl h13 rfl (bsl1_25_0 _ _ _) rfl fun a14 w7 g15 h14 hk7 hz15 hg15 => ?_
  have hneg3g15 := Nat.lt_of_lt_of_le hg3.lt hz15
  have hleg15 := Nat.le_trans hB.size hz15
  have hnegpg15 := Nat.lt_of_lt_of_le hBit.lt hz15
  have hneg9g15 := Nat.lt_of_lt_of_le hg9.lt hz15
  replace hO := hO.kept hk7
  replace hV := hV.kept hk7
  replace hg3 := hg3.kept hk7
  replace hB := Kept.trans hB hk7
  replace hBit := hBit.kept hk7
  replace hN := hN.trans (Kept.nc hk7)
  replace hg9 := hg9.kept hk7
  have hgl2 := hBit.lt
  have hx5 := Pl.chunk_len hx
  have hRow := (Blk.byt (bs := Pl.pad x) hg9 512 (Pl.pad_len hx5).symm (Nat.le_of_eq (Pl.pad_len hx5)) (by omega)).mono (S' := SV (gp + 1) vo) (fun b hb => by subst hb; exact ⟨by omega, hO.ne_type hg9 (by decide)⟩)
  have hV1 := hV.mono (S' := SV (gp + 1) vo) (fun b hb => hb.1)
  have hkl := (List.getElem?_eq_some_iff.1 hx).1
  rw [Pl.chunks_length] at hkl
  have hvl : vs.length = k := by rw [hV.1]; simp [Pl.chunks_length]; omega
  refine apn (sz := 1) h14 rfl rfl Try.underlying25 Try.type35 rfl rfl rfl (by decide) hO (by omega) (Blk.in_ hg15 0 1 [.slice (some ⟨g9, 0, none⟩) 512 512] rfl) (by simp) (by simp [Value.oneCell']) (by show (_ + _) * 24 ≤ _; simp only [List.length_cons, List.length_nil]; omega) (by decide) rfl fun a15 v8 w8 h15 hO16' hk8 hat8 => ?_
  replace hN := hN.trans (ButV.nc hk8 hO)
  replace hg3 := hg3.butV hk8 (hO.ne_type hg3 (by decide))
  replace hB := ButV.kept0 hB hk8 hO (by omega)
  replace hBit := hBit.butV hk8 (hO.ne (by omega))
  have hV := Vec.app hV1 (Vec.one hRow) hk8 hat8
  obtain ⟨Aq, nq, cq, rfl⟩ := hO16'.isl
  have hO16 := hO16'; clear hO16'
  refine stb h15 hg3 rfl rfl _ rfl Try.sizeOf25 (by simp [Value.oneCell']) _ (by simp) rfl fun w9 hg3' hk9 => ?_
  replace hN := hN.trans (But.nc hk9 hg3)
  replace hO16 := hO16.butNe hk9 (hO16.ne_type hg3 (by decide))
  clear hg3; have hg3 := hg3'; clear hg3'
  replace hB := Kept.but hB hk9 (by omega)
  replace hBit := hBit.but hk9 (by omega)
  replace hV := hV.but hk9 (by intro h; have := h.1; omega)
  clear hK6 h11 h12 h13 h14 K6 a11 a12 a13 a14
  refine wpL_nil ?_
  exact And.intro hN (And.intro ⟨_, _, hO16, (by rw [Pl.map_next _ hx]; exact hV), hg3, hB⟩ (And.intro hBit hMit))
 ·
  rintro D a16 w10 hDle hD ⟨vo, vs, hO, hV, hg3, hB⟩ h16
  refine hK3 _ _ ?_
  refine sq fun K7 hK7 => ?_
  refine reg [some 17, some 2] rfl ?_
  refine ldb h16 hg3 rfl Try.isAgg25 rfl rfl fun a17 h17 => ?_
  refine asg h17 rfl rfl fun a18 h18 => ?_
  clear hK3 h16 h17 K3 a16 a17
  refine wpL_nil (hK7 _ _ ?_)
  have hck := CK.putObj (g := gp) (n0 := w2.heap.size) (.deferred none) hD rfl hDle
  replace hO := hO.ck hck  (by omega)
  replace hV := hV.ck hck (by intro h; have := h.1; omega)
  replace hB := hB.ck hck  (by omega) (by omega)
  refine rtn (leaveM h18 hD (res1 h18 rfl (rvt rfl)) ?_)
  exact ⟨_, rfl, (by rw [take_take_all (Nat.le_refl _)] at hV; exact (Rws.fresh hO hV).mono (fun b hb => by omega)), hB⟩
 ·
  rintro D a' c W hDle hD h _; exact h.elim

end Go.Proofs.Ytpgeogdmjgmimaa
