/-
  Walks, written by wip/gen/gen.py.
-/
import Derived.Test.YtpgeogdmjgmimaaW16
set_option linter.unusedVariables false
set_option linter.unusedSimpArgs false
set_option maxRecDepth 4000
namespace Go.Proofs.Ytpgeogdmjgmimaa
open Go Go.RowKit K

/-- A literal's value. -/
theorem bld41_0_1_2_3_4_5_6_7_8 (x0 : ByteArray) (x1 : ByteArray) (x2 : ByteArray) (x3 : Int) (x4 : Int) (x5 : Int) (x6 : Int) (x7 : Int) (x8 : Int) (w : World) : (Instr.build 41 [(0, (.string x0)), (1, (.string x1)), (2, (.string x2)), (3, (.int .i64 x3)), (4, (.int .i64 x4)), (5, (.int .i64 x5)), (6, (.int .i64 x6)), (7, (.int .i64 x7)), (8, (.int .u8 x8))].toArray).run Try.prog w = .ok (.agg #[.string x0, .string x1, .string x2, .int .i64 x3, .int .i64 x4, .int .i64 x5, .int .i64 x6, .int .i64 x7, .int .u8 x8, .int .i64 0, .int .i64 0]) w := by kernel_rfl
/-- A literal's value. -/
theorem bld134_0 (x1000 : ByteArray) (x1001 : ByteArray) (x1002 : Int) (x1003 : Int) (x1004 : Int) (x1005 : Int) (x1006 : Int) (x1007 : ByteArray) (w : World) : (Instr.build 134 [(0, (.agg #[.string x1000, .string x1001, .int .u8 x1002, .int .i64 x1003, .int .i64 x1004, .int .i64 x1005, .int .i64 x1006, .string x1007]))].toArray).run Try.prog w = .ok (.agg #[.string x1000, .string x1001, .int .u8 x1002, .int .i64 x1003, .int .i64 x1004, .int .i64 x1005, .int .i64 x1006, .string x1007]) w := by kernel_rfl
/-- A literal's value. -/
theorem bsl3_158_0_1_2 (x0 : Option Addr) (y0 z0 : Nat) (x1 : Option Addr) (y1 z1 : Nat) (x2 : Option Addr) (y2 z2 : Nat) (w : World) : (Instr.buildSlice 158 3 [(0, (.slice x0 y0 z0)), (1, (.slice x1 y1 z1)), (2, (.slice x2 y2 z2))].toArray).run Try.prog w = .ok (.slice (some ⟨w.heap.size, 0, none⟩) 3 3) (w.alloc (.cells [.slice x0 y0 z0, .slice x1 y1 z1, .slice x2 y2 z2].toArray 25)) := by kernel_rfl
theorem inR_le {n m : Int} (h : Pl.inR n m = true) : 0 ≤ n ∧ n ≤ m := by simpa [Pl.inR] using h
theorem one_parts {n : Pl.Nd} (h : Pl.one n = true) : Pl.kindMay n = true ∧ Pl.pathMay n.path = true ∧ (0 ≤ n.mode ∧ n.mode ≤ 4095) ∧ (0 ≤ n.uid ∧ n.uid ≤ 1099511627776) ∧ (0 ≤ n.gid ∧ n.gid ≤ 1099511627776) ∧ (0 ≤ n.mtime ∧ n.mtime ≤ 1099511627776) := by
  unfold Pl.one at h
  simp only [Bool.and_eq_true] at h
  exact ⟨h.1, h.2.1, inR_le h.2.2.1, inR_le h.2.2.2.1, inR_le h.2.2.2.2.1, inR_le h.2.2.2.2.2⟩
theorem entHead_range {n : Pl.Nd} (h : Pl.one n = true) (hd : n.data.length ≤ 1000000) : HdR (Pl.entHead n) := by
  have := one_parts h
  intro q
  unfold Pl.hN Pl.entHead
  split <;> simp only <;> omega
def entHd (n : Pl.Nd) : Pl.Hd := if Pl.one n = true then Pl.entHead n else Pl.Hd.none
theorem entBlocks_len {n : Pl.Nd} (hn : NdL n) : (Pl.ahead n).length ≤ 4002 ∧ (Pl.cutB n.data).length ≤ 2000 := by
  obtain ⟨h1, h2, h3⟩ := hn
  have e1 := aheadPart_len (Pl.needs n).2 75 n.link h2
  have e2 := aheadPart_len (Pl.needs n).1 76 n.path h1
  constructor
  · unfold Pl.ahead; rw [List.length_append]; omega
  · rw [cutB_len]; exact nch_le (by omega)

/-- (entry.entry).head -/
theorem c_ehead (n : Pl.Nd) (w : World) (hn : NdL n) :
  C Try.prog 100 [ndV n] w fun v w' => v = hdV (Pl.entHead n) ∧ Kept w w' := by
 obtain ⟨hn1, hn2, hn3⟩ := hn
 refine enterE Try.func100 rfl 36 rfl rfl fun a0 h0 => ?_
 have hB := Kept.refl w
 refine sq fun K1 hK1 => ?_
 refine reg [some 1, some 2] rfl ?_
 refine bxv h0 rfl rfl rfl fun a1 w1 g1 h1 hk1 hz1 hg1 => ?_
 have hleg1 := Nat.le_trans hB.size hz1
 replace hB := Kept.trans hB hk1
 refine alc h1 Try.zeroValue41 rfl rfl fun a2 w2 g2 h2 hk2 hz2 hg2 => ?_
 have hleg2 := Nat.le_trans hB.size hz2
 have hneg1g2 := Nat.lt_of_lt_of_le hg1.lt hz2
 replace hB := Kept.trans hB hk2
 replace hg1 := hg1.kept hk2
 clear h0 h1 a0 a1
 refine wpL_nil (hK1 _ _ ?_)
 refine sq fun K2 hK2 => ?_
 refine reg [some 7, some 8, some 9, some 6, some 10, some 11, some 12, some 3, some 4, some 5] rfl ?_
 refine fab h2 rfl Try.underlying134 rfl Try.sizeOf32 rfl 0 rfl rfl fun a3 h3 => ?_
 refine ldbn h3 hg1 ([str n.path, str n.link, u8 n.kind, .int .i64 n.mode, .int .i64 n.uid, .int .i64 n.gid, .int .i64 n.mtime, str n.data]) rfl Try.isAgg32 Try.sizeOf32 rfl rfl fun a4 h4 => ?_
 refine cal h4 Try.call86 rfl (c_names _ _ ⟨hn1, hn2, hn3⟩) rfl ?_
 rintro v3 w3 a5 ⟨rfl, hk3⟩ h5
 replace hB := Kept.trans hB hk3
 replace hg1 := hg1.kept hk3
 replace hg2 := hg2.kept hk3
 refine mv h5 rfl rfl fun a6 h6 => ?_
 refine ext3_0 h6 rfl rfl fun a7 h7 => ?_
 refine ext3_1 h7 rfl rfl fun a8 h8 => ?_
 refine ext3_2 h8 rfl rfl fun a9 h9 => ?_
 refine asg h9 rfl rfl fun a10 h10 => ?_
 refine asg h10 rfl rfl fun a11 h11 => ?_
 refine asg h11 rfl rfl fun a12 h12 => ?_
 clear hK1 h2 h3 h4 h5 h6 h7 h8 h9 h10 h11 K1 a2 a3 a4 a5 a6 a7 a8 a9 a10 a11
 refine wpL_nil (hK2 _ _ ?_)
 refine sq fun K3 hK3 => ?_
 refine reg [some 13, some 14, some 15, some 16, some 17, some 18, some 19, some 20, some 21, some 22, some 23, some 24, some 25, some 26, some 27, some 28, some 29, some 30, some 31, some 32, some 33, some 34, some 35, none] rfl ?_
 refine mv h12 rfl rfl fun a13 h13 => ?_
 refine mv h13 rfl rfl fun a14 h14 => ?_
 refine mv h14 rfl rfl fun a15 h15 => ?_
 refine fab h15 rfl Try.underlying134 rfl Try.sizeOf32 rfl 0 rfl rfl fun a16 h16 => ?_
 refine fab h16 rfl Try.underlying32 rfl Try.sizeOf3 rfl 3 rfl rfl fun a17 h17 => ?_
 refine ldb h17 hg1 rfl Try.isAgg3 rfl rfl fun a18 h18 => ?_
 refine fab h18 rfl Try.underlying134 rfl Try.sizeOf32 rfl 0 rfl rfl fun a19 h19 => ?_
 refine fab h19 rfl Try.underlying32 rfl Try.sizeOf3 rfl 4 rfl rfl fun a20 h20 => ?_
 refine ldb h20 hg1 rfl Try.isAgg3 rfl rfl fun a21 h21 => ?_
 refine fab h21 rfl Try.underlying134 rfl Try.sizeOf32 rfl 0 rfl rfl fun a22 h22 => ?_
 refine fab h22 rfl Try.underlying32 rfl Try.sizeOf3 rfl 5 rfl rfl fun a23 h23 => ?_
 refine ldb h23 hg1 rfl Try.isAgg3 rfl rfl fun a24 h24 => ?_
 refine fab h24 rfl Try.underlying134 rfl Try.sizeOf32 rfl 0 rfl rfl fun a25 h25 => ?_
 refine fab h25 rfl Try.underlying32 rfl Try.sizeOf9 rfl 7 rfl rfl fun a26 h26 => ?_
 refine ldb h26 hg1 rfl Try.isAgg9 rfl rfl fun a27 h27 => ?_
 refine lens h27 rfl Try.underlying9 rfl rfl fun a28 h28 => ?_
 refine fab h28 rfl Try.underlying134 rfl Try.sizeOf32 rfl 0 rfl rfl fun a29 h29 => ?_
 refine fab h29 rfl Try.underlying32 rfl Try.sizeOf3 rfl 6 rfl rfl fun a30 h30 => ?_
 refine ldb h30 hg1 rfl Try.isAgg3 rfl rfl fun a31 h31 => ?_
 refine fab h31 rfl Try.underlying134 rfl Try.sizeOf32 rfl 0 rfl rfl fun a32 h32 => ?_
 refine fab h32 rfl Try.underlying32 rfl Try.sizeOf5 rfl 2 rfl rfl fun a33 h33 => ?_
 refine ldb h33 hg1 rfl Try.isAgg5 rfl rfl fun a34 h34 => ?_
 refine bld h34 rfl (bld41_0_1_2_3_4_5_6_7_8 _ _ _ _ _ _ _ _ _) rfl fun a35 h35 => ?_
 refine stb h35 hg2 rfl rfl _ rfl Try.sizeOf41 (hd_one (Pl.entHead n)) _ (by simp) rfl fun w4 hg2' hk4 => ?_
 replace hB := Kept.but hB hk4 (by omega)
 clear hg2; have hg2 := hg2'; clear hg2'
 clear hK2 h12 h13 h14 h15 h16 h17 h18 h19 h20 h21 h22 h23 h24 h25 h26 h27 h28 h29 h30 h31 h32 h33 h34 K2 a12 a13 a14 a15 a16 a17 a18 a19 a20 a21 a22 a23 a24 a25 a26 a27 a28 a29 a30 a31 a32 a33 a34
 refine wpL_nil (hK3 _ _ ?_)
 refine rtn (leave h35 (res1 h35 rfl (rva (hdCells (Pl.entHead n)) hg2 rfl Try.isAgg41 Try.sizeOf41 rfl)) ?_)
 exact ⟨_, rfl, rfl, hB⟩

/-- entry.Head -/
theorem c_eHead (n : Pl.Nd) (w : World) (hn : NdL n) :
  C Try.prog 43 [ndV n] w fun v w' => v = .tuple #[hdV (entHd n), .bool (Pl.one n)] ∧ Kept w w' := by
 obtain ⟨hn1, hn2, hn3⟩ := hn
 refine enterE Try.func43 rfl 11 rfl rfl fun a0 h0 => ?_
 have hB := Kept.refl w
 refine sq fun K1 hK1 => ?_
 refine reg [some 1, some 2, some 3] rfl ?_
 refine bxv h0 rfl rfl rfl fun a1 w1 g1 h1 hk1 hz1 hg1 => ?_
 have hleg1 := Nat.le_trans hB.size hz1
 replace hB := Kept.trans hB hk1
 refine alc h1 Try.zeroValue41 rfl rfl fun a2 w2 g2 h2 hk2 hz2 hg2 => ?_
 have hleg2 := Nat.le_trans hB.size hz2
 have hneg1g2 := Nat.lt_of_lt_of_le hg1.lt hz2
 replace hB := Kept.trans hB hk2
 replace hg1 := hg1.kept hk2
 refine asg h2 rfl rfl fun a3 h3 => ?_
 clear h0 h1 h2 a0 a1 a2
 refine wpL_nil (hK1 _ _ ?_)
 refine sq fun K2 hK2 => ?_
 refine sq fun K3 hK3 => ?_
 refine reg [some 4, some 5, some 6] rfl ?_
 refine ldbn h3 hg1 ([str n.path, str n.link, u8 n.kind, .int .i64 n.mode, .int .i64 n.uid, .int .i64 n.gid, .int .i64 n.mtime, str n.data]) rfl Try.isAgg32 Try.sizeOf32 rfl rfl fun a4 h4 => ?_
 refine cal h4 Try.call41 rfl (c_one _ _ ⟨hn1, hn2, hn3⟩) rfl ?_
 rintro v3 w3 a5 ⟨rfl, hk3⟩ h5
 replace hB := Kept.trans hB hk3
 replace hg1 := hg1.kept hk3
 replace hg2 := hg2.kept hk3
 refine unot h5 rfl rfl fun a6 h6 => ?_
 clear hK1 h3 h4 h5 K1 a3 a4 a5
 refine wpL_nil (hK3 _ _ ?_)
 refine spl h6 (d := 6) rfl (fun hb1 => ?_) (fun hb1 => ?_)
 ·
  refine cdt h6 rfl (bnf (bunt hb1)) ?_
  refine sq fun K4 hK4 => ?_
  refine reg [some 7, none, some 3] rfl ?_
  refine bld h6 rfl (bld41_) rfl fun a7 h7 => ?_
  refine stb h7 hg2 rfl rfl _ rfl Try.sizeOf41 (by first | exact hd_one _ | exact hd_one Pl.Hd.none) _ (by first | (simp [hdCells]; done) | simp) rfl fun w4 hg2' hk4 => ?_
  replace hB := Kept.but hB hk4 (by omega)
  clear hg2; have hg2 := hg2'; clear hg2'
  refine asg h7 rfl rfl fun a8 h8 => ?_
  clear hK3 h6 h7 K3 a6 a7
  refine wpL_nil (hK4 _ _ ?_)
  refine rtn (leave h8 (res2 h8 rfl (rva (hdCells Pl.Hd.none) hg2 rfl Try.isAgg41 Try.sizeOf41 rfl) (rvt rfl)) ?_)
  exact ⟨_, rfl, by unfold entHd; rw [bunt hb1]; rfl, hB⟩
 ·
  refine cdf h6 rfl (bnt (bunf hb1)) ?_
  refine skp (hK2 _ _ ?_)
  refine sq fun K5 hK5 => ?_
  refine reg [some 8, some 9, some 10, none, some 3] rfl ?_
  refine ldbn h6 hg1 ([str n.path, str n.link, u8 n.kind, .int .i64 n.mode, .int .i64 n.uid, .int .i64 n.gid, .int .i64 n.mtime, str n.data]) rfl Try.isAgg32 Try.sizeOf32 rfl rfl fun a9 h9 => ?_
  refine bld h9 rfl (bld134_0 _ _ _ _ _ _ _ _) rfl fun a10 h10 => ?_
  refine cal h10 Try.call100 rfl (c_ehead _ _ ⟨hn1, hn2, hn3⟩) rfl ?_
  rintro v5 w5 a11 ⟨rfl, hk5⟩ h11
  replace hB := Kept.trans hB hk5
  replace hg2 := hg2.kept hk5
  refine stb h11 hg2 rfl rfl _ rfl Try.sizeOf41 (by first | exact hd_one _ | exact hd_one Pl.Hd.none) _ (by first | (simp [hdCells]; done) | simp) rfl fun w6 hg2' hk6 => ?_
  replace hB := Kept.but hB hk6 (by omega)
  clear hg2; have hg2 := hg2'; clear hg2'
  refine asg h11 rfl rfl fun a12 h12 => ?_
  clear hK3 hK2 h6 h9 h10 h11 K3 K2 a6 a9 a10 a11
  refine wpL_nil (hK5 _ _ ?_)
  refine rtn (leave h12 (res2 h12 rfl (rva (hdCells (Pl.entHead n)) hg2 rfl Try.isAgg41 Try.sizeOf41 rfl) (rvt rfl)) ?_)
  exact ⟨_, rfl, by unfold entHd; rw [bunf hb1]; rfl, hB⟩

/-- entry.joined -/
theorem c_ejoined {S : Nat → Prop} (v : Value) (L : List (List (List UInt8))) (w : World) (hv : Rrs S w v L) (hl : L.flatten.length ≤ 1000000000) :
  C Try.prog 78 [v] w fun v w' => Rws (fun b => S b ∨ w.heap.size ≤ b) w' v L.flatten ∧ Kept w w' := by
 refine enterE Try.func78 rfl 5 rfl rfl fun a0 h0 => ?_
 have hB := Kept.refl w
 refine sq fun K1 hK1 => ?_
 refine reg [some 2] rfl ?_
 refine asg h0 rfl rfl fun a1 h1 => ?_
 clear h0 a0
 refine wpL_nil (hK1 _ _ ?_)
 refine sq fun K2 hK2 => ?_
 refine reg [some 3, some 4, some 2] rfl ?_
 refine mv h1 rfl rfl fun a2 h2 => ?_
 have hsz1 := hB.size
 refine cal h2 Try.call76 rfl (c_concatR _ _ _ hv (by omega)) rfl ?_
 rintro v1 w1 a3 ⟨hR1, hk1⟩ h3
 replace hB := Kept.trans hB hk1
 replace hR1 := hR1.lt
 refine asg h3 rfl rfl fun a4 h4 => ?_
 clear hK1 h1 h2 h3 K1 a1 a2 a3
 refine wpL_nil (hK2 _ _ ?_)
 refine rtn (leave h4 (res1 h4 rfl (rvt rfl)) ?_)
 exact ⟨_, rfl, hR1.mono (fun b h => by rcases h.1 with h | h; exact .inl h; exact .inr h), hB⟩

/-- entry.Put -/
theorem c_ePut (n : Pl.Nd) (w : World) (hn : NdL n) :
  C Try.prog 29 [ndV n] w fun v w' => (∃ q, v = .tuple #[q, .bool (Pl.one n)] ∧ Rws (fun b => w.heap.size ≤ b) w' q (Pl.entPut n)) ∧ Kept w w' := by
 obtain ⟨hn1, hn2, hn3⟩ := hn
 refine enterE Try.func29 rfl 29 rfl rfl fun a0 h0 => ?_
 have hB := Kept.refl w
 refine sq fun K1 hK1 => ?_
 refine reg [some 1, some 2, some 3] rfl ?_
 refine bxv h0 rfl rfl rfl fun a1 w1 g1 h1 hk1 hz1 hg1 => ?_
 have hleg1 := Nat.le_trans hB.size hz1
 replace hB := Kept.trans hB hk1
 refine asg h1 rfl rfl fun a2 h2 => ?_
 refine asg h2 rfl rfl fun a3 h3 => ?_
 clear h0 h1 h2 a0 a1 a2
 refine wpL_nil (hK1 _ _ ?_)
 refine sq fun K2 hK2 => ?_
 refine reg [some 9, some 10, some 8, some 11, some 12, some 4, none, some 5] rfl ?_
 refine ldbn h3 hg1 ([str n.path, str n.link, u8 n.kind, .int .i64 n.mode, .int .i64 n.uid, .int .i64 n.gid, .int .i64 n.mtime, str n.data]) rfl Try.isAgg32 Try.sizeOf32 rfl rfl fun a4 h4 => ?_
 refine cal h4 Try.call43 rfl (c_eHead _ _ ⟨hn1, hn2, hn3⟩) rfl ?_
 rintro v2 w2 a5 ⟨rfl, hk2⟩ h5
 replace hB := Kept.trans hB hk2
 replace hg1 := hg1.kept hk2
 refine mv h5 rfl rfl fun a6 h6 => ?_
 refine ext2_0 h6 rfl rfl fun a7 h7 => ?_
 refine ext2_1 h7 rfl rfl fun a8 h8 => ?_
 refine alc h8 Try.zeroValue41 rfl rfl fun a9 w3 g4 h9 hk3 hz4 hg4 => ?_
 have hleg4 := Nat.le_trans hB.size hz4
 have hneg1g4 := Nat.lt_of_lt_of_le hg1.lt hz4
 replace hB := Kept.trans hB hk3
 replace hg1 := hg1.kept hk3
 refine stb h9 hg4 rfl rfl _ rfl Try.sizeOf41 (hd_one _) _ (by simp [hdCells]) rfl fun w4 hg4' hk4 => ?_
 replace hB := Kept.but hB hk4 (by omega)
 replace hg1 := hg1.but hk4 (by omega)
 clear hg4; have hg4 := hg4'; clear hg4'
 refine asg h9 rfl rfl fun a10 h10 => ?_
 clear hK1 h3 h4 h5 h6 h7 h8 h9 K1 a3 a4 a5 a6 a7 a8 a9
 refine wpL_nil (hK2 _ _ ?_)
 refine sq fun K3 hK3 => ?_
 refine sq fun K4 hK4 => ?_
 refine reg [some 13, some 14] rfl ?_
 refine mv h10 rfl rfl fun a11 h11 => ?_
 refine unot h11 rfl rfl fun a12 h12 => ?_
 clear hK2 h10 h11 K2 a10 a11
 refine wpL_nil (hK4 _ _ ?_)
 refine spl h12 (d := 14) rfl (fun hb1 => ?_) (fun hb1 => ?_)
 ·
  refine cdt h12 rfl (bnf (bunt hb1)) ?_
  refine sq fun K5 hK5 => ?_
  refine reg [some 2, some 3] rfl ?_
  refine asg h12 rfl rfl fun a13 h13 => ?_
  refine asg h13 rfl rfl fun a14 h14 => ?_
  clear hK4 h12 h13 K4 a12 a13
  refine wpL_nil (hK5 _ _ ?_)
  refine rtn (leave h14 (res2 h14 rfl (rvt rfl) (rvt rfl)) ?_)
  exact ⟨_, rfl, ⟨_, by rw [bunt hb1], by unfold Pl.entPut; rw [if_neg (by rw [bunt hb1]; decide)]; exact Rws.nil _ _⟩, hB⟩
 ·
  have hone := bunf hb1
  have e16 : entHd n = Pl.entHead n := by unfold entHd; rw [if_pos hone]
  rw [e16] at hg4
  refine cdf h12 rfl (bnt (bunf hb1)) ?_
  refine skp (hK3 _ _ ?_)
  refine sq fun K6 hK6 => ?_
  refine reg [some 16, some 17, some 15, some 18, some 19, some 6, some 7] rfl ?_
  refine ldbn h12 hg4 (hdCells (Pl.entHead n)) rfl Try.isAgg41 Try.sizeOf41 rfl rfl fun a15 h15 => ?_
  have hsz5 := hB.size
  have hlg15 := hg1.lt
  have hlg45 := hg4.lt
  refine cal h15 Try.call77 rfl (c_headPut (Pl.entHead n) _ (entHead_range hone (by omega))) rfl ?_
  rintro v5 w5 a16 ⟨⟨q5, rfl, hq5⟩, hk5⟩ h16
  replace hB := Kept.trans hB hk5
  replace hg1 := hg1.kept hk5
  replace hq5 := hq5.lt
  have hlw5 := Nat.le_refl w5.heap.size
  obtain ⟨Aq5, cq5, rfl⟩ := hq5.isl
  refine mv h16 rfl rfl fun a17 h17 => ?_
  refine ext2_0 h17 rfl rfl fun a18 h18 => ?_
  refine ext2_1 h18 rfl rfl fun a19 h19 => ?_
  refine asg h19 rfl rfl fun a20 h20 => ?_
  refine asg h20 rfl rfl fun a21 h21 => ?_
  clear hK4 hK3 h12 h15 h16 h17 h18 h19 h20 K4 K3 a12 a15 a16 a17 a18 a19 a20
  refine wpL_nil (hK6 _ _ ?_)
  refine sq fun K7 hK7 => ?_
  clear hK6 K6
  have hsW := hB.size
  refine drw h21 [some 20, some 21, some 22, some 23, some 24, some 25, some 26, some 27, some 28, some 2, some 3] rfl [Fx (.agg #[str n.path, str n.link, u8 n.kind, .int .i64 n.mode, .int .i64 n.uid, .int .i64 n.gid, .int .i64 n.mtime, str n.data]), fun v w' => Rws (fun b => w.heap.size ≤ b) w' v (Pl.ahead n), Fx (.slice Aq5 ((Pl.putH (Pl.entHead n)).getD []).length cq5), fun v w' => Rws (fun b => w.heap.size ≤ b) w' v ([((Pl.putH (Pl.entHead n)).getD [])]), Fx (.pointer (some ⟨g1, 7, none⟩)), Fx (str n.data), fun v w' => Rws (fun b => w.heap.size ≤ b) w' v (Pl.cutB n.data), fun v w' => Rrs (fun b => w.heap.size ≤ b) w' v [Pl.ahead n, [((Pl.putH (Pl.entHead n)).getD [])], Pl.cutB n.data], fun v w' => Rws (fun b => w.heap.size ≤ b) w' v (Pl.entBlocks n), fun v w' => Rws (fun b => w.heap.size ≤ b) w' v (Pl.entBlocks n), Fx ((.bool true))] Kept rfl rfl rfl rfl (drewKept _) keptT (mcons mfx (mcons (fun v w w' hk h => h.kept hk) (mcons mfx (mcons (fun v w w' hk h => h.kept hk) (mcons mfx (mcons mfx (mcons (fun v w w' hk h => h.kept hk) (mcons (fun v w w' hk h => h.kept hk) (mcons (fun v w w' hk h => h.kept hk) (mcons (fun v w w' hk h => h.kept hk) (mcons mfx mnil))))))))))) ⟨?_, ?_, ?_, ?_, ?_, ?_, ?_, ?_, ?_, ?_, ?_, trivial⟩ ?_
  ·
   intro L a w_ hH hb hR hd ho
   have hl1 := hb 1 _ rfl
   replace hg1 := hg1.kept hR
   refine ldbn hH hg1 ([str n.path, str n.link, u8 n.kind, .int .i64 n.mode, .int .i64 n.uid, .int .i64 n.gid, .int .i64 n.mtime, str n.data]) hl1 Try.isAgg32 Try.sizeOf32 rfl rfl fun a22 h22 => ?_
   exact wpL_nil ⟨_, h22, Kept.refl _, rfl⟩
  ·
   intro L a w_ hH hb hR hd ho
   obtain ⟨_, hl20, rfl⟩ := hd 0 rfl
   refine cal hH Try.call79 (evs1 hl20) (c_ahead n _ ⟨hn1, hn2, hn3⟩) rfl ?_
   rintro v6 w6 a23 ⟨hA6, hk6⟩ h23
   exact wpL_nil ⟨_, h23, hk6, hA6.mono (fun b hb => by have := hR.size; omega)⟩
  ·
   intro L a w_ hH hb hR hd ho
   have hl6 := hb 6 _ rfl
   refine mv hH hl6 rfl fun a24 h24 => ?_
   exact wpL_nil ⟨_, h24, Kept.refl _, rfl⟩
  ·
   intro L a w_ hH hb hR hd ho
   obtain ⟨_, hl22, rfl⟩ := hd 2 rfl
   replace hg1 := hg1.kept hR
   replace hq5 := hq5.kept hR
   refine bsl hH (evpc hl22 evp0) (bsl1_25_0 _ _ _) rfl fun a25 w7 g23 h25 hk7 hz23 hg23 => ?_
   have hneg1g23 := Nat.lt_of_lt_of_le hg1.lt hz23
   replace hq5 := hq5.kept hk7
   exact wpL_nil ⟨_, h25, hk7, (Rws.of_blk hg23 (Vec.one hq5) 1 rfl (by omega)).mono (fun b hb => by have := hR.size; rcases hb with rfl | hb <;> omega)⟩
  ·
   intro L a w_ hH hb hR hd ho
   have hl1 := hb 1 _ rfl
   refine fab hH hl1 Try.underlying32 rfl Try.sizeOf9 rfl 7 rfl rfl fun a26 h26 => ?_
   exact wpL_nil ⟨_, h26, Kept.refl _, rfl⟩
  ·
   intro L a w_ hH hb hR hd ho
   obtain ⟨_, hl24, rfl⟩ := hd 4 rfl
   replace hg1 := hg1.kept hR
   refine ldb hH hg1 hl24 Try.isAgg9 rfl rfl fun a27 h27 => ?_
   exact wpL_nil ⟨_, h27, Kept.refl _, rfl⟩
  ·
   intro L a w_ hH hb hR hd ho
   obtain ⟨_, hl25, rfl⟩ := hd 5 rfl
   refine cal hH Try.call80 (evs1 hl25) (c_cutB n.data _ (by omega)) rfl ?_
   rintro v8 w8 a28 ⟨hA8, hk8⟩ h28
   exact wpL_nil ⟨_, h28, hk8, hA8.mono (fun b hb => by have := hR.size; omega)⟩
  ·
   intro L a w_ hH hb hR hd ho
   obtain ⟨v21, hl21, hf21⟩ := hd 1 rfl
   obtain ⟨v23, hl23, hf23⟩ := hd 3 rfl
   obtain ⟨v26, hl26, hf26⟩ := hd 6 rfl
   replace hg1 := hg1.kept hR
   obtain ⟨A21, c21, rfl⟩ := hf21.isl
   obtain ⟨A23, c23, rfl⟩ := hf23.isl
   obtain ⟨A26, c26, rfl⟩ := hf26.isl
   refine bsl hH (evpc hl21 (evpc hl23 (evpc hl26 evp0))) (bsl3_158_0_1_2 _ _ _ _ _ _ _ _ _) rfl fun a29 w9 g27 h29 hk9 hz27 hg27 => ?_
   have hneg1g27 := Nat.lt_of_lt_of_le hg1.lt hz27
   exact wpL_nil ⟨_, h29, hk9, (Rrs.of_blk hg27 (Vec2.cons (hf21.kept hk9) (Vec2.cons (hf23.kept hk9) (Vec2.cons (hf26.kept hk9) (Vec2.nil _ _)))) 3 rfl (by omega)).mono (fun b hb => by have := hR.size; rcases hb with rfl | hb <;> omega)⟩
  ·
   intro L a w_ hH hb hR hd ho
   obtain ⟨v27, hl27, hf27⟩ := hd 7 rfl
   refine cal hH Try.call78 (evs1 hl27) (c_ejoined _ _ _ hf27 (by have e1 := entBlocks_len ⟨hn1, hn2, hn3⟩; simp only [List.flatten_cons, List.flatten_nil, List.length_append, List.length_cons, List.length_nil]; omega)) rfl ?_
   rintro v10 w10 a30 ⟨hA10, hk10⟩ h30
   exact wpL_nil ⟨_, h30, hk10, (by have hX := hA10.mono (S' := (fun b => w.heap.size ≤ b)) (fun b hb => by have := hR.size; rcases hb with hb | hb <;> omega); simpa [Pl.entBlocks] using hX)⟩
  ·
   intro L a w_ hH hb hR hd ho
   obtain ⟨v28, hl28, hf28⟩ := hd 8 rfl
   refine asg hH hl28 rfl fun a31 h31 => ?_
   exact wpL_nil ⟨_, h31, Kept.refl _, hf28⟩
  ·
   intro L a w_ hH hb hR hd ho
   refine asg hH rfl rfl fun a32 h32 => ?_
   exact wpL_nil ⟨_, h32, Kept.refl _, rfl⟩
  intro L11 a33 w11 h33 hbh33 hRh33 hdh33
  obtain ⟨_, hl20, rfl⟩ := hdh33 0 (by decide)
  obtain ⟨v21, hl21, hf21⟩ := hdh33 1 (by decide)
  obtain ⟨_, hl22, rfl⟩ := hdh33 2 (by decide)
  obtain ⟨v23, hl23, hf23⟩ := hdh33 3 (by decide)
  obtain ⟨_, hl24, rfl⟩ := hdh33 4 (by decide)
  obtain ⟨_, hl25, rfl⟩ := hdh33 5 (by decide)
  obtain ⟨v26, hl26, hf26⟩ := hdh33 6 (by decide)
  obtain ⟨v27, hl27, hf27⟩ := hdh33 7 (by decide)
  obtain ⟨v28, hl28, hf28⟩ := hdh33 8 (by decide)
  obtain ⟨v2, hl2, hf2⟩ := hdh33 9 (by decide)
  obtain ⟨_, hl3, rfl⟩ := hdh33 10 (by decide)
  have h34 := Has.under h33 hbh33
  have h35 := (h33.add hl3 (h33.add hl2 (h33.add hl28 (h33.add hl27 (h33.add hl26 (h33.add hl25 (h33.add hl24 (h33.add hl23 (h33.add hl22 (h33.add hl21 (h33.add hl20 h34)))))))))))
  clear h34 hl20 hl21 hl22 hl23 hl24 hl25 hl26 hl27 hl28 hl2 hl3 hbh33 hdh33
  replace hB := Kept.trans hB hRh33
  replace hlw5 := Nat.le_trans hlw5 hRh33.size
  refine hK7 _ _ ?_
  refine rtn (leave h35 (res2 h35 rfl (rvt rfl) (rvt rfl)) ?_)
  exact ⟨_, rfl, ⟨_, by rw [hone], by unfold Pl.entPut; rw [if_pos hone]; exact hf2⟩, hB⟩

/-- entry.Many -/
theorem c_eMany (n : Pl.Nd) (w : World) (hn : NdL n) :
  C Try.prog 44 [ndV n] w fun v w' => v = .int .i64 ((Pl.entPut n).length : Int) ∧ Kept w w' := by
 obtain ⟨hn1, hn2, hn3⟩ := hn
 refine enterE Try.func44 rfl 12 rfl rfl fun a0 h0 => ?_
 have hB := Kept.refl w
 refine sq fun K1 hK1 => ?_
 refine reg [some 1, some 2] rfl ?_
 refine bxv h0 rfl rfl rfl fun a1 w1 g1 h1 hk1 hz1 hg1 => ?_
 have hleg1 := Nat.le_trans hB.size hz1
 replace hB := Kept.trans hB hk1
 refine asg h1 rfl rfl fun a2 h2 => ?_
 clear h0 h1 a0 a1
 refine wpL_nil (hK1 _ _ ?_)
 refine sq fun K2 hK2 => ?_
 refine reg [some 6, some 7, some 5, some 8, some 9, some 3, some 4] rfl ?_
 refine ldbn h2 hg1 ([str n.path, str n.link, u8 n.kind, .int .i64 n.mode, .int .i64 n.uid, .int .i64 n.gid, .int .i64 n.mtime, str n.data]) rfl Try.isAgg32 Try.sizeOf32 rfl rfl fun a3 h3 => ?_
 have hsz2 := hB.size
 have hlg12 := hg1.lt
 refine cal h3 Try.call29 rfl (c_ePut _ _ ⟨hn1, hn2, hn3⟩) rfl ?_
 rintro v2 w2 a4 ⟨⟨qp2, rfl, hp2'⟩, hk2⟩ h4
 replace hB := Kept.trans hB hk2
 replace hp2' := hp2'.lt
 refine mv h4 rfl rfl fun a5 h5 => ?_
 refine ext2_0 h5 rfl rfl fun a6 h6 => ?_
 refine ext2_1 h6 rfl rfl fun a7 h7 => ?_
 refine asg h7 rfl rfl fun a8 h8 => ?_
 refine asg h8 rfl rfl fun a9 h9 => ?_
 clear hK1 h2 h3 h4 h5 h6 h7 h8 K1 a2 a3 a4 a5 a6 a7 a8
 refine wpL_nil (hK2 _ _ ?_)
 refine sq fun K3 hK3 => ?_
 refine reg [some 10, some 11, some 2] rfl ?_
 refine mv h9 rfl rfl fun a10 h10 => ?_
 refine lnx h10 rfl Try.underlying25 rfl hp2'.isl rfl fun a11 h11 => ?_
 refine asg h11 rfl rfl fun a12 h12 => ?_
 clear hK2 h9 h10 h11 K2 a9 a10 a11
 refine wpL_nil (hK3 _ _ ?_)
 refine rtn (leave h12 (res1 h12 rfl (rvt rfl)) ?_)
 exact ⟨_, rfl, rfl, hB⟩

/-- entry.Data -/
theorem c_eData (n : Pl.Nd) (w : World) (hn : NdL n) :
  C Try.prog 42 [ndV n] w fun v w' => v = .int .i64 (Pl.entData n) ∧ Kept w w' := by
 obtain ⟨hn1, hn2, hn3⟩ := hn
 refine enterE Try.func42 rfl 10 rfl rfl fun a0 h0 => ?_
 have hB := Kept.refl w
 refine sq fun K1 hK1 => ?_
 refine reg [some 1, some 2] rfl ?_
 refine bxv h0 rfl rfl rfl fun a1 w1 g1 h1 hk1 hz1 hg1 => ?_
 have hleg1 := Nat.le_trans hB.size hz1
 replace hB := Kept.trans hB hk1
 refine asg h1 rfl rfl fun a2 h2 => ?_
 clear h0 h1 a0 a1
 refine wpL_nil (hK1 _ _ ?_)
 refine sq fun K2 hK2 => ?_
 refine sq fun K3 hK3 => ?_
 refine reg [some 3, some 4, some 5] rfl ?_
 refine ldbn h2 hg1 ([str n.path, str n.link, u8 n.kind, .int .i64 n.mode, .int .i64 n.uid, .int .i64 n.gid, .int .i64 n.mtime, str n.data]) rfl Try.isAgg32 Try.sizeOf32 rfl rfl fun a3 h3 => ?_
 refine cal h3 Try.call41 rfl (c_one _ _ ⟨hn1, hn2, hn3⟩) rfl ?_
 rintro v2 w2 a4 ⟨rfl, hk2⟩ h4
 replace hB := Kept.trans hB hk2
 replace hg1 := hg1.kept hk2
 refine unot h4 rfl rfl fun a5 h5 => ?_
 clear hK1 h2 h3 h4 K1 a2 a3 a4
 refine wpL_nil (hK3 _ _ ?_)
 refine spl h5 (d := 5) rfl (fun hb1 => ?_) (fun hb1 => ?_)
 ·
  refine cdt h5 rfl (bnf (bunt hb1)) ?_
  refine sq fun K4 hK4 => ?_
  refine reg [some 2] rfl ?_
  refine asg h5 rfl rfl fun a6 h6 => ?_
  clear hK3 h5 K3 a5
  refine wpL_nil (hK4 _ _ ?_)
  refine rtn (leave h6 (res1 h6 rfl (rvt rfl)) ?_)
  exact ⟨_, rfl, by unfold Pl.entData; rw [if_neg (by rw [bunt hb1]; decide)], hB⟩
 ·
  refine cdf h5 rfl (bnt (bunf hb1)) ?_
  refine skp (hK2 _ _ ?_)
  refine sq fun K5 hK5 => ?_
  refine reg [some 6, some 7, some 8, some 9, some 2] rfl ?_
  refine fab h5 rfl Try.underlying32 rfl Try.sizeOf9 rfl 7 rfl rfl fun a7 h7 => ?_
  refine ldb h7 hg1 rfl Try.isAgg9 rfl rfl fun a8 h8 => ?_
  refine lens h8 rfl Try.underlying9 rfl rfl fun a9 h9 => ?_
  refine cal h9 Try.call94 rfl (c_many _ _ ⟨by omega, by omega⟩) rfl ?_
  rintro v3 w3 a10 ⟨rfl, rfl⟩ h10
  refine asg h10 rfl rfl fun a11 h11 => ?_
  clear hK3 hK2 h5 h7 h8 h9 h10 K3 K2 a5 a7 a8 a9 a10
  refine wpL_nil (hK5 _ _ ?_)
  refine rtn (leave h11 (res1 h11 rfl (rvt rfl)) ?_)
  exact ⟨_, rfl, by unfold Pl.entData; rw [if_pos (bunf hb1)], hB⟩

end Go.Proofs.Ytpgeogdmjgmimaa
