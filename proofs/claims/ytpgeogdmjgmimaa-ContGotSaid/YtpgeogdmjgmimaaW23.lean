/-
  Walks, written by wip/gen/gen.py.
-/
import Derived.Test.YtpgeogdmjgmimaaW19
import Derived.Test.YtpgeogdmjgmimaaPEnt
import Derived.Test.YtpgeogdmjgmimaaPParse
import Derived.Test.YtpgeogdmjgmimaaK17
set_option linter.unusedVariables false
set_option linter.unusedSimpArgs false
set_option maxRecDepth 4000
namespace Go.Proofs.Ytpgeogdmjgmimaa
open Go Go.RowKit K

/-- A literal's value. -/
theorem bld41_0_3_4_5_7_6_8_9_10 (x0 : ByteArray) (x3 : Int) (x4 : Int) (x5 : Int) (x6 : Int) (x7 : Int) (x8 : Int) (x9 : Int) (x10 : Int) (w : World) : (Instr.build 41 [(0, (.string x0)), (3, (.int .i64 x3)), (4, (.int .i64 x4)), (5, (.int .i64 x5)), (7, (.int .i64 x7)), (6, (.int .i64 x6)), (8, (.int .u8 x8)), (9, (.int .i64 x9)), (10, (.int .i64 x10))].toArray).run Try.prog w = .ok (.agg #[.string x0, str [], str [], .int .i64 x3, .int .i64 x4, .int .i64 x5, .int .i64 x6, .int .i64 x7, .int .u8 x8, .int .i64 x9, .int .i64 x10]) w := by kernel_rfl
theorem u8k48 {a : UInt8} : decide ((a.toNat : Int) = 48) = decide (a = 48) := by rw [decide_eq_decide, ← u8inj]; rfl
theorem tmod_dec {a : Int} (h : 0 ≤ a) : decide (a.tmod 512 = 0) = decide (a % 512 = 0) := by rw [Int.tmod_eq_emod_of_nonneg h]
def NdR64 (n : Pl.Nd) : Prop := (-9223372036854775808 ≤ n.mode ∧ n.mode ≤ 9223372036854775807) ∧ (-9223372036854775808 ≤ n.uid ∧ n.uid ≤ 9223372036854775807) ∧ (-9223372036854775808 ≤ n.gid ∧ n.gid ≤ 9223372036854775807) ∧ (-9223372036854775808 ≤ n.mtime ∧ n.mtime ≤ 9223372036854775807)
theorem contHead_range {n : Pl.Nd} {off whole : Int} (hn : NdR64 n) (ho : 0 ≤ off ∧ off ≤ 9223372036854775807) (hw : 0 ≤ whole ∧ whole ≤ 9223372036854775807) : HdR (Pl.contHead n off whole) := by
  intro q
  obtain ⟨h1, h2, h3, h4⟩ := hn
  unfold Pl.hN Pl.contHead
  split <;> simp only <;> omega
theorem longPut_len (k : UInt8) (s : List UInt8) (h : s.length ≤ 1000000) : ((Pl.longPut k s).getD []).length ≤ 2001 := by
  have := aheadPart_len true k s h
  unfold Pl.aheadPart at this; simpa using this

/-- cont.file -/
theorem c_cfile (n : Pl.Nd) (w : World) (hn : NdL n) :
  C Try.prog 108 [ndV n] w fun v w' => v = .bool (Pl.isFile n) ∧ Kept w w' := by
 obtain ⟨hn1, hn2, hn3⟩ := hn
 refine enterE Try.func108 rfl 10 rfl rfl fun a0 h0 => ?_
 have hB := Kept.refl w
 refine sq fun K1 hK1 => ?_
 refine reg [some 1, some 2] rfl ?_
 refine bxv h0 rfl rfl rfl fun a1 w1 g1 h1 hk1 hz1 hg1 => ?_
 have hleg1 := Nat.le_trans hB.size hz1
 replace hB := Kept.trans hB hk1
 refine asg h1 rfl rfl fun a2 h2 => ?_
 clear h0 h1 a0 a1
 refine wpL_nil (hK1 _ _ ?_)
 refine sq fun K2 hK2 => ?_
 refine reg [some 3, some 4, some 5, some 6, some 7, some 8, some 9, some 2] rfl ?_
 refine fab h2 rfl Try.underlying32 rfl Try.sizeOf5 rfl 2 rfl rfl fun a3 h3 => ?_
 refine ldb h3 hg1 rfl Try.isAgg5 rfl rfl fun a4 h4 => ?_
 refine ieq h4 rfl rfl rfl fun a5 h5 => ?_
 refine mv h5 rfl rfl fun a6 h6 => ?_
 refine spl h6 (d := 6) rfl (fun hb1 => ?_) (fun hb1 => ?_)
 ·
  have hp1 := of_decide_eq_true hb1
  refine gon h6 (d := 6) rfl rfl hb1 ?_
  refine ldbn h6 hg1 ([str n.path, str n.link, u8 n.kind, .int .i64 n.mode, .int .i64 n.uid, .int .i64 n.gid, .int .i64 n.mtime, str n.data]) rfl Try.isAgg32 Try.sizeOf32 rfl rfl fun a7 h7 => ?_
  refine gon h7 (d := 6) rfl rfl hb1 ?_
  refine cal h7 Try.call41 rfl (c_one _ _ ⟨hn1, hn2, hn3⟩) rfl ?_
  rintro v2 w2 a8 ⟨rfl, hk2⟩ h8
  replace hB := Kept.trans hB hk2
  refine pkt h8 rfl hb1 rfl rfl fun a9 h9 => ?_
  refine asg h9 rfl rfl fun a10 h10 => ?_
  clear hK1 h2 h3 h4 h5 h6 h7 h8 h9 K1 a2 a3 a4 a5 a6 a7 a8 a9
  refine wpL_nil (hK2 _ _ ?_)
  refine rtn (leave h10 (res1 h10 rfl (rvt rfl)) ?_)
  exact ⟨_, rfl, by unfold Pl.isFile; rw [← u8k48, hb1]; rfl, hB⟩
 ·
  have hp1 := of_decide_eq_false hb1
  refine goff h6 (d := 6) rfl rfl hb1 rfl fun a11 h11 => ?_
  refine goff h11 (d := 6) rfl rfl hb1 rfl fun a12 h12 => ?_
  refine pkf h12 rfl hb1 rfl rfl fun a13 h13 => ?_
  refine asg h13 rfl rfl fun a14 h14 => ?_
  clear hK1 h2 h3 h4 h5 h6 h11 h12 h13 K1 a2 a3 a4 a5 a6 a11 a12 a13
  refine wpL_nil (hK2 _ _ ?_)
  refine rtn (leave h14 (res1 h14 rfl (rvt rfl)) ?_)
  exact ⟨_, rfl, by unfold Pl.isFile; rw [← u8k48, hb1]; rfl, hB⟩

/-- cont.May -/
theorem c_contMay (n : Pl.Nd) (off : Int) (w : World) (hn : NdL n) (ho : -9223372036854775808 ≤ off ∧ off ≤ 9223372036854775807) :
  C Try.prog 53 [ndV n, .int .i64 off] w fun v w' => v = .bool (Pl.contMay n off) ∧ Kept w w' := by
 obtain ⟨hn1, hn2, hn3⟩ := hn
 refine enterE Try.func53 rfl 23 rfl rfl fun a0 h0 => ?_
 have hB := Kept.refl w
 refine sq fun K1 hK1 => ?_
 refine reg [some 2, some 4] rfl ?_
 refine bxv h0 rfl rfl rfl fun a1 w1 g2 h1 hk1 hz2 hg2 => ?_
 have hleg2 := Nat.le_trans hB.size hz2
 replace hB := Kept.trans hB hk1
 refine asg h1 rfl rfl fun a2 h2 => ?_
 clear h0 h1 a0 a1
 refine wpL_nil (hK1 _ _ ?_)
 refine sq fun K2 hK2 => ?_
 refine reg [some 5, some 6, some 7, some 8, some 9, some 10, some 11, some 12, some 13, some 14, some 15, some 16, some 17, some 18, some 19, some 20, some 21, some 22, some 4] rfl ?_
 refine ldbn h2 hg2 ([str n.path, str n.link, u8 n.kind, .int .i64 n.mode, .int .i64 n.uid, .int .i64 n.gid, .int .i64 n.mtime, str n.data]) rfl Try.isAgg32 Try.sizeOf32 rfl rfl fun a3 h3 => ?_
 refine cal h3 Try.call108 rfl (c_cfile _ _ ⟨hn1, hn2, hn3⟩) rfl ?_
 rintro v2 w2 a4 ⟨rfl, hk2⟩ h4
 replace hB := Kept.trans hB hk2
 replace hg2 := hg2.kept hk2
 refine mv h4 rfl rfl fun a5 h5 => ?_
 refine spl h5 (d := 7) rfl (fun hb1 => ?_) (fun hb1 => ?_)
 ·
  refine gon h5 (d := 7) rfl rfl hb1 ?_
  refine mv h5 rfl rfl fun a6 h6 => ?_
  refine gon h6 (d := 7) rfl rfl hb1 ?_
  refine geq h6 rfl rfl rfl fun a7 h7 => ?_
  refine pkt h7 rfl hb1 rfl rfl fun a8 h8 => ?_
  refine mv h8 rfl rfl fun a9 h9 => ?_
  refine spl h9 (d := 11) rfl (fun hb2 => ?_) (fun hb2 => ?_)
  ·
   have hp2 := of_decide_eq_true hb2
   refine gon h9 (d := 11) rfl rfl hb2 ?_
   refine mv h9 rfl rfl fun a10 h10 => ?_
   refine gon h10 (d := 11) rfl rfl hb2 ?_
   refine fab h10 rfl Try.underlying32 rfl Try.sizeOf9 rfl 7 rfl rfl fun a11 h11 => ?_
   refine gon h11 (d := 11) rfl rfl hb2 ?_
   refine ldb h11 hg2 rfl Try.isAgg9 rfl rfl fun a12 h12 => ?_
   refine gon h12 (d := 11) rfl rfl hb2 ?_
   refine lens h12 rfl Try.underlying9 rfl rfl fun a13 h13 => ?_
   refine gon h13 (d := 11) rfl rfl hb2 ?_
   refine lss h13 rfl rfl rfl fun a14 h14 => ?_
   refine pkt h14 rfl hb2 rfl rfl fun a15 h15 => ?_
   refine mv h15 rfl rfl fun a16 h16 => ?_
   refine spl h16 (d := 18) rfl (fun hb3 => ?_) (fun hb3 => ?_)
   ·
    have hp3 := of_decide_eq_true hb3
    refine gon h16 (d := 18) rfl rfl hb3 ?_
    refine mv h16 rfl rfl fun a17 h17 => ?_
    refine gon h17 (d := 18) rfl rfl hb3 ?_
    refine rem h17 rfl rfl rfl (by omega) fun a18 h18 => ?_
    refine gon h18 (d := 18) rfl rfl hb3 ?_
    refine ieq h18 rfl rfl rfl fun a19 h19 => ?_
    refine pkt h19 rfl hb3 rfl rfl fun a20 h20 => ?_
    refine asg h20 rfl rfl fun a21 h21 => ?_
    clear hK1 h2 h3 h4 h5 h6 h7 h8 h9 h10 h11 h12 h13 h14 h15 h16 h17 h18 h19 h20 K1 a2 a3 a4 a5 a6 a7 a8 a9 a10 a11 a12 a13 a14 a15 a16 a17 a18 a19 a20
    refine wpL_nil (hK2 _ _ ?_)
    refine rtn (leave h21 (res1 h21 rfl (rvt rfl)) ?_)
    exact ⟨_, rfl, by unfold Pl.contMay; rw [← tmod_dec (by omega)]; simp only [hb1, hb2, hb3, Bool.true_and, Bool.false_and, Bool.and_false], hB⟩
   ·
    have hp3 := of_decide_eq_false hb3
    refine goff h16 (d := 18) rfl rfl hb3 rfl fun a22 h22 => ?_
    refine goff h22 (d := 18) rfl rfl hb3 rfl fun a23 h23 => ?_
    refine goff h23 (d := 18) rfl rfl hb3 rfl fun a24 h24 => ?_
    refine pkf h24 rfl hb3 rfl rfl fun a25 h25 => ?_
    refine asg h25 rfl rfl fun a26 h26 => ?_
    clear hK1 h2 h3 h4 h5 h6 h7 h8 h9 h10 h11 h12 h13 h14 h15 h16 h22 h23 h24 h25 K1 a2 a3 a4 a5 a6 a7 a8 a9 a10 a11 a12 a13 a14 a15 a16 a22 a23 a24 a25
    refine wpL_nil (hK2 _ _ ?_)
    refine rtn (leave h26 (res1 h26 rfl (rvt rfl)) ?_)
    exact ⟨_, rfl, by unfold Pl.contMay; simp only [hb1, hb2, hb3, Bool.true_and, Bool.false_and, Bool.and_false], hB⟩
  ·
   have hp2 := of_decide_eq_false hb2
   refine goff h9 (d := 11) rfl rfl hb2 rfl fun a27 h27 => ?_
   refine goff h27 (d := 11) rfl rfl hb2 rfl fun a28 h28 => ?_
   refine goff h28 (d := 11) rfl rfl hb2 rfl fun a29 h29 => ?_
   refine goff h29 (d := 11) rfl rfl hb2 rfl fun a30 h30 => ?_
   refine goff h30 (d := 11) rfl rfl hb2 rfl fun a31 h31 => ?_
   refine pkf h31 rfl hb2 rfl rfl fun a32 h32 => ?_
   refine mv h32 rfl rfl fun a33 h33 => ?_
   refine goff h33 (d := 18) rfl rfl rfl rfl fun a34 h34 => ?_
   refine goff h34 (d := 18) rfl rfl rfl rfl fun a35 h35 => ?_
   refine goff h35 (d := 18) rfl rfl rfl rfl fun a36 h36 => ?_
   refine pkf h36 rfl rfl rfl rfl fun a37 h37 => ?_
   refine asg h37 rfl rfl fun a38 h38 => ?_
   clear hK1 h2 h3 h4 h5 h6 h7 h8 h9 h27 h28 h29 h30 h31 h32 h33 h34 h35 h36 h37 K1 a2 a3 a4 a5 a6 a7 a8 a9 a27 a28 a29 a30 a31 a32 a33 a34 a35 a36 a37
   refine wpL_nil (hK2 _ _ ?_)
   refine rtn (leave h38 (res1 h38 rfl (rvt rfl)) ?_)
   exact ⟨_, rfl, by unfold Pl.contMay; simp only [hb1, hb2, Bool.true_and, Bool.false_and, Bool.and_false], hB⟩
 ·
  refine goff h5 (d := 7) rfl rfl hb1 rfl fun a39 h39 => ?_
  refine goff h39 (d := 7) rfl rfl hb1 rfl fun a40 h40 => ?_
  refine pkf h40 rfl hb1 rfl rfl fun a41 h41 => ?_
  refine mv h41 rfl rfl fun a42 h42 => ?_
  refine goff h42 (d := 11) rfl rfl rfl rfl fun a43 h43 => ?_
  refine goff h43 (d := 11) rfl rfl rfl rfl fun a44 h44 => ?_
  refine goff h44 (d := 11) rfl rfl rfl rfl fun a45 h45 => ?_
  refine goff h45 (d := 11) rfl rfl rfl rfl fun a46 h46 => ?_
  refine goff h46 (d := 11) rfl rfl rfl rfl fun a47 h47 => ?_
  refine pkf h47 rfl rfl rfl rfl fun a48 h48 => ?_
  refine mv h48 rfl rfl fun a49 h49 => ?_
  refine goff h49 (d := 18) rfl rfl rfl rfl fun a50 h50 => ?_
  refine goff h50 (d := 18) rfl rfl rfl rfl fun a51 h51 => ?_
  refine goff h51 (d := 18) rfl rfl rfl rfl fun a52 h52 => ?_
  refine pkf h52 rfl rfl rfl rfl fun a53 h53 => ?_
  refine asg h53 rfl rfl fun a54 h54 => ?_
  clear hK1 h2 h3 h4 h5 h39 h40 h41 h42 h43 h44 h45 h46 h47 h48 h49 h50 h51 h52 h53 K1 a2 a3 a4 a5 a39 a40 a41 a42 a43 a44 a45 a46 a47 a48 a49 a50 a51 a52 a53
  refine wpL_nil (hK2 _ _ ?_)
  refine rtn (leave h54 (res1 h54 rfl (rvt rfl)) ?_)
  exact ⟨_, rfl, by unfold Pl.contMay; simp only [hb1, Bool.true_and, Bool.false_and, Bool.and_false], hB⟩

/-- cont.Many -/
theorem c_contMany (n : Pl.Nd) (w : World) (hn : NdL n) :
  C Try.prog 54 [ndV n] w fun v w' => v = .int .i64 (Pl.contMany n) ∧ Kept w w' := by
 obtain ⟨hn1, hn2, hn3⟩ := hn
 refine enterE Try.func54 rfl 12 rfl rfl fun a0 h0 => ?_
 have hB := Kept.refl w
 refine sq fun K1 hK1 => ?_
 refine reg [some 1, some 2] rfl ?_
 refine bxv h0 rfl rfl rfl fun a1 w1 g1 h1 hk1 hz1 hg1 => ?_
 have hleg1 := Nat.le_trans hB.size hz1
 replace hB := Kept.trans hB hk1
 refine asg h1 rfl rfl fun a2 h2 => ?_
 clear h0 h1 a0 a1
 refine wpL_nil (hK1 _ _ ?_)
 refine sq fun K2 hK2 => ?_
 refine blc ?_
 refine sq fun K3 hK3 => ?_
 refine reg [some 4, some 5, some 6, some 3] rfl ?_
 refine ldbn h2 hg1 ([str n.path, str n.link, u8 n.kind, .int .i64 n.mode, .int .i64 n.uid, .int .i64 n.gid, .int .i64 n.mtime, str n.data]) rfl Try.isAgg32 Try.sizeOf32 rfl rfl fun a3 h3 => ?_
 refine cal h3 Try.call108 rfl (c_cfile _ _ ⟨hn1, hn2, hn3⟩) rfl ?_
 rintro v2 w2 a4 ⟨rfl, hk2⟩ h4
 replace hB := Kept.trans hB hk2
 replace hg1 := hg1.kept hk2
 refine unot h4 rfl rfl fun a5 h5 => ?_
 refine asg h5 rfl rfl fun a6 h6 => ?_
 clear hK1 h2 h3 h4 h5 K1 a2 a3 a4 a5
 refine wpL_nil (hK3 _ _ ?_)
 refine spl h6 (d := 3) rfl (fun hb1 => ?_) (fun hb1 => ?_)
 ·
  refine cdt h6 rfl (bnf (bunt hb1)) ?_
  refine sq fun K4 hK4 => ?_
  refine reg [some 2] rfl ?_
  refine asg h6 rfl rfl fun a7 h7 => ?_
  clear hK3 h6 K3 a6
  refine wpL_nil (hK4 _ _ ?_)
  refine rtn (leave h7 (res1 h7 rfl (rvt rfl)) ?_)
  exact ⟨_, rfl, by unfold Pl.contMany; rw [if_pos (bunt hb1)], hB⟩
 ·
  refine cdf h6 rfl (bnt (bunf hb1)) ?_
  refine sq fun K5 hK5 => ?_
  refine reg [some 8, some 9, some 10, some 11, some 7] rfl ?_
  refine fab h6 rfl Try.underlying32 rfl Try.sizeOf9 rfl 0 rfl rfl fun a8 h8 => ?_
  refine ldb h8 hg1 rfl Try.isAgg9 rfl rfl fun a9 h9 => ?_
  refine lens h9 rfl Try.underlying9 rfl rfl fun a10 h10 => ?_
  refine gtr h10 rfl rfl rfl fun a11 h11 => ?_
  refine asg h11 rfl rfl fun a12 h12 => ?_
  clear hK3 h6 h8 h9 h10 h11 K3 a6 a8 a9 a10 a11
  refine wpL_nil (hK5 _ _ ?_)
  refine spl h12 (d := 7) rfl (fun hb2 => ?_) (fun hb2 => ?_)
  ·
   have hp2 := of_decide_eq_true hb2
   refine cdt h12 rfl hb2 ?_
   refine sq fun K6 hK6 => ?_
   refine reg [some 2] rfl ?_
   refine asg h12 rfl rfl fun a13 h13 => ?_
   clear hK5 h12 K5 a12
   refine wpL_nil (hK6 _ _ ?_)
   refine rtn (leave h13 (res1 h13 rfl (rvt rfl)) ?_)
   exact ⟨_, rfl, by unfold Pl.contMany; rw [if_neg (by rw [bunf hb1]; decide), if_pos (by omega)], hB⟩
  ·
   have hp2 := of_decide_eq_false hb2
   refine cdf h12 rfl hb2 ?_
   refine skp (hK2 _ _ ?_)
   refine sq fun K7 hK7 => ?_
   refine reg [some 2] rfl ?_
   refine asg h12 rfl rfl fun a14 h14 => ?_
   clear hK5 hK2 h12 K5 K2 a12
   refine wpL_nil (hK7 _ _ ?_)
   refine rtn (leave h14 (res1 h14 rfl (rvt rfl)) ?_)
   exact ⟨_, rfl, by unfold Pl.contMany; rw [if_neg (by rw [bunf hb1]; decide), if_neg (by omega)], hB⟩

/-- cont.joined -/
theorem c_cjoined {S : Nat → Prop} (v : Value) (L : List (List (List UInt8))) (w : World) (hv : Rrs S w v L) (hl : L.flatten.length ≤ 1000000000) :
  C Try.prog 149 [v] w fun v w' => Rws (fun b => S b ∨ w.heap.size ≤ b) w' v L.flatten ∧ Kept w w' := by
 refine enterE Try.func149 rfl 5 rfl rfl fun a0 h0 => ?_
 have hB := Kept.refl w
 refine sq fun K1 hK1 => ?_
 refine reg [some 2] rfl ?_
 refine asg h0 rfl rfl fun a1 h1 => ?_
 clear h0 a0
 refine wpL_nil (hK1 _ _ ?_)
 refine sq fun K2 hK2 => ?_
 refine reg [some 3, some 4, some 2] rfl ?_
 refine mv h1 rfl rfl fun a2 h2 => ?_
 have hsz1 := hB.size
 refine cal h2 Try.call76 rfl (c_concatR _ _ _ hv (by omega)) rfl ?_
 rintro v1 w1 a3 ⟨hR1, hk1⟩ h3
 replace hB := Kept.trans hB hk1
 replace hR1 := hR1.lt
 refine asg h3 rfl rfl fun a4 h4 => ?_
 clear hK1 h1 h2 h3 K1 a1 a2 a3
 refine wpL_nil (hK2 _ _ ?_)
 refine rtn (leave h4 (res1 h4 rfl (rvt rfl)) ?_)
 exact ⟨_, rfl, hR1.mono (fun b h => by rcases h.1 with h | h; exact .inl h; exact .inr h), hB⟩

set_option maxHeartbeats 1000000 in
/-- cont.put -/
theorem c_cput (n : Pl.Nd) (off whole : Int) (w : World) (hn : NdL n) (hrn : NdR64 n) (hoff : 0 ≤ off ∧ off ≤ 9223372036854775807) (hwh : 0 ≤ whole ∧ whole ≤ 9223372036854775807) :
  C Try.prog 102 [ndV n, .int .i64 off, .int .i64 whole] w fun v w' => Rws (fun b => w.heap.size ≤ b) w' v (Pl.contRaw n off whole) ∧ Kept w w' := by
 obtain ⟨hn1, hn2, hn3⟩ := hn
 refine enterE Try.func102 rfl 50 rfl rfl fun a0 h0 => ?_
 have hB := Kept.refl w
 refine sq fun K1 hK1 => ?_
 refine reg [some 3, some 6] rfl ?_
 refine bxv h0 rfl rfl rfl fun a1 w1 g3 h1 hk1 hz3 hg3 => ?_
 have hleg3 := Nat.le_trans hB.size hz3
 replace hB := Kept.trans hB hk1
 refine asg h1 rfl rfl fun a2 h2 => ?_
 clear h0 h1 a0 a1
 refine wpL_nil (hK1 _ _ ?_)
 refine sq fun K2 hK2 => ?_
 refine reg [some 7] rfl ?_
 refine asg h2 rfl rfl fun a3 h3 => ?_
 clear hK1 h2 K1 a2
 refine wpL_nil (hK2 _ _ ?_)
 refine sq fun K3 hK3 => ?_
 refine sq fun K4 hK4 => ?_
 refine reg [some 10, some 11, some 12, some 13] rfl ?_
 refine fab h3 rfl Try.underlying32 rfl Try.sizeOf9 rfl 0 rfl rfl fun a4 h4 => ?_
 refine ldb h4 hg3 rfl Try.isAgg9 rfl rfl fun a5 h5 => ?_
 refine lens h5 rfl Try.underlying9 rfl rfl fun a6 h6 => ?_
 refine gtr h6 rfl rfl rfl fun a7 h7 => ?_
 clear hK2 h3 h4 h5 h6 K2 a3 a4 a5 a6
 refine wpL_nil (hK4 _ _ ?_)
 refine spl h7 (d := 13) rfl (fun hb1 => ?_) (fun hb1 => ?_)
 ·
  have hp1 := of_decide_eq_true hb1
  refine cdt h7 rfl hb1 ?_
  refine reg [some 15, some 16, some 17, some 14, some 18, some 19, some 7] rfl ?_
  refine fab h7 rfl Try.underlying32 rfl Try.sizeOf9 rfl 0 rfl rfl fun a8 h8 => ?_
  refine ldb h8 hg3 rfl Try.isAgg9 rfl rfl fun a9 h9 => ?_
  have hsz2 := hB.size
  have hlg32 := hg3.lt
  refine cal h9 Try.call34 rfl (c_longPut 76 n.path _ (by omega)) rfl ?_
  rintro v2 w2 a10 ⟨⟨qp2, rfl, hp2'⟩, hk2⟩ h10
  replace hB := Kept.trans hB hk2
  replace hg3 := hg3.kept hk2
  replace hp2' := hp2'.lt
  have hlw2 := Nat.le_refl w2.heap.size
  obtain ⟨Ap2, cp2, rfl⟩ := hp2'.isl
  refine mv h10 rfl rfl fun a11 h11 => ?_
  refine ext2_0 h11 rfl rfl fun a12 h12 => ?_
  refine ext2_1 h12 rfl rfl fun a13 h13 => ?_
  refine asg h13 rfl rfl fun a14 h14 => ?_
  clear hK4 h7 h8 h9 h10 h11 h12 h13 K4 a7 a8 a9 a10 a11 a12 a13
  refine wpL_nil (hK3 _ _ ?_)
  refine sq fun K5 hK5 => ?_
  clear hK3 K3
  have hsW := hB.size
  have hN4 := Nat.le_refl w2.heap.size
  refine drw h14 [some 21, some 22, some 23, some 24, some 25, some 26, some 27, some 28, some 29, some 30, some 31, some 32, some 33, some 34, some 35, some 36, some 37, some 38, some 39, some 40, some 41, some 42, some 20, some 43, some 44, some 8, some 9] rfl [Fx (.pointer (some ⟨g3, 0, none⟩)), Fx (str n.path), Fx (.pointer (some ⟨g3, 0, none⟩)), Fx (str n.path), Fx (.int .i64 ((n.path : List UInt8).length : Int)), Fx (.int .i64 (min (n.path.length : Int) 100)), Fx (str (Pl.short n.path)), Fx (.pointer (some ⟨g3, 3, none⟩)), Fx (.int .i64 n.mode), Fx (.pointer (some ⟨g3, 4, none⟩)), Fx (.int .i64 n.uid), Fx (.pointer (some ⟨g3, 5, none⟩)), Fx (.int .i64 n.gid), Fx (.pointer (some ⟨g3, 6, none⟩)), Fx (.int .i64 n.mtime), Fx (.int .i64 whole), Fx (.int .i64 off), Fx (.int .i64 (whole - off)), Fx (.int .i64 off), Fx (.int .i64 whole), Fx (hdV (Pl.contHead n off whole)), fun v w' => ∃ q, v = .tuple #[q, .bool (Pl.putH (Pl.contHead n off whole)).isSome] ∧ Byt (fun b => w2.heap.size ≤ b) w' q ((Pl.putH (Pl.contHead n off whole)).getD []), fun v w' => ∃ q, v = .tuple #[q, .bool (Pl.putH (Pl.contHead n off whole)).isSome] ∧ Byt (fun b => w2.heap.size ≤ b) w' q ((Pl.putH (Pl.contHead n off whole)).getD []), fun v w' => Byt (fun b => w2.heap.size ≤ b) w' v ((Pl.putH (Pl.contHead n off whole)).getD []), Fx (.bool (Pl.putH (Pl.contHead n off whole)).isSome), fun v w' => Byt (fun b => w2.heap.size ≤ b) w' v ((Pl.putH (Pl.contHead n off whole)).getD []), Fx (.bool (Pl.putH (Pl.contHead n off whole)).isSome)] Kept rfl rfl rfl rfl (drewKept _) keptT (mcons mfx (mcons mfx (mcons mfx (mcons mfx (mcons mfx (mcons mfx (mcons mfx (mcons mfx (mcons mfx (mcons mfx (mcons mfx (mcons mfx (mcons mfx (mcons mfx (mcons mfx (mcons mfx (mcons mfx (mcons mfx (mcons mfx (mcons mfx (mcons mfx (mcons (fun v w w' hk h => ⟨h.choose, h.choose_spec.1, h.choose_spec.2.kept hk⟩) (mcons (fun v w w' hk h => ⟨h.choose, h.choose_spec.1, h.choose_spec.2.kept hk⟩) (mcons (fun v w w' hk h => h.kept hk) (mcons mfx (mcons (fun v w w' hk h => h.kept hk) (mcons mfx mnil))))))))))))))))))))))))))) ⟨?_, ?_, ?_, ?_, ?_, ?_, ?_, ?_, ?_, ?_, ?_, ?_, ?_, ?_, ?_, ?_, ?_, ?_, ?_, ?_, ?_, ?_, ?_, ?_, ?_, ?_, ?_, trivial⟩ ?_
  ·
   intro L a w_ hH hb hR hd ho
   have hl3 := hb 3 _ rfl
   refine fab hH hl3 Try.underlying32 rfl Try.sizeOf9 rfl 0 rfl rfl fun a15 h15 => ?_
   exact wpL_nil ⟨_, h15, Kept.refl _, rfl⟩
  ·
   intro L a w_ hH hb hR hd ho
   obtain ⟨_, hl21, rfl⟩ := hd 0 rfl
   replace hg3 := hg3.kept hR
   refine ldb hH hg3 hl21 Try.isAgg9 rfl rfl fun a16 h16 => ?_
   exact wpL_nil ⟨_, h16, Kept.refl _, rfl⟩
  ·
   intro L a w_ hH hb hR hd ho
   have hl3 := hb 3 _ rfl
   refine fab hH hl3 Try.underlying32 rfl Try.sizeOf9 rfl 0 rfl rfl fun a17 h17 => ?_
   exact wpL_nil ⟨_, h17, Kept.refl _, rfl⟩
  ·
   intro L a w_ hH hb hR hd ho
   obtain ⟨_, hl23, rfl⟩ := hd 2 rfl
   replace hg3 := hg3.kept hR
   refine ldb hH hg3 hl23 Try.isAgg9 rfl rfl fun a18 h18 => ?_
   exact wpL_nil ⟨_, h18, Kept.refl _, rfl⟩
  ·
   intro L a w_ hH hb hR hd ho
   obtain ⟨_, hl24, rfl⟩ := hd 3 rfl
   refine lens hH rfl Try.underlying9 hl24 rfl fun a19 h19 => ?_
   exact wpL_nil ⟨_, h19, Kept.refl _, rfl⟩
  ·
   intro L a w_ hH hb hR hd ho
   obtain ⟨_, hl25, rfl⟩ := hd 4 rfl
   refine minv hH hl25 rfl rfl fun a20 h20 => ?_
   exact wpL_nil ⟨_, h20, Kept.refl _, rfl⟩
  ·
   intro L a w_ hH hb hR hd ho
   obtain ⟨_, hl22, rfl⟩ := hd 1 rfl
   obtain ⟨_, hl26, rfl⟩ := hd 5 rfl
   refine slct (min n.path.length 100) hH Try.underlying9 hl22 ⟨_, hl26, by first | omega | (simp; omega)⟩ (by omega) rfl fun a21 h21 => ?_
   exact wpL_nil ⟨_, h21, Kept.refl _, rfl⟩
  ·
   intro L a w_ hH hb hR hd ho
   have hl3 := hb 3 _ rfl
   refine fab hH hl3 Try.underlying32 rfl Try.sizeOf3 rfl 3 rfl rfl fun a22 h22 => ?_
   exact wpL_nil ⟨_, h22, Kept.refl _, rfl⟩
  ·
   intro L a w_ hH hb hR hd ho
   obtain ⟨_, hl28, rfl⟩ := hd 7 rfl
   replace hg3 := hg3.kept hR
   refine ldb hH hg3 hl28 Try.isAgg3 rfl rfl fun a23 h23 => ?_
   exact wpL_nil ⟨_, h23, Kept.refl _, rfl⟩
  ·
   intro L a w_ hH hb hR hd ho
   have hl3 := hb 3 _ rfl
   refine fab hH hl3 Try.underlying32 rfl Try.sizeOf3 rfl 4 rfl rfl fun a24 h24 => ?_
   exact wpL_nil ⟨_, h24, Kept.refl _, rfl⟩
  ·
   intro L a w_ hH hb hR hd ho
   obtain ⟨_, hl30, rfl⟩ := hd 9 rfl
   replace hg3 := hg3.kept hR
   refine ldb hH hg3 hl30 Try.isAgg3 rfl rfl fun a25 h25 => ?_
   exact wpL_nil ⟨_, h25, Kept.refl _, rfl⟩
  ·
   intro L a w_ hH hb hR hd ho
   have hl3 := hb 3 _ rfl
   refine fab hH hl3 Try.underlying32 rfl Try.sizeOf3 rfl 5 rfl rfl fun a26 h26 => ?_
   exact wpL_nil ⟨_, h26, Kept.refl _, rfl⟩
  ·
   intro L a w_ hH hb hR hd ho
   obtain ⟨_, hl32, rfl⟩ := hd 11 rfl
   replace hg3 := hg3.kept hR
   refine ldb hH hg3 hl32 Try.isAgg3 rfl rfl fun a27 h27 => ?_
   exact wpL_nil ⟨_, h27, Kept.refl _, rfl⟩
  ·
   intro L a w_ hH hb hR hd ho
   have hl3 := hb 3 _ rfl
   refine fab hH hl3 Try.underlying32 rfl Try.sizeOf3 rfl 6 rfl rfl fun a28 h28 => ?_
   exact wpL_nil ⟨_, h28, Kept.refl _, rfl⟩
  ·
   intro L a w_ hH hb hR hd ho
   obtain ⟨_, hl34, rfl⟩ := hd 13 rfl
   replace hg3 := hg3.kept hR
   refine ldb hH hg3 hl34 Try.isAgg3 rfl rfl fun a29 h29 => ?_
   exact wpL_nil ⟨_, h29, Kept.refl _, rfl⟩
  ·
   intro L a w_ hH hb hR hd ho
   have hl2 := hb 2 _ rfl
   refine mv hH hl2 rfl fun a30 h30 => ?_
   exact wpL_nil ⟨_, h30, Kept.refl _, rfl⟩
  ·
   intro L a w_ hH hb hR hd ho
   have hl1 := hb 1 _ rfl
   refine mv hH hl1 rfl fun a31 h31 => ?_
   exact wpL_nil ⟨_, h31, Kept.refl _, rfl⟩
  ·
   intro L a w_ hH hb hR hd ho
   obtain ⟨_, hl36, rfl⟩ := hd 15 rfl
   obtain ⟨_, hl37, rfl⟩ := hd 16 rfl
   refine sub hH hl36 hl37 rfl (by omega) fun a32 h32 => ?_
   exact wpL_nil ⟨_, h32, Kept.refl _, rfl⟩
  ·
   intro L a w_ hH hb hR hd ho
   have hl1 := hb 1 _ rfl
   refine mv hH hl1 rfl fun a33 h33 => ?_
   exact wpL_nil ⟨_, h33, Kept.refl _, rfl⟩
  ·
   intro L a w_ hH hb hR hd ho
   have hl2 := hb 2 _ rfl
   refine mv hH hl2 rfl fun a34 h34 => ?_
   exact wpL_nil ⟨_, h34, Kept.refl _, rfl⟩
  ·
   intro L a w_ hH hb hR hd ho
   obtain ⟨_, hl27, rfl⟩ := hd 6 rfl
   obtain ⟨_, hl29, rfl⟩ := hd 8 rfl
   obtain ⟨_, hl31, rfl⟩ := hd 10 rfl
   obtain ⟨_, hl33, rfl⟩ := hd 12 rfl
   obtain ⟨_, hl35, rfl⟩ := hd 14 rfl
   obtain ⟨_, hl38, rfl⟩ := hd 17 rfl
   obtain ⟨_, hl39, rfl⟩ := hd 18 rfl
   obtain ⟨_, hl40, rfl⟩ := hd 19 rfl
   refine bld hH (evpc hl27 (evpc hl29 (evpc hl31 (evpc hl33 (evpc hl35 (evpc hl38 (evpc rfl (evpc hl39 (evpc hl40 evp0))))))))) (bld41_0_3_4_5_7_6_8_9_10 _ _ _ _ _ _ _ _ _) rfl fun a35 h35 => ?_
   exact wpL_nil ⟨_, h35, Kept.refl _, rfl⟩
  ·
   intro L a w_ hH hb hR hd ho
   obtain ⟨_, hl41, rfl⟩ := hd 20 rfl
   refine cal hH Try.call77 (evs1 hl41) (c_headPut (Pl.contHead n off whole) _ (contHead_range hrn hoff hwh)) rfl ?_
   rintro v3 w3 a36 ⟨⟨q, rfl, hq⟩, hk3⟩ h36
   exact wpL_nil ⟨_, h36, hk3, ⟨q, rfl, hq.mono (fun b hb => Nat.le_trans hR.size hb)⟩⟩
  ·
   intro L a w_ hH hb hR hd ho
   obtain ⟨v42, hl42, hf42⟩ := hd 21 rfl
   refine mv hH hl42 rfl fun a37 h37 => ?_
   exact wpL_nil ⟨_, h37, Kept.refl _, hf42⟩
  ·
   intro L a w_ hH hb hR hd ho
   obtain ⟨v20, hl20, hf20⟩ := hd 22 rfl
   obtain ⟨q20, rfl, hq20⟩ := hf20
   refine ext2_0 hH hl20 rfl fun a38 h38 => ?_
   exact wpL_nil ⟨_, h38, Kept.refl _, hq20⟩
  ·
   intro L a w_ hH hb hR hd ho
   obtain ⟨v20, hl20, hf20⟩ := hd 22 rfl
   obtain ⟨q20, rfl, hq20⟩ := hf20
   refine ext2_1 hH hl20 rfl fun a39 h39 => ?_
   exact wpL_nil ⟨_, h39, Kept.refl _, rfl⟩
  ·
   intro L a w_ hH hb hR hd ho
   obtain ⟨v43, hl43, hf43⟩ := hd 23 rfl
   refine asg hH hl43 rfl fun a40 h40 => ?_
   exact wpL_nil ⟨_, h40, Kept.refl _, hf43⟩
  ·
   intro L a w_ hH hb hR hd ho
   obtain ⟨_, hl44, rfl⟩ := hd 24 rfl
   refine asg hH hl44 rfl fun a41 h41 => ?_
   exact wpL_nil ⟨_, h41, Kept.refl _, rfl⟩
  intro L4 a42 w4 h42 hbh42 hRh42 hdh42
  obtain ⟨_, hl21, rfl⟩ := hdh42 0 (by decide)
  obtain ⟨_, hl22, rfl⟩ := hdh42 1 (by decide)
  obtain ⟨_, hl23, rfl⟩ := hdh42 2 (by decide)
  obtain ⟨_, hl24, rfl⟩ := hdh42 3 (by decide)
  obtain ⟨_, hl25, rfl⟩ := hdh42 4 (by decide)
  obtain ⟨_, hl26, rfl⟩ := hdh42 5 (by decide)
  obtain ⟨_, hl27, rfl⟩ := hdh42 6 (by decide)
  obtain ⟨_, hl28, rfl⟩ := hdh42 7 (by decide)
  obtain ⟨_, hl29, rfl⟩ := hdh42 8 (by decide)
  obtain ⟨_, hl30, rfl⟩ := hdh42 9 (by decide)
  obtain ⟨_, hl31, rfl⟩ := hdh42 10 (by decide)
  obtain ⟨_, hl32, rfl⟩ := hdh42 11 (by decide)
  obtain ⟨_, hl33, rfl⟩ := hdh42 12 (by decide)
  obtain ⟨_, hl34, rfl⟩ := hdh42 13 (by decide)
  obtain ⟨_, hl35, rfl⟩ := hdh42 14 (by decide)
  obtain ⟨_, hl36, rfl⟩ := hdh42 15 (by decide)
  obtain ⟨_, hl37, rfl⟩ := hdh42 16 (by decide)
  obtain ⟨_, hl38, rfl⟩ := hdh42 17 (by decide)
  obtain ⟨_, hl39, rfl⟩ := hdh42 18 (by decide)
  obtain ⟨_, hl40, rfl⟩ := hdh42 19 (by decide)
  obtain ⟨_, hl41, rfl⟩ := hdh42 20 (by decide)
  obtain ⟨v42, hl42, hf42⟩ := hdh42 21 (by decide)
  obtain ⟨v20, hl20, hf20⟩ := hdh42 22 (by decide)
  obtain ⟨v43, hl43, hf43⟩ := hdh42 23 (by decide)
  obtain ⟨_, hl44, rfl⟩ := hdh42 24 (by decide)
  obtain ⟨v8, hl8, hf8⟩ := hdh42 25 (by decide)
  obtain ⟨_, hl9, rfl⟩ := hdh42 26 (by decide)
  have h43 := Has.under h42 hbh42
  have h44 := (h42.add hl9 (h42.add hl8 (h42.add hl44 (h42.add hl43 (h42.add hl20 (h42.add hl42 (h42.add hl41 (h42.add hl40 (h42.add hl39 (h42.add hl38 (h42.add hl37 (h42.add hl36 (h42.add hl35 (h42.add hl34 (h42.add hl33 (h42.add hl32 (h42.add hl31 (h42.add hl30 (h42.add hl29 (h42.add hl28 (h42.add hl27 (h42.add hl26 (h42.add hl25 (h42.add hl24 (h42.add hl23 (h42.add hl22 (h42.add hl21 h43)))))))))))))))))))))))))))
  clear h43 hl21 hl22 hl23 hl24 hl25 hl26 hl27 hl28 hl29 hl30 hl31 hl32 hl33 hl34 hl35 hl36 hl37 hl38 hl39 hl40 hl41 hl42 hl20 hl43 hl44 hl8 hl9 hbh42 hdh42
  replace hB := Kept.trans hB hRh42
  replace hg3 := hg3.kept hRh42
  replace hp2' := hp2'.kept hRh42
  replace hlw2 := Nat.le_trans hlw2 hRh42.size
  replace hN4 := Nat.le_trans hN4 hRh42.size
  obtain ⟨A8, c8, rfl⟩ := hf8.isl
  refine hK5 _ _ ?_
  refine sq fun K6 hK6 => ?_
  refine reg [some 45, some 46, some 47, some 48, some 49, some 6] rfl ?_
  refine mv h44 rfl rfl fun a45 h45 => ?_
  refine mv h45 rfl rfl fun a46 h46 => ?_
  refine bsl h46 rfl (bsl1_25_0 _ _ _) rfl fun a47 w5 g47 h47 hk5 hz47 hg47 => ?_
  have hleg47 := Nat.le_trans hB.size hz47
  have hneg3g47 := Nat.lt_of_lt_of_le hg3.lt hz47
  have hNhlw2g47 := Nat.le_trans hlw2 hz47
  have hNhN4g47 := Nat.le_trans hN4 hz47
  replace hB := Kept.trans hB hk5
  replace hg3 := hg3.kept hk5
  replace hp2' := hp2'.kept hk5
  replace hlw2 := Nat.le_trans hlw2 hk5.size
  replace hN4 := Nat.le_trans hN4 hk5.size
  replace hf8 := hf8.kept hk5
  refine bsl h47 rfl (bsl2_158_0_1 _ _ _ _ _ _) rfl fun a48 w6 g48 h48 hk6 hz48 hg48 => ?_
  have hleg48 := Nat.le_trans hB.size hz48
  have hneg3g48 := Nat.lt_of_lt_of_le hg3.lt hz48
  have hNhlw2g48 := Nat.le_trans hlw2 hz48
  have hNhN4g48 := Nat.le_trans hN4 hz48
  have hneg47g48 := Nat.lt_of_lt_of_le hg47.lt hz48
  replace hB := Kept.trans hB hk6
  replace hg3 := hg3.kept hk6
  replace hp2' := hp2'.kept hk6
  replace hlw2 := Nat.le_trans hlw2 hk6.size
  replace hN4 := Nat.le_trans hN4 hk6.size
  replace hf8 := hf8.kept hk6
  replace hg47 := hg47.kept hk6
  have hsz7 := hB.size
  have hlg37 := hg3.lt
  have hlg477 := hg47.lt
  have hlg487 := hg48.lt
  have hr47 := (Rws.of_blk hg47 (Vec.one (hf8.mono (S' := fun b => w.heap.size ≤ b) (fun b h => by omega))) 1 rfl (by omega)).mono (S' := fun b => w.heap.size ≤ b) (fun b h => by rcases h with rfl | h <;> omega)
  have hr48 := (Rrs.of_blk hg48 (Vec2.cons (hp2'.mono (S' := fun b => w.heap.size ≤ b) (fun b h => by omega)) (Vec2.cons hr47 (Vec2.nil _ _))) 2 rfl (by omega)).mono (S' := fun b => w.heap.size ≤ b) (fun b h => by rcases h with rfl | h <;> omega)
  refine cal h48 Try.call149 rfl (c_cjoined _ _ _ hr48 (by have := longPut_len 76 n.path hn1; simp; try omega)) rfl ?_
  rintro v7 w7 a49 ⟨hC7, hk7⟩ h49
  replace hB := Kept.trans hB hk7
  replace hlw2 := Nat.le_trans hlw2 hk7.size
  replace hN4 := Nat.le_trans hN4 hk7.size
  replace hC7 := hC7.lt
  have hlw7 := Nat.le_refl w7.heap.size
  refine asg h49 rfl rfl fun a50 h50 => ?_
  clear hK5 h44 h45 h46 h47 h48 h49 K5 a45 a46 a47 a48 a49
  refine wpL_nil (hK6 _ _ ?_)
  refine rtn (leave h50 (res1 h50 rfl (rvt rfl)) ?_)
  exact ⟨_, rfl, by unfold Pl.contRaw; rw [if_pos (by omega)]; have hX := hC7.mono (S' := fun b => w.heap.size ≤ b) (fun b h => by omega); simpa using hX, hB⟩
 ·
  have hp1 := of_decide_eq_false hb1
  refine cdf h7 rfl hb1 ?_
  refine skp (hK3 _ _ ?_)
  refine sq fun K7 hK7 => ?_
  clear hK4 hK3 K4 K3
  have hsW := hB.size
  have hN4 := Nat.le_refl w1.heap.size
  refine drw h7 [some 21, some 22, some 23, some 24, some 25, some 26, some 27, some 28, some 29, some 30, some 31, some 32, some 33, some 34, some 35, some 36, some 37, some 38, some 39, some 40, some 41, some 42, some 20, some 43, some 44, some 8, some 9] rfl [Fx (.pointer (some ⟨g3, 0, none⟩)), Fx (str n.path), Fx (.pointer (some ⟨g3, 0, none⟩)), Fx (str n.path), Fx (.int .i64 ((n.path : List UInt8).length : Int)), Fx (.int .i64 (min (n.path.length : Int) 100)), Fx (str (Pl.short n.path)), Fx (.pointer (some ⟨g3, 3, none⟩)), Fx (.int .i64 n.mode), Fx (.pointer (some ⟨g3, 4, none⟩)), Fx (.int .i64 n.uid), Fx (.pointer (some ⟨g3, 5, none⟩)), Fx (.int .i64 n.gid), Fx (.pointer (some ⟨g3, 6, none⟩)), Fx (.int .i64 n.mtime), Fx (.int .i64 whole), Fx (.int .i64 off), Fx (.int .i64 (whole - off)), Fx (.int .i64 off), Fx (.int .i64 whole), Fx (hdV (Pl.contHead n off whole)), fun v w' => ∃ q, v = .tuple #[q, .bool (Pl.putH (Pl.contHead n off whole)).isSome] ∧ Byt (fun b => w1.heap.size ≤ b) w' q ((Pl.putH (Pl.contHead n off whole)).getD []), fun v w' => ∃ q, v = .tuple #[q, .bool (Pl.putH (Pl.contHead n off whole)).isSome] ∧ Byt (fun b => w1.heap.size ≤ b) w' q ((Pl.putH (Pl.contHead n off whole)).getD []), fun v w' => Byt (fun b => w1.heap.size ≤ b) w' v ((Pl.putH (Pl.contHead n off whole)).getD []), Fx (.bool (Pl.putH (Pl.contHead n off whole)).isSome), fun v w' => Byt (fun b => w1.heap.size ≤ b) w' v ((Pl.putH (Pl.contHead n off whole)).getD []), Fx (.bool (Pl.putH (Pl.contHead n off whole)).isSome)] Kept rfl rfl rfl rfl (drewKept _) keptT (mcons mfx (mcons mfx (mcons mfx (mcons mfx (mcons mfx (mcons mfx (mcons mfx (mcons mfx (mcons mfx (mcons mfx (mcons mfx (mcons mfx (mcons mfx (mcons mfx (mcons mfx (mcons mfx (mcons mfx (mcons mfx (mcons mfx (mcons mfx (mcons mfx (mcons (fun v w w' hk h => ⟨h.choose, h.choose_spec.1, h.choose_spec.2.kept hk⟩) (mcons (fun v w w' hk h => ⟨h.choose, h.choose_spec.1, h.choose_spec.2.kept hk⟩) (mcons (fun v w w' hk h => h.kept hk) (mcons mfx (mcons (fun v w w' hk h => h.kept hk) (mcons mfx mnil))))))))))))))))))))))))))) ⟨?_, ?_, ?_, ?_, ?_, ?_, ?_, ?_, ?_, ?_, ?_, ?_, ?_, ?_, ?_, ?_, ?_, ?_, ?_, ?_, ?_, ?_, ?_, ?_, ?_, ?_, ?_, trivial⟩ ?_
  ·
   intro L a w_ hH hb hR hd ho
   have hl3 := hb 3 _ rfl
   refine fab hH hl3 Try.underlying32 rfl Try.sizeOf9 rfl 0 rfl rfl fun a51 h51 => ?_
   exact wpL_nil ⟨_, h51, Kept.refl _, rfl⟩
  ·
   intro L a w_ hH hb hR hd ho
   obtain ⟨_, hl21, rfl⟩ := hd 0 rfl
   replace hg3 := hg3.kept hR
   refine ldb hH hg3 hl21 Try.isAgg9 rfl rfl fun a52 h52 => ?_
   exact wpL_nil ⟨_, h52, Kept.refl _, rfl⟩
  ·
   intro L a w_ hH hb hR hd ho
   have hl3 := hb 3 _ rfl
   refine fab hH hl3 Try.underlying32 rfl Try.sizeOf9 rfl 0 rfl rfl fun a53 h53 => ?_
   exact wpL_nil ⟨_, h53, Kept.refl _, rfl⟩
  ·
   intro L a w_ hH hb hR hd ho
   obtain ⟨_, hl23, rfl⟩ := hd 2 rfl
   replace hg3 := hg3.kept hR
   refine ldb hH hg3 hl23 Try.isAgg9 rfl rfl fun a54 h54 => ?_
   exact wpL_nil ⟨_, h54, Kept.refl _, rfl⟩
  ·
   intro L a w_ hH hb hR hd ho
   obtain ⟨_, hl24, rfl⟩ := hd 3 rfl
   refine lens hH rfl Try.underlying9 hl24 rfl fun a55 h55 => ?_
   exact wpL_nil ⟨_, h55, Kept.refl _, rfl⟩
  ·
   intro L a w_ hH hb hR hd ho
   obtain ⟨_, hl25, rfl⟩ := hd 4 rfl
   refine minv hH hl25 rfl rfl fun a56 h56 => ?_
   exact wpL_nil ⟨_, h56, Kept.refl _, rfl⟩
  ·
   intro L a w_ hH hb hR hd ho
   obtain ⟨_, hl22, rfl⟩ := hd 1 rfl
   obtain ⟨_, hl26, rfl⟩ := hd 5 rfl
   refine slct (min n.path.length 100) hH Try.underlying9 hl22 ⟨_, hl26, by first | omega | (simp; omega)⟩ (by omega) rfl fun a57 h57 => ?_
   exact wpL_nil ⟨_, h57, Kept.refl _, rfl⟩
  ·
   intro L a w_ hH hb hR hd ho
   have hl3 := hb 3 _ rfl
   refine fab hH hl3 Try.underlying32 rfl Try.sizeOf3 rfl 3 rfl rfl fun a58 h58 => ?_
   exact wpL_nil ⟨_, h58, Kept.refl _, rfl⟩
  ·
   intro L a w_ hH hb hR hd ho
   obtain ⟨_, hl28, rfl⟩ := hd 7 rfl
   replace hg3 := hg3.kept hR
   refine ldb hH hg3 hl28 Try.isAgg3 rfl rfl fun a59 h59 => ?_
   exact wpL_nil ⟨_, h59, Kept.refl _, rfl⟩
  ·
   intro L a w_ hH hb hR hd ho
   have hl3 := hb 3 _ rfl
   refine fab hH hl3 Try.underlying32 rfl Try.sizeOf3 rfl 4 rfl rfl fun a60 h60 => ?_
   exact wpL_nil ⟨_, h60, Kept.refl _, rfl⟩
  ·
   intro L a w_ hH hb hR hd ho
   obtain ⟨_, hl30, rfl⟩ := hd 9 rfl
   replace hg3 := hg3.kept hR
   refine ldb hH hg3 hl30 Try.isAgg3 rfl rfl fun a61 h61 => ?_
   exact wpL_nil ⟨_, h61, Kept.refl _, rfl⟩
  ·
   intro L a w_ hH hb hR hd ho
   have hl3 := hb 3 _ rfl
   refine fab hH hl3 Try.underlying32 rfl Try.sizeOf3 rfl 5 rfl rfl fun a62 h62 => ?_
   exact wpL_nil ⟨_, h62, Kept.refl _, rfl⟩
  ·
   intro L a w_ hH hb hR hd ho
   obtain ⟨_, hl32, rfl⟩ := hd 11 rfl
   replace hg3 := hg3.kept hR
   refine ldb hH hg3 hl32 Try.isAgg3 rfl rfl fun a63 h63 => ?_
   exact wpL_nil ⟨_, h63, Kept.refl _, rfl⟩
  ·
   intro L a w_ hH hb hR hd ho
   have hl3 := hb 3 _ rfl
   refine fab hH hl3 Try.underlying32 rfl Try.sizeOf3 rfl 6 rfl rfl fun a64 h64 => ?_
   exact wpL_nil ⟨_, h64, Kept.refl _, rfl⟩
  ·
   intro L a w_ hH hb hR hd ho
   obtain ⟨_, hl34, rfl⟩ := hd 13 rfl
   replace hg3 := hg3.kept hR
   refine ldb hH hg3 hl34 Try.isAgg3 rfl rfl fun a65 h65 => ?_
   exact wpL_nil ⟨_, h65, Kept.refl _, rfl⟩
  ·
   intro L a w_ hH hb hR hd ho
   have hl2 := hb 2 _ rfl
   refine mv hH hl2 rfl fun a66 h66 => ?_
   exact wpL_nil ⟨_, h66, Kept.refl _, rfl⟩
  ·
   intro L a w_ hH hb hR hd ho
   have hl1 := hb 1 _ rfl
   refine mv hH hl1 rfl fun a67 h67 => ?_
   exact wpL_nil ⟨_, h67, Kept.refl _, rfl⟩
  ·
   intro L a w_ hH hb hR hd ho
   obtain ⟨_, hl36, rfl⟩ := hd 15 rfl
   obtain ⟨_, hl37, rfl⟩ := hd 16 rfl
   refine sub hH hl36 hl37 rfl (by omega) fun a68 h68 => ?_
   exact wpL_nil ⟨_, h68, Kept.refl _, rfl⟩
  ·
   intro L a w_ hH hb hR hd ho
   have hl1 := hb 1 _ rfl
   refine mv hH hl1 rfl fun a69 h69 => ?_
   exact wpL_nil ⟨_, h69, Kept.refl _, rfl⟩
  ·
   intro L a w_ hH hb hR hd ho
   have hl2 := hb 2 _ rfl
   refine mv hH hl2 rfl fun a70 h70 => ?_
   exact wpL_nil ⟨_, h70, Kept.refl _, rfl⟩
  ·
   intro L a w_ hH hb hR hd ho
   obtain ⟨_, hl27, rfl⟩ := hd 6 rfl
   obtain ⟨_, hl29, rfl⟩ := hd 8 rfl
   obtain ⟨_, hl31, rfl⟩ := hd 10 rfl
   obtain ⟨_, hl33, rfl⟩ := hd 12 rfl
   obtain ⟨_, hl35, rfl⟩ := hd 14 rfl
   obtain ⟨_, hl38, rfl⟩ := hd 17 rfl
   obtain ⟨_, hl39, rfl⟩ := hd 18 rfl
   obtain ⟨_, hl40, rfl⟩ := hd 19 rfl
   refine bld hH (evpc hl27 (evpc hl29 (evpc hl31 (evpc hl33 (evpc hl35 (evpc hl38 (evpc rfl (evpc hl39 (evpc hl40 evp0))))))))) (bld41_0_3_4_5_7_6_8_9_10 _ _ _ _ _ _ _ _ _) rfl fun a71 h71 => ?_
   exact wpL_nil ⟨_, h71, Kept.refl _, rfl⟩
  ·
   intro L a w_ hH hb hR hd ho
   obtain ⟨_, hl41, rfl⟩ := hd 20 rfl
   refine cal hH Try.call77 (evs1 hl41) (c_headPut (Pl.contHead n off whole) _ (contHead_range hrn hoff hwh)) rfl ?_
   rintro v8 w8 a72 ⟨⟨q, rfl, hq⟩, hk8⟩ h72
   exact wpL_nil ⟨_, h72, hk8, ⟨q, rfl, hq.mono (fun b hb => Nat.le_trans hR.size hb)⟩⟩
  ·
   intro L a w_ hH hb hR hd ho
   obtain ⟨v42, hl42, hf42⟩ := hd 21 rfl
   refine mv hH hl42 rfl fun a73 h73 => ?_
   exact wpL_nil ⟨_, h73, Kept.refl _, hf42⟩
  ·
   intro L a w_ hH hb hR hd ho
   obtain ⟨v20, hl20, hf20⟩ := hd 22 rfl
   obtain ⟨q20, rfl, hq20⟩ := hf20
   refine ext2_0 hH hl20 rfl fun a74 h74 => ?_
   exact wpL_nil ⟨_, h74, Kept.refl _, hq20⟩
  ·
   intro L a w_ hH hb hR hd ho
   obtain ⟨v20, hl20, hf20⟩ := hd 22 rfl
   obtain ⟨q20, rfl, hq20⟩ := hf20
   refine ext2_1 hH hl20 rfl fun a75 h75 => ?_
   exact wpL_nil ⟨_, h75, Kept.refl _, rfl⟩
  ·
   intro L a w_ hH hb hR hd ho
   obtain ⟨v43, hl43, hf43⟩ := hd 23 rfl
   refine asg hH hl43 rfl fun a76 h76 => ?_
   exact wpL_nil ⟨_, h76, Kept.refl _, hf43⟩
  ·
   intro L a w_ hH hb hR hd ho
   obtain ⟨_, hl44, rfl⟩ := hd 24 rfl
   refine asg hH hl44 rfl fun a77 h77 => ?_
   exact wpL_nil ⟨_, h77, Kept.refl _, rfl⟩
  intro L9 a78 w9 h78 hbh78 hRh78 hdh78
  obtain ⟨_, hl21, rfl⟩ := hdh78 0 (by decide)
  obtain ⟨_, hl22, rfl⟩ := hdh78 1 (by decide)
  obtain ⟨_, hl23, rfl⟩ := hdh78 2 (by decide)
  obtain ⟨_, hl24, rfl⟩ := hdh78 3 (by decide)
  obtain ⟨_, hl25, rfl⟩ := hdh78 4 (by decide)
  obtain ⟨_, hl26, rfl⟩ := hdh78 5 (by decide)
  obtain ⟨_, hl27, rfl⟩ := hdh78 6 (by decide)
  obtain ⟨_, hl28, rfl⟩ := hdh78 7 (by decide)
  obtain ⟨_, hl29, rfl⟩ := hdh78 8 (by decide)
  obtain ⟨_, hl30, rfl⟩ := hdh78 9 (by decide)
  obtain ⟨_, hl31, rfl⟩ := hdh78 10 (by decide)
  obtain ⟨_, hl32, rfl⟩ := hdh78 11 (by decide)
  obtain ⟨_, hl33, rfl⟩ := hdh78 12 (by decide)
  obtain ⟨_, hl34, rfl⟩ := hdh78 13 (by decide)
  obtain ⟨_, hl35, rfl⟩ := hdh78 14 (by decide)
  obtain ⟨_, hl36, rfl⟩ := hdh78 15 (by decide)
  obtain ⟨_, hl37, rfl⟩ := hdh78 16 (by decide)
  obtain ⟨_, hl38, rfl⟩ := hdh78 17 (by decide)
  obtain ⟨_, hl39, rfl⟩ := hdh78 18 (by decide)
  obtain ⟨_, hl40, rfl⟩ := hdh78 19 (by decide)
  obtain ⟨_, hl41, rfl⟩ := hdh78 20 (by decide)
  obtain ⟨v42, hl42, hf42⟩ := hdh78 21 (by decide)
  obtain ⟨v20, hl20, hf20⟩ := hdh78 22 (by decide)
  obtain ⟨v43, hl43, hf43⟩ := hdh78 23 (by decide)
  obtain ⟨_, hl44, rfl⟩ := hdh78 24 (by decide)
  obtain ⟨v8, hl8, hf8⟩ := hdh78 25 (by decide)
  obtain ⟨_, hl9, rfl⟩ := hdh78 26 (by decide)
  have h79 := Has.under h78 hbh78
  have h80 := (h78.add hl9 (h78.add hl8 (h78.add hl44 (h78.add hl43 (h78.add hl20 (h78.add hl42 (h78.add hl41 (h78.add hl40 (h78.add hl39 (h78.add hl38 (h78.add hl37 (h78.add hl36 (h78.add hl35 (h78.add hl34 (h78.add hl33 (h78.add hl32 (h78.add hl31 (h78.add hl30 (h78.add hl29 (h78.add hl28 (h78.add hl27 (h78.add hl26 (h78.add hl25 (h78.add hl24 (h78.add hl23 (h78.add hl22 (h78.add hl21 h79)))))))))))))))))))))))))))
  clear h79 hl21 hl22 hl23 hl24 hl25 hl26 hl27 hl28 hl29 hl30 hl31 hl32 hl33 hl34 hl35 hl36 hl37 hl38 hl39 hl40 hl41 hl42 hl20 hl43 hl44 hl8 hl9 hbh78 hdh78
  replace hB := Kept.trans hB hRh78
  replace hg3 := hg3.kept hRh78
  replace hN4 := Nat.le_trans hN4 hRh78.size
  obtain ⟨A8, c8, rfl⟩ := hf8.isl
  refine hK7 _ _ ?_
  refine sq fun K8 hK8 => ?_
  refine reg [some 45, some 46, some 47, some 48, some 49, some 6] rfl ?_
  refine mv h80 rfl rfl fun a81 h81 => ?_
  refine mv h81 rfl rfl fun a82 h82 => ?_
  refine bsl h82 rfl (bsl1_25_0 _ _ _) rfl fun a83 w10 g47 h83 hk10 hz47 hg47 => ?_
  have hleg47 := Nat.le_trans hB.size hz47
  have hneg3g47 := Nat.lt_of_lt_of_le hg3.lt hz47
  have hNhN4g47 := Nat.le_trans hN4 hz47
  replace hB := Kept.trans hB hk10
  replace hg3 := hg3.kept hk10
  replace hN4 := Nat.le_trans hN4 hk10.size
  replace hf8 := hf8.kept hk10
  refine bsl h83 rfl (bsl2_158_0_1 _ _ _ _ _ _) rfl fun a84 w11 g48 h84 hk11 hz48 hg48 => ?_
  have hleg48 := Nat.le_trans hB.size hz48
  have hneg3g48 := Nat.lt_of_lt_of_le hg3.lt hz48
  have hNhN4g48 := Nat.le_trans hN4 hz48
  have hneg47g48 := Nat.lt_of_lt_of_le hg47.lt hz48
  replace hB := Kept.trans hB hk11
  replace hg3 := hg3.kept hk11
  replace hN4 := Nat.le_trans hN4 hk11.size
  replace hf8 := hf8.kept hk11
  replace hg47 := hg47.kept hk11
  have hsz12 := hB.size
  have hlg312 := hg3.lt
  have hlg4712 := hg47.lt
  have hlg4812 := hg48.lt
  have hr47 := (Rws.of_blk hg47 (Vec.one (hf8.mono (S' := fun b => w.heap.size ≤ b) (fun b h => by omega))) 1 rfl (by omega)).mono (S' := fun b => w.heap.size ≤ b) (fun b h => by rcases h with rfl | h <;> omega)
  have hr48 := (Rrs.of_blk hg48 (Vec2.cons (Rws.nil (fun b => w.heap.size ≤ b) _) (Vec2.cons hr47 (Vec2.nil _ _))) 2 rfl (by omega)).mono (S' := fun b => w.heap.size ≤ b) (fun b h => by rcases h with rfl | h <;> omega)
  refine cal h84 Try.call149 rfl (c_cjoined _ _ _ hr48 (by have := longPut_len 76 n.path hn1; simp; try omega)) rfl ?_
  rintro v12 w12 a85 ⟨hC12, hk12⟩ h85
  replace hB := Kept.trans hB hk12
  replace hN4 := Nat.le_trans hN4 hk12.size
  replace hC12 := hC12.lt
  have hlw12 := Nat.le_refl w12.heap.size
  refine asg h85 rfl rfl fun a86 h86 => ?_
  clear hK7 h80 h81 h82 h83 h84 h85 K7 a81 a82 a83 a84 a85
  refine wpL_nil (hK8 _ _ ?_)
  refine rtn (leave h86 (res1 h86 rfl (rvt rfl)) ?_)
  exact ⟨_, rfl, by unfold Pl.contRaw; rw [if_neg (by omega)]; have hX := hC12.mono (S' := fun b => w.heap.size ≤ b) (fun b h => by omega); simpa using hX, hB⟩

end Go.Proofs.Ytpgeogdmjgmimaa
