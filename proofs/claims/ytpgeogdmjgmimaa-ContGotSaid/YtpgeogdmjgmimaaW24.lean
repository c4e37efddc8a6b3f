/-
  Walks, written by wip/gen/gen.py.
-/
import Derived.Test.YtpgeogdmjgmimaaW23
set_option linter.unusedVariables false
set_option linter.unusedSimpArgs false
set_option maxRecDepth 4000
namespace Go.Proofs.Ytpgeogdmjgmimaa
open Go Go.RowKit K

/-- A literal's value. -/
theorem bld32_  (w : World) : (Instr.build 32 [].toArray).run Try.prog w = .ok (.agg #[str [], str [], .int .u8 0, .int .i64 0, .int .i64 0, .int .i64 0, .int .i64 0, str []]) w := by kernel_rfl
theorem one_R64 {n : Pl.Nd} (h : Pl.one n = true) : NdR64 n := by
  have := one_parts h
  exact ⟨by omega, by omega, by omega, by omega⟩
theorem contMay_parts {n : Pl.Nd} {off : Int} (h : Pl.contMay n off = true) : n.kind = 48 ∧ Pl.one n = true ∧ 0 ≤ off ∧ off < n.data.length ∧ off % 512 = 0 := by
  unfold Pl.contMay Pl.isFile at h
  simp only [Bool.and_eq_true, decide_eq_true_eq] at h
  exact ⟨h.1.1, h.1.2, h.2.1, h.2.2.1, h.2.2.2⟩
theorem contPut_yes {n : Pl.Nd} {off : Int} (h : Pl.contMay n off = true) : Pl.contPut n off = some (Pl.contRaw n off n.data.length) := by unfold Pl.contPut; rw [if_pos h]
theorem contPut_no {n : Pl.Nd} {off : Int} (h : Pl.contMay n off = false) : Pl.contPut n off = none := by unfold Pl.contPut; rw [if_neg (by rw [h]; decide)]
def hasSuf (s t : List UInt8) : Bool := decide ((t.length : Int) ≤ s.length) && decide (s.drop (s.length - t.length) = t)
def trimSuf (s t : List UInt8) : List UInt8 := if hasSuf s t = true then s.take (s.length - t.length) else s
def nx (l : List (List UInt8)) (k : Nat) : Pl.Hd × Bool × Nat := match l[k]? with
  | none => (Pl.Hd.none, false, k)
  | some b => ((Pl.getH b).1, decide ((Pl.getH b).2 = 0), k + 1)
theorem nx_no {l : List (List UInt8)} {k : Nat} (h : l.length ≤ k) : nx l k = (Pl.Hd.none, false, k) := by unfold nx; rw [List.getElem?_eq_none h]
theorem nx_at {l : List (List UInt8)} {k : Nat} {b : List UInt8} (h : l[k]? = some b) : nx l k = ((Pl.getH b).1, decide ((Pl.getH b).2 = 0), k + 1) := by unfold nx; rw [h]

/-- cont.Put -/
theorem c_cPut (n : Pl.Nd) (off : Int) (w : World) (hn : NdL n) (ho : -9223372036854775808 ≤ off ∧ off ≤ 9223372036854775807) :
  C Try.prog 48 [ndV n, .int .i64 off] w fun v w' => (∃ q, v = .tuple #[q, .bool (Pl.contPut n off).isSome] ∧ Rws (fun b => w.heap.size ≤ b) w' q ((Pl.contPut n off).getD [])) ∧ Kept w w' := by
 obtain ⟨hn1, hn2, hn3⟩ := hn
 refine enterE Try.func48 rfl 16 rfl rfl fun a0 h0 => ?_
 have hB := Kept.refl w
 refine sq fun K1 hK1 => ?_
 refine reg [some 2, some 4, some 5] rfl ?_
 refine bxv h0 rfl rfl rfl fun a1 w1 g2 h1 hk1 hz2 hg2 => ?_
 have hleg2 := Nat.le_trans hB.size hz2
 replace hB := Kept.trans hB hk1
 refine asg h1 rfl rfl fun a2 h2 => ?_
 refine asg h2 rfl rfl fun a3 h3 => ?_
 clear h0 h1 h2 a0 a1 a2
 refine wpL_nil (hK1 _ _ ?_)
 refine sq fun K2 hK2 => ?_
 refine sq fun K3 hK3 => ?_
 refine reg [some 6, some 7, some 8, some 9] rfl ?_
 refine ldbn h3 hg2 ([str n.path, str n.link, u8 n.kind, .int .i64 n.mode, .int .i64 n.uid, .int .i64 n.gid, .int .i64 n.mtime, str n.data]) rfl Try.isAgg32 Try.sizeOf32 rfl rfl fun a4 h4 => ?_
 refine mv h4 rfl rfl fun a5 h5 => ?_
 refine cal h5 Try.call53 rfl (c_contMay _ _ _ ⟨hn1, hn2, hn3⟩ ⟨by omega, by omega⟩) rfl ?_
 rintro v2 w2 a6 ⟨rfl, hk2⟩ h6
 replace hB := Kept.trans hB hk2
 replace hg2 := hg2.kept hk2
 refine unot h6 rfl rfl fun a7 h7 => ?_
 clear hK1 h3 h4 h5 h6 K1 a3 a4 a5 a6
 refine wpL_nil (hK3 _ _ ?_)
 refine spl h7 (d := 9) rfl (fun hb1 => ?_) (fun hb1 => ?_)
 ·
  have hno := bunt hb1
  refine cdt h7 rfl (bnf (bunt hb1)) ?_
  refine sq fun K4 hK4 => ?_
  refine reg [some 4, some 5] rfl ?_
  refine asg h7 rfl rfl fun a8 h8 => ?_
  refine asg h8 rfl rfl fun a9 h9 => ?_
  clear hK3 h7 h8 K3 a7 a8
  refine wpL_nil (hK4 _ _ ?_)
  refine rtn (leave h9 (res2 h9 rfl (rvt rfl) (rvt rfl)) ?_)
  exact ⟨_, rfl, ⟨_, by rw [contPut_no hno]; rfl, by rw [contPut_no hno]; exact Rws.nil _ _⟩, hB⟩
 ·
  have hmay := bunf hb1
  have hcm := contMay_parts hmay
  refine cdf h7 rfl (bnt (bunf hb1)) ?_
  refine skp (hK2 _ _ ?_)
  refine sq fun K5 hK5 => ?_
  refine reg [some 10, some 11, some 12, some 13, some 14, some 15, some 4, some 5] rfl ?_
  refine ldbn h7 hg2 ([str n.path, str n.link, u8 n.kind, .int .i64 n.mode, .int .i64 n.uid, .int .i64 n.gid, .int .i64 n.mtime, str n.data]) rfl Try.isAgg32 Try.sizeOf32 rfl rfl fun a10 h10 => ?_
  refine mv h10 rfl rfl fun a11 h11 => ?_
  refine fab h11 rfl Try.underlying32 rfl Try.sizeOf9 rfl 7 rfl rfl fun a12 h12 => ?_
  refine ldb h12 hg2 rfl Try.isAgg9 rfl rfl fun a13 h13 => ?_
  refine lens h13 rfl Try.underlying9 rfl rfl fun a14 h14 => ?_
  have hsz3 := hB.size
  have hlg23 := hg2.lt
  refine cal h14 Try.call102 rfl (c_cput n _ _ _ ⟨hn1, hn2, hn3⟩ (one_R64 hcm.2.1) ⟨by omega, by omega⟩ ⟨by omega, by omega⟩) rfl ?_
  rintro v3 w3 a15 ⟨hC3, hk3⟩ h15
  replace hB := Kept.trans hB hk3
  replace hC3 := hC3.lt
  have hlw3 := Nat.le_refl w3.heap.size
  refine asg h15 rfl rfl fun a16 h16 => ?_
  refine asg h16 rfl rfl fun a17 h17 => ?_
  clear hK3 hK2 h7 h10 h11 h12 h13 h14 h15 h16 K3 K2 a7 a10 a11 a12 a13 a14 a15 a16
  refine wpL_nil (hK5 _ _ ?_)
  refine rtn (leave h17 (res2 h17 rfl (rvt rfl) (rvt rfl)) ?_)
  exact ⟨_, rfl, ⟨_, by rw [contPut_yes hmay]; rfl, by rw [contPut_yes hmay]; exact hC3.mono (fun b h => by omega)⟩, hB⟩

/-- cont.Get$1 -/
theorem c_cno  (w : World) :
  C Try.prog 105 [] w fun v w' => v = .tuple #[ndV Pl.Nd.none, .int .i64 0, .int .i64 0, .int .i64 0, .bool false] ∧ Kept w w' := by
 refine enterE Try.func105 rfl 6 rfl rfl fun a0 h0 => ?_
 have hB := Kept.refl w
 refine sq fun K1 hK1 => ?_
 refine reg [some 0, some 1, some 2, some 3, some 4] rfl ?_
 refine alc h0 Try.zeroValue32 rfl rfl fun a1 w1 g0 h1 hk1 hz0 hg0 => ?_
 have hleg0 := Nat.le_trans hB.size hz0
 replace hB := Kept.trans hB hk1
 refine asg h1 rfl rfl fun a2 h2 => ?_
 refine asg h2 rfl rfl fun a3 h3 => ?_
 refine asg h3 rfl rfl fun a4 h4 => ?_
 refine asg h4 rfl rfl fun a5 h5 => ?_
 clear h0 h1 h2 h3 h4 a0 a1 a2 a3 a4
 refine wpL_nil (hK1 _ _ ?_)
 refine sq fun K2 hK2 => ?_
 refine reg [some 5, none, some 1, some 2, some 3, some 4] rfl ?_
 refine bld h5 rfl (bld32_) rfl fun a6 h6 => ?_
 refine stb h6 hg0 rfl rfl _ rfl Try.sizeOf32 (nd_one Pl.Nd.none) _ (by simp) rfl fun w2 hg0' hk2 => ?_
 replace hB := Kept.but hB hk2 (by omega)
 clear hg0; have hg0 := hg0'; clear hg0'
 refine asg h6 rfl rfl fun a7 h7 => ?_
 refine asg h7 rfl rfl fun a8 h8 => ?_
 refine asg h8 rfl rfl fun a9 h9 => ?_
 refine asg h9 rfl rfl fun a10 h10 => ?_
 clear hK1 h5 h6 h7 h8 h9 K1 a5 a6 a7 a8 a9
 refine wpL_nil (hK2 _ _ ?_)
 refine rtn (leave h10 (res5 h10 rfl (rva (ndCells Pl.Nd.none) hg0 rfl Try.isAgg32 Try.sizeOf32 rfl) (rvt rfl) (rvt rfl) (rvt rfl) (rvt rfl)) ?_)
 exact ⟨_, rfl, rfl, hB⟩

/-- internal/stringslite.HasSuffix -/
theorem c_hasSuf (s t : List UInt8) (w : World) (hs : s.length ≤ 4611686018427387904) (ht : t.length ≤ 4611686018427387904) :
  C Try.prog 183 [str s, str t] w fun v w' => v = .bool (hasSuf s t) ∧ w = w' := by
 refine enterE Try.func183 rfl 21 rfl rfl fun a0 h0 => ?_
 have hB := Kept.refl w
 refine sq fun K1 hK1 => ?_
 refine reg [some 4] rfl ?_
 refine asg h0 rfl rfl fun a1 h1 => ?_
 clear h0 a0
 refine wpL_nil (hK1 _ _ ?_)
 refine sq fun K2 hK2 => ?_
 refine reg [some 5, some 6, some 7, some 8, some 9, some 10, some 11, some 12, some 13, some 14, some 15, some 16, some 17, some 18, some 19, some 20, some 4] rfl ?_
 refine mv h1 rfl rfl fun a2 h2 => ?_
 refine lens h2 rfl Try.underlying9 rfl rfl fun a3 h3 => ?_
 refine mv h3 rfl rfl fun a4 h4 => ?_
 refine lens h4 rfl Try.underlying9 rfl rfl fun a5 h5 => ?_
 refine geq h5 rfl rfl rfl fun a6 h6 => ?_
 refine mv h6 rfl rfl fun a7 h7 => ?_
 refine spl h7 (d := 10) rfl (fun hb1 => ?_) (fun hb1 => ?_)
 ·
  have hp1 := of_decide_eq_true hb1
  refine gon h7 (d := 10) rfl rfl hb1 ?_
  refine mv h7 rfl rfl fun a8 h8 => ?_
  refine gon h8 (d := 10) rfl rfl hb1 ?_
  refine mv h8 rfl rfl fun a9 h9 => ?_
  refine gon h9 (d := 10) rfl rfl hb1 ?_
  refine lens h9 rfl Try.underlying9 rfl rfl fun a10 h10 => ?_
  refine gon h10 (d := 10) rfl rfl hb1 ?_
  refine mv h10 rfl rfl fun a11 h11 => ?_
  refine gon h11 (d := 10) rfl rfl hb1 ?_
  refine lens h11 rfl Try.underlying9 rfl rfl fun a12 h12 => ?_
  refine gon h12 (d := 10) rfl rfl hb1 ?_
  refine sub h12 rfl rfl rfl (by omega) fun a13 h13 => ?_
  refine gon h13 (d := 10) rfl rfl hb1 ?_
  refine slcd (s.length - t.length) h13 Try.underlying9 rfl ⟨_, rfl, by first | omega | (simp; omega)⟩ (by omega) rfl fun a14 h14 => ?_
  refine gon h14 (d := 10) rfl rfl hb1 ?_
  refine mv h14 rfl rfl fun a15 h15 => ?_
  refine gon h15 (d := 10) rfl rfl hb1 ?_
  refine seq h15 rfl rfl rfl fun a16 h16 => ?_
  refine pkt h16 rfl hb1 rfl rfl fun a17 h17 => ?_
  refine asg h17 rfl rfl fun a18 h18 => ?_
  clear hK1 h1 h2 h3 h4 h5 h6 h7 h8 h9 h10 h11 h12 h13 h14 h15 h16 h17 K1 a1 a2 a3 a4 a5 a6 a7 a8 a9 a10 a11 a12 a13 a14 a15 a16 a17
  refine wpL_nil (hK2 _ _ ?_)
  refine rtn (leave h18 (res1 h18 rfl (rvt rfl)) ?_)
  exact ⟨_, rfl, by unfold hasSuf; rw [hb1]; rfl, rfl⟩
 ·
  have hp1 := of_decide_eq_false hb1
  refine goff h7 (d := 10) rfl rfl hb1 rfl fun a19 h19 => ?_
  refine goff h19 (d := 10) rfl rfl hb1 rfl fun a20 h20 => ?_
  refine goff h20 (d := 10) rfl rfl hb1 rfl fun a21 h21 => ?_
  refine goff h21 (d := 10) rfl rfl hb1 rfl fun a22 h22 => ?_
  refine goff h22 (d := 10) rfl rfl hb1 rfl fun a23 h23 => ?_
  refine goff h23 (d := 10) rfl rfl hb1 rfl fun a24 h24 => ?_
  refine goff h24 (d := 10) rfl rfl hb1 rfl fun a25 h25 => ?_
  refine goff h25 (d := 10) rfl rfl hb1 rfl fun a26 h26 => ?_
  refine goff h26 (d := 10) rfl rfl hb1 rfl fun a27 h27 => ?_
  refine pkf h27 rfl hb1 rfl rfl fun a28 h28 => ?_
  refine asg h28 rfl rfl fun a29 h29 => ?_
  clear hK1 h1 h2 h3 h4 h5 h6 h7 h19 h20 h21 h22 h23 h24 h25 h26 h27 h28 K1 a1 a2 a3 a4 a5 a6 a7 a19 a20 a21 a22 a23 a24 a25 a26 a27 a28
  refine wpL_nil (hK2 _ _ ?_)
  refine rtn (leave h29 (res1 h29 rfl (rvt rfl)) ?_)
  exact ⟨_, rfl, by unfold hasSuf; rw [hb1]; rfl, rfl⟩

/-- internal/stringslite.TrimSuffix -/
theorem c_trimSuf1 (s t : List UInt8) (w : World) (hs : s.length ≤ 4611686018427387904) (ht : t.length ≤ 4611686018427387904) :
  C Try.prog 157 [str s, str t] w fun v w' => v = str (trimSuf s t) ∧ w = w' := by
 refine enterE Try.func157 rfl 16 rfl rfl fun a0 h0 => ?_
 have hB := Kept.refl w
 refine sq fun K1 hK1 => ?_
 refine reg [some 4] rfl ?_
 refine asg h0 rfl rfl fun a1 h1 => ?_
 clear h0 a0
 refine wpL_nil (hK1 _ _ ?_)
 refine sq fun K2 hK2 => ?_
 refine sq fun K3 hK3 => ?_
 refine reg [some 5, some 6, some 7] rfl ?_
 refine mv h1 rfl rfl fun a2 h2 => ?_
 refine mv h2 rfl rfl fun a3 h3 => ?_
 refine cal h3 Try.call183 rfl (c_hasSuf _ _ _ (by omega) (by omega)) rfl ?_
 rintro v1 w1 a4 ⟨rfl, rfl⟩ h4
 clear hK1 h1 h2 h3 K1 a1 a2 a3
 refine wpL_nil (hK3 _ _ ?_)
 refine spl h4 (d := 7) rfl (fun hb1 => ?_) (fun hb1 => ?_)
 ·
  have hsl : t.length ≤ s.length := by unfold hasSuf at hb1; simp at hb1; omega
  refine cdt h4 rfl hb1 ?_
  refine sq fun K4 hK4 => ?_
  refine reg [some 8, some 9, some 10, some 11, some 12, some 13, some 14, some 4] rfl ?_
  refine mv h4 rfl rfl fun a5 h5 => ?_
  refine mv h5 rfl rfl fun a6 h6 => ?_
  refine lens h6 rfl Try.underlying9 rfl rfl fun a7 h7 => ?_
  refine mv h7 rfl rfl fun a8 h8 => ?_
  refine lens h8 rfl Try.underlying9 rfl rfl fun a9 h9 => ?_
  refine sub h9 rfl rfl rfl (by omega) fun a10 h10 => ?_
  refine slct (s.length - t.length) h10 Try.underlying9 rfl ⟨_, rfl, by first | omega | (simp; omega)⟩ (by omega) rfl fun a11 h11 => ?_
  refine asg h11 rfl rfl fun a12 h12 => ?_
  clear hK3 h4 h5 h6 h7 h8 h9 h10 h11 K3 a4 a5 a6 a7 a8 a9 a10 a11
  refine wpL_nil (hK4 _ _ ?_)
  refine rtn (leave h12 (res1 h12 rfl (rvt rfl)) ?_)
  exact ⟨_, rfl, by unfold trimSuf; rw [if_pos hb1], rfl⟩
 ·
  refine cdf h4 rfl hb1 ?_
  refine skp (hK2 _ _ ?_)
  refine sq fun K5 hK5 => ?_
  refine reg [some 15, some 4] rfl ?_
  refine mv h4 rfl rfl fun a13 h13 => ?_
  refine asg h13 rfl rfl fun a14 h14 => ?_
  clear hK3 hK2 h4 h13 K3 K2 a4 a13
  refine wpL_nil (hK5 _ _ ?_)
  refine rtn (leave h14 (res1 h14 rfl (rvt rfl)) ?_)
  exact ⟨_, rfl, by unfold trimSuf; rw [if_neg (by rw [hb1]; decide)], rfl⟩

/-- strings.TrimSuffix -/
theorem c_trimSuf (s t : List UInt8) (w : World) (hs : s.length ≤ 4611686018427387904) (ht : t.length ≤ 4611686018427387904) :
  C Try.prog 107 [str s, str t] w fun v w' => v = str (trimSuf s t) ∧ w = w' := by
 refine enterE Try.func107 rfl 8 rfl rfl fun a0 h0 => ?_
 have hB := Kept.refl w
 refine sq fun K1 hK1 => ?_
 refine reg [some 4] rfl ?_
 refine asg h0 rfl rfl fun a1 h1 => ?_
 clear h0 a0
 refine wpL_nil (hK1 _ _ ?_)
 refine sq fun K2 hK2 => ?_
 refine reg [some 5, some 6, some 7, some 4] rfl ?_
 refine mv h1 rfl rfl fun a2 h2 => ?_
 refine mv h2 rfl rfl fun a3 h3 => ?_
 refine cal h3 Try.call157 rfl (c_trimSuf1 _ _ _ (by omega) (by omega)) rfl ?_
 rintro v1 w1 a4 ⟨rfl, rfl⟩ h4
 refine asg h4 rfl rfl fun a5 h5 => ?_
 clear hK1 h1 h2 h3 h4 K1 a1 a2 a3 a4
 refine wpL_nil (hK2 _ _ ?_)
 refine rtn (leave h5 (res1 h5 rfl (rvt rfl)) ?_)
 exact ⟨_, rfl, rfl, rfl⟩

set_option maxHeartbeats 1000000 in
/-- cont.Get$2 -/
theorem c_cnext {S : Nat → Prop} (g9 g1 : Nat) (lv : Value) (l : List (List UInt8)) (k : Nat) (w : World) (hk0 : k ≤ 1000) (hg9 : Blk w g9 3 [.int .i64 (k : Int)]) (hg1 : Blk w g1 25 [lv]) (hv : Rws S w lv l) (hne : g1 ≠ g9) (hSg : ¬ S g9) :
  C Try.prog 106 [.pointer (some ⟨g9, 0, none⟩), .pointer (some ⟨g1, 0, none⟩)] w fun v w' => v = .tuple #[hdV (nx l k).1, .bool (nx l k).2.1] ∧ Blk w' g9 3 [.int .i64 ((nx l k).2.2 : Int)] ∧ But g9 w w' := by
 replace hv := hv.lt
 have hgl9 := hg9.lt
 have hgl1 := hg1.lt
 have hbd := hv.bound
 refine enterE Try.func106 rfl 24 rfl rfl fun a0 h0 => ?_
 have hB := But.refl g9 w
 refine sq fun K1 hK1 => ?_
 refine reg [some 2, some 3] rfl ?_
 refine alc h0 Try.zeroValue41 rfl rfl fun a1 w1 g2 h1 hk1 hz2 hg2 => ?_
 have hleg2 := Nat.le_trans hB.size hz2
 have hneg9g2 := Nat.lt_of_lt_of_le hg9.lt hz2
 have hneg1g2 := Nat.lt_of_lt_of_le hg1.lt hz2
 replace hB := But.trans hB (Kept.toBut hk1 _)
 replace hg9 := hg9.kept hk1
 replace hg1 := hg1.kept hk1
 replace hv := hv.kept hk1
 refine asg h1 rfl rfl fun a2 h2 => ?_
 clear h0 h1 a0 a1
 refine wpL_nil (hK1 _ _ ?_)
 refine sq fun K2 hK2 => ?_
 refine sq fun K3 hK3 => ?_
 refine reg [some 6, some 7, some 8, some 9] rfl ?_
 refine ldb h2 hg9 rfl Try.isAgg3 rfl rfl fun a3 h3 => ?_
 refine ldb h3 hg1 rfl Try.isAgg25 rfl rfl fun a4 h4 => ?_
 refine lnx h4 rfl Try.underlying25 rfl hv.isl rfl fun a5 h5 => ?_
 refine geq h5 rfl rfl rfl fun a6 h6 => ?_
 clear hK1 h2 h3 h4 h5 K1 a2 a3 a4 a5
 refine wpL_nil (hK3 _ _ ?_)
 refine spl h6 (d := 9) rfl (fun hb1 => ?_) (fun hb1 => ?_)
 ·
  have hp1 := of_decide_eq_true hb1
  have hge := of_decide_eq_true hb1
  refine cdt h6 rfl hb1 ?_
  refine sq fun K4 hK4 => ?_
  refine reg [some 10, none, some 3] rfl ?_
  refine bld h6 rfl (bld41_) rfl fun a7 h7 => ?_
  refine stb h7 hg2 rfl rfl _ rfl Try.sizeOf41 (by first | exact hd_one _ | exact hd_one Pl.Hd.none | (simp [Value.oneCell']; done)) _ (by first | (simp [hdCells]; done) | simp) rfl fun w2 hg2' hk2 => ?_
  replace hB := But.other hB hk2 (by omega)
  replace hg9 := hg9.but hk2 (by omega)
  replace hv := hv.but hk2 (by intro h; have := h.2; omega)
  clear hg2; have hg2 := hg2'; clear hg2'
  refine asg h7 rfl rfl fun a8 h8 => ?_
  clear hK3 h6 h7 K3 a6 a7
  refine wpL_nil (hK4 _ _ ?_)
  refine rtn (leave h8 (res2 h8 rfl (rva (hdCells Pl.Hd.none) hg2 rfl Try.isAgg41 Try.sizeOf41 rfl) (rvt rfl)) ?_)
  exact ⟨_, rfl, by rw [nx_no (by omega)]; rfl, by rw [nx_no (by omega)]; exact hg9, hB⟩
 ·
  have hp1 := of_decide_eq_false hb1
  have hlt := of_decide_eq_false hb1
  obtain ⟨x, hx⟩ : ∃ x, l[k]? = some x := ⟨_, List.getElem?_eq_getElem (by omega)⟩
  refine cdf h6 rfl hb1 ?_
  refine skp (hK2 _ _ ?_)
  refine sq fun K5 hK5 => ?_
  refine reg [some 12, some 13, some 14, some 15, some 16, some 11, some 17, some 18, some 4, none, some 5] rfl ?_
  refine ldb h6 hg1 rfl Try.isAgg25 rfl rfl fun a9 h9 => ?_
  refine ldb h9 hg9 rfl Try.isAgg3 rfl rfl fun a10 h10 => ?_
  refine ixR (k := k) hv h10 rfl rfl Try.underlying25 Try.sizeOf35 Try.isAgg35 (by simp) (hx) rfl rfl fun a11 z14 v15' h11 hs15 => ?_
  refine cal h11 Try.call36 rfl (c_headGet _ _ _ hs15) rfl ?_
  rintro v3 w3 a12 ⟨rfl, hk3⟩ h12
  replace hB := But.trans hB (Kept.toBut hk3 _)
  replace hg9 := hg9.kept hk3
  replace hg1 := hg1.kept hk3
  replace hv := hv.kept hk3
  replace hg2 := hg2.kept hk3
  replace hs15 := hs15.kept hk3
  refine mv h12 rfl rfl fun a13 h13 => ?_
  refine ext2_0 h13 rfl rfl fun a14 h14 => ?_
  refine ext2_1 h14 rfl rfl fun a15 h15 => ?_
  refine alc h15 Try.zeroValue41 rfl rfl fun a16 w4 g4 h16 hk4 hz4 hg4 => ?_
  have hleg4 := Nat.le_trans hB.size hz4
  have hneg9g4 := Nat.lt_of_lt_of_le hg9.lt hz4
  have hneg1g4 := Nat.lt_of_lt_of_le hg1.lt hz4
  have hneg2g4 := Nat.lt_of_lt_of_le hg2.lt hz4
  replace hB := But.trans hB (Kept.toBut hk4 _)
  replace hg9 := hg9.kept hk4
  replace hv := hv.kept hk4
  replace hg2 := hg2.kept hk4
  replace hs15 := hs15.kept hk4
  refine stb h16 hg4 rfl rfl _ rfl Try.sizeOf41 (by first | exact hd_one _ | exact hd_one Pl.Hd.none | (simp [Value.oneCell']; done)) _ (by first | (simp [hdCells]; done) | simp) rfl fun w5 hg4' hk5 => ?_
  replace hB := But.other hB hk5 (by omega)
  replace hg9 := hg9.but hk5 (by omega)
  replace hv := hv.but hk5 (by intro h; have := h.2; omega)
  replace hg2 := hg2.but hk5 (by omega)
  replace hs15 := hs15.but hk5 (by intro h; have := h.2; omega)
  clear hg4; have hg4 := hg4'; clear hg4'
  refine asg h16 rfl rfl fun a17 h17 => ?_
  clear hK3 hK2 h6 h9 h10 h11 h12 h13 h14 h15 h16 K3 K2 a6 a9 a10 a11 a12 a13 a14 a15 a16
  refine wpL_nil (hK5 _ _ ?_)
  refine sq fun K6 hK6 => ?_
  refine reg [some 19, some 20, none] rfl ?_
  refine ldb h17 hg9 rfl Try.isAgg3 rfl rfl fun a18 h18 => ?_
  refine add h18 rfl rfl rfl (by omega) fun a19 h19 => ?_
  refine stb h19 hg9 rfl rfl _ rfl Try.sizeOf3 (by simp [Value.oneCell']) _ (by first | (simp [hdCells]; done) | simp) rfl fun w6 hg9' hk6 => ?_
  replace hB := But.trans hB hk6
  clear hg9; have hg9 := hg9'; clear hg9'
  replace hv := hv.but hk6 (fun h => hSg h.1)
  replace hg2 := hg2.but hk6 (by omega)
  replace hg4 := hg4.but hk6 (by omega)
  clear hK5 h17 h18 K5 a17 a18
  refine wpL_nil (hK6 _ _ ?_)
  refine sq fun K7 hK7 => ?_
  refine reg [some 21, some 22, some 23, none, some 3] rfl ?_
  refine ldbn h19 hg4 (hdCells (Pl.getH x).1) rfl Try.isAgg41 Try.sizeOf41 rfl rfl fun a20 h20 => ?_
  refine mv h20 rfl rfl fun a21 h21 => ?_
  refine ieq h21 rfl rfl rfl fun a22 h22 => ?_
  refine stb h22 hg2 rfl rfl _ rfl Try.sizeOf41 (by first | exact hd_one _ | exact hd_one Pl.Hd.none | (simp [Value.oneCell']; done)) _ (by first | (simp [hdCells]; done) | simp) rfl fun w7 hg2' hk7 => ?_
  replace hB := But.other hB hk7 (by omega)
  replace hg9 := hg9.but hk7 (by omega)
  replace hv := hv.but hk7 (by intro h; have := h.2; omega)
  clear hg2; have hg2 := hg2'; clear hg2'
  refine asg h22 rfl rfl fun a23 h23 => ?_
  clear hK6 h19 h20 h21 h22 K6 a19 a20 a21 a22
  refine wpL_nil (hK7 _ _ ?_)
  refine rtn (leave h23 (res2 h23 rfl (rva (hdCells (Pl.getH x).1) hg2 rfl Try.isAgg41 Try.sizeOf41 rfl) (rvt rfl)) ?_)
  exact ⟨_, rfl, by rw [nx_at hx]; rfl, by rw [nx_at hx]; have hX := hg9; simpa using hX, hB⟩

end Go.Proofs.Ytpgeogdmjgmimaa
