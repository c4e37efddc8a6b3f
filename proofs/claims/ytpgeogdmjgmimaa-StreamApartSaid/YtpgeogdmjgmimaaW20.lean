/-
  Walks, written by wip/gen/gen.py.
-/
import Derived.Test.YtpgeogdmjgmimaaW19
import Derived.Test.YtpgeogdmjgmimaaPEnt
set_option linter.unusedVariables false
set_option linter.unusedSimpArgs false
set_option maxRecDepth 4000
namespace Go.Proofs.Ytpgeogdmjgmimaa
open Go Go.RowKit K

/-- A literal's value. -/
theorem bld32_0_2_7 (x0 : ByteArray) (x2 : Int) (x7 : ByteArray) (w : World) : (Instr.build 32 [(0, (.string x0)), (2, (.int .u8 x2)), (7, (.string x7))].toArray).run Try.prog w = .ok (.agg #[.string x0, str [], .int .u8 x2, .int .i64 0, .int .i64 0, .int .i64 0, .int .i64 0, .string x7]) w := by kernel_rfl
theorem eqg41 : Try.prog.eqGuardType Try.prog.depth 41 = false := by kernel_rfl
theorem eqHD (n m : Pl.Hd) (w : World) : (Op.equalIn 10000 41 (.agg (hdCells n).toArray) (.agg (hdCells m).toArray)).run Try.prog w = .ok (decide (n = m)) w := by
  have u3 := Try.underlying3
  have a3 := Try.isAgg3
  have z3 := Try.sizeOf3
  have u5 := Try.underlying5
  have a5 := Try.isAgg5
  have z5 := Try.sizeOf5
  have u9 := Try.underlying9
  have a9 := Try.isAgg9
  have z9 := Try.sizeOf9
  have hS : Try.prog.underlying 41 = some (.struct (Try.prog.fieldsOf 41)) := by kernel_rfl
  have hp : Try.prog.stoodInHeld 41 = false := by kernel_rfl
  rw [show (10000 : Nat) = 9999 + 1 from rfl, run_equalIn_agg w 9999 41 _ _ hS hp]
  simp only [Program.fieldsOf, Try.underlying41, hdCells]
  go_simp
  obtain ⟨n1, n2, n3, n4, n5, n6, n7, n8, n9, n10, n11⟩ := n
  obtain ⟨m1, m2, m3, m4, m5, m6, m7, m8, m9, m10, m11⟩ := m
  simp only [byteArray_toList, Pl.Hd.mk.injEq, u8inj]
  by_cases e1 : n1 = m1
  · by_cases e2 : n2 = m2
    · by_cases e3 : n3 = m3
      · by_cases e4 : n4 = m4
        · by_cases e5 : n5 = m5
          · by_cases e6 : n6 = m6
            · by_cases e7 : n7 = m7
              · by_cases e8 : n8 = m8
                · by_cases e9 : n9 = m9
                  · by_cases e10 : n10 = m10
                    · simp [e1, e2, e3, e4, e5, e6, e7, e8, e9, e10]; split <;> simp_all
                    · simp [e10]
                  · simp [e9]
                · simp [e8]
              · simp [e7]
            · simp [e6]
          · simp [e5]
        · simp [e4]
      · simp [e3]
    · simp [e2]
  · simp [e1]
def wk7 : Pl.Nd := { Pl.Nd.none with path := [97], kind := 48, data := List.replicate 513 0 }
theorem wk7_one : Pl.one wk7 = true := by decide +kernel
theorem wk7_L : NdL wk7 := by refine ⟨?_, ?_, ?_⟩ <;> decide
theorem wk7_data : Pl.entData wk7 = 2 := by rw [Pl.entData_eq wk7_one, Pl.cutB_len2]; rfl
theorem wk7_len : (Pl.entPut wk7).length = 3 := by
  rw [Pl.entPut_eq wk7_one, Pl.ahead_eq wk7_one]
  have h1 : (Pl.needs wk7).1 = false := by decide +kernel
  rw [if_neg (by decide), h1, if_neg (by decide), List.nil_append, List.nil_append, List.length_cons, Pl.cutB_len2]; rfl
theorem entHd_one {n : Pl.Nd} (h : Pl.one n = true) : entHd n = Pl.entHead n := by unfold entHd; rw [if_pos h]

/-- reelkeeperlaw07.awake -/
theorem c_wake07  (w : World) :
  C Try.prog 39 [] w fun v w' => v = .bool true ∧ Kept w w' := by
 refine enterE Try.func39 rfl 43 rfl rfl fun a0 h0 => ?_
 have hB := Kept.refl w
 refine sq fun K1 hK1 => ?_
 refine reg [some 0] rfl ?_
 refine asg h0 rfl rfl fun a1 h1 => ?_
 clear h0 a0
 refine wpL_nil (hK1 _ _ ?_)
 refine sq fun K2 hK2 => ?_
 refine reg [some 6, some 7, some 8, some 1, none] rfl ?_
 refine mks h1 (m := 513) (z := .int .u8 0) rfl rfl (by omega) Try.underlying35 (b := 1) (by kernel_rfl) rfl (by omega) (by omega) rfl fun a2 w1 g6 h2 hk1 hz6 hg6 => ?_
 have hleg6 := Nat.le_trans hB.size hz6
 replace hB := Kept.trans hB hk1
 refine btos h2 rfl Try.underlying35 Try.underlying5 Try.underlying9 (Blk.byt (bs := List.replicate 513 0) (by rw [List.map_replicate]; exact hg6) 513 (by rw [List.length_replicate]) (by simp) (by omega)) rfl fun a3 h3 => ?_
 refine bld h3 rfl (bld32_0_2_7 _ _ _) rfl fun a4 h4 => ?_
 refine alc h4 Try.zeroValue32 rfl rfl fun a5 w2 g1 h5 hk2 hz1 hg1 => ?_
 have hleg1 := Nat.le_trans hB.size hz1
 have hneg6g1 := Nat.lt_of_lt_of_le hg6.lt hz1
 replace hB := Kept.trans hB hk2
 replace hg6 := hg6.kept hk2
 refine stb h5 hg1 rfl rfl _ rfl Try.sizeOf32 (by first | exact nd_one wk7 | exact hd_one _ | (simp [Value.oneCell']; done)) _ (by first | (simp; done) | (simp [hdCells]; done)) rfl fun w3 hg1' hk3 => ?_
 replace hB := Kept.but hB hk3 (by omega)
 replace hg6 := hg6.but hk3 (by omega)
 clear hg1; have hg1 := hg1'; clear hg1'
 clear hK1 h1 h2 h3 h4 K1 a1 a2 a3 a4
 refine wpL_nil (hK2 _ _ ?_)
 refine sq fun K3 hK3 => ?_
 refine reg [some 10, some 11, some 9, some 12, some 13, some 2, some 3] rfl ?_
 refine ldbn h5 hg1 (ndCells wk7) rfl Try.isAgg32 Try.sizeOf32 rfl rfl fun a6 h6 => ?_
 have hsz4 := hB.size
 have hlg64 := hg6.lt
 have hlg14 := hg1.lt
 refine cal h6 Try.call29 rfl (c_ePut wk7 _ wk7_L) rfl ?_
 rintro v4 w4 a7 ⟨⟨qp4, rfl, hp4'⟩, hk4⟩ h7
 replace hB := Kept.trans hB hk4
 replace hg6 := hg6.kept hk4
 replace hg1 := hg1.kept hk4
 replace hp4' := hp4'.lt
 have hlw4 := Nat.le_refl w4.heap.size
 refine mv h7 rfl rfl fun a8 h8 => ?_
 refine ext2_0 h8 rfl rfl fun a9 h9 => ?_
 refine ext2_1 h9 rfl rfl fun a10 h10 => ?_
 refine asg h10 rfl rfl fun a11 h11 => ?_
 refine asg h11 rfl rfl fun a12 h12 => ?_
 clear hK2 h5 h6 h7 h8 h9 h10 h11 K2 a5 a6 a7 a8 a9 a10 a11
 refine wpL_nil (hK3 _ _ ?_)
 refine sq fun K4 hK4 => ?_
 refine reg [some 15, some 16, some 14, some 17, some 18, some 4, none, some 5] rfl ?_
 refine ldbn h12 hg1 (ndCells wk7) rfl Try.isAgg32 Try.sizeOf32 rfl rfl fun a13 h13 => ?_
 refine cal h13 Try.call43 rfl (c_eHead wk7 _ wk7_L) rfl ?_
 rintro v5 w5 a14 ⟨rfl, hk5⟩ h14
 replace hB := Kept.trans hB hk5
 replace hg6 := hg6.kept hk5
 replace hg1 := hg1.kept hk5
 replace hp4' := hp4'.kept hk5
 replace hlw4 := Nat.le_trans hlw4 hk5.size
 refine mv h14 rfl rfl fun a15 h15 => ?_
 refine ext2_0 h15 rfl rfl fun a16 h16 => ?_
 refine ext2_1 h16 rfl rfl fun a17 h17 => ?_
 refine alc h17 Try.zeroValue41 rfl rfl fun a18 w6 g4 h18 hk6 hz4 hg4 => ?_
 have hleg4 := Nat.le_trans hB.size hz4
 have hneg6g4 := Nat.lt_of_lt_of_le hg6.lt hz4
 have hneg1g4 := Nat.lt_of_lt_of_le hg1.lt hz4
 have hNhlw4g4 := Nat.le_trans hlw4 hz4
 replace hB := Kept.trans hB hk6
 replace hg1 := hg1.kept hk6
 replace hp4' := hp4'.kept hk6
 replace hlw4 := Nat.le_trans hlw4 hk6.size
 refine stb h18 hg4 rfl rfl _ rfl Try.sizeOf41 (by first | exact nd_one wk7 | exact hd_one _ | (simp [Value.oneCell']; done)) _ (by first | (simp; done) | (simp [hdCells]; done)) rfl fun w7 hg4' hk7 => ?_
 replace hB := Kept.but hB hk7 (by omega)
 replace hg1 := hg1.but hk7 (by omega)
 replace hp4' := hp4'.but hk7 (by first | (show ¬ (_ < _); omega) | (simp; omega))
 replace hlw4 := Nat.le_trans hlw4 hk7.size
 clear hg4; have hg4 := hg4'; clear hg4'
 refine asg h18 rfl rfl fun a19 h19 => ?_
 clear hK3 h12 h13 h14 h15 h16 h17 h18 K3 a12 a13 a14 a15 a16 a17 a18
 refine wpL_nil (hK4 _ _ ?_)
 refine sq fun K5 hK5 => ?_
 refine reg [some 19, some 20, some 21, some 22, some 23, some 24, some 25, some 26, some 27, some 28, some 29, some 30, some 31, some 32, some 33, some 34, some 35, some 36, some 37, some 38, some 39, some 40, some 41, some 42, some 0] rfl ?_
 refine mv h19 rfl rfl fun a20 h20 => ?_
 refine mv h20 rfl rfl fun a21 h21 => ?_
 refine knownT h21 (d := 20) rfl (wk7_one) fun hb1 => ?_
 refine gon h21 (d := 20) rfl rfl hb1 ?_
 refine mv h21 rfl rfl fun a22 h22 => ?_
 refine gon h22 (d := 20) rfl rfl hb1 ?_
 refine lnx h22 rfl Try.underlying25 rfl hp4'.isl rfl fun a23 h23 => ?_
 refine gon h23 (d := 20) rfl rfl hb1 ?_
 refine ieq h23 rfl rfl rfl fun a24 h24 => ?_
 refine pkt h24 rfl hb1 rfl rfl fun a25 h25 => ?_
 refine mv h25 rfl rfl fun a26 h26 => ?_
 refine knownT h26 (d := 25) rfl (by rw [wk7_len]; rfl) fun hb3 => ?_
 have hp3 := of_decide_eq_true hb3
 refine gon h26 (d := 25) rfl rfl hb3 ?_
 refine ldbn h26 hg1 (ndCells wk7) rfl Try.isAgg32 Try.sizeOf32 rfl rfl fun a27 h27 => ?_
 refine gon h27 (d := 25) rfl rfl hb3 ?_
 refine cal h27 Try.call44 rfl (c_eMany wk7 _ wk7_L) rfl ?_
 rintro v8 w8 a28 ⟨rfl, hk8⟩ h28
 replace hB := Kept.trans hB hk8
 replace hg1 := hg1.kept hk8
 replace hlw4 := Nat.le_trans hlw4 hk8.size
 replace hg4 := hg4.kept hk8
 refine gon h28 (d := 25) rfl rfl hb3 ?_
 refine ieq h28 rfl rfl rfl fun a29 h29 => ?_
 refine pkt h29 rfl hb3 rfl rfl fun a30 h30 => ?_
 refine mv h30 rfl rfl fun a31 h31 => ?_
 refine knownT h31 (d := 30) rfl (by rw [wk7_len]; rfl) fun hb4 => ?_
 have hp4 := of_decide_eq_true hb4
 refine gon h31 (d := 30) rfl rfl hb4 ?_
 refine ldbn h31 hg1 (ndCells wk7) rfl Try.isAgg32 Try.sizeOf32 rfl rfl fun a32 h32 => ?_
 refine gon h32 (d := 30) rfl rfl hb4 ?_
 refine cal h32 Try.call42 rfl (c_eData wk7 _ wk7_L) rfl ?_
 rintro v9 w9 a33 ⟨rfl, hk9⟩ h33
 replace hB := Kept.trans hB hk9
 replace hlw4 := Nat.le_trans hlw4 hk9.size
 replace hg4 := hg4.kept hk9
 refine gon h33 (d := 30) rfl rfl hb4 ?_
 refine ieq h33 rfl rfl rfl fun a34 h34 => ?_
 refine pkt h34 rfl hb4 rfl rfl fun a35 h35 => ?_
 refine mv h35 rfl rfl fun a36 h36 => ?_
 refine knownT h36 (d := 35) rfl (by rw [wk7_data]; rfl) fun hb5 => ?_
 have hp5 := of_decide_eq_true hb5
 refine gon h36 (d := 35) rfl rfl hb5 ?_
 refine mv h36 rfl rfl fun a37 h37 => ?_
 refine pkt h37 rfl hb5 rfl rfl fun a38 h38 => ?_
 refine mv h38 rfl rfl fun a39 h39 => ?_
 refine knownT h39 (d := 38) rfl (wk7_one) fun hb2 => ?_
 refine gon h39 (d := 38) rfl rfl hb2 ?_
 refine fab h39 rfl Try.underlying41 rfl Try.sizeOf3 rfl 6 rfl rfl fun a40 h40 => ?_
 refine gon h40 (d := 38) rfl rfl hb2 ?_
 refine ldb h40 hg4 rfl Try.isAgg3 rfl rfl fun a41 h41 => ?_
 refine gon h41 (d := 38) rfl rfl hb2 ?_
 refine ieq h41 rfl rfl rfl fun a42 h42 => ?_
 refine pkt h42 rfl hb2 rfl rfl fun a43 h43 => ?_
 refine asg h43 rfl rfl fun a44 h44 => ?_
 clear hK4 h19 h20 h21 h22 h23 h24 h25 h26 h27 h28 h29 h30 h31 h32 h33 h34 h35 h36 h37 h38 h39 h40 h41 h42 h43 K4 a19 a20 a21 a22 a23 a24 a25 a26 a27 a28 a29 a30 a31 a32 a33 a34 a35 a36 a37 a38 a39 a40 a41 a42 a43
 refine wpL_nil (hK5 _ _ ?_)
 refine rtn (leave h44 (res1 h44 rfl (rvt rfl)) ?_)
 exact ⟨_, rfl, by rw [entHd_one wk7_one]; rfl, hB⟩

/-- reelkeeperlaw07.EntryFirst -/
theorem c_entryFirst (n : Pl.Nd) (w : World) :
  C Try.prog 6 [ndV n] w fun v w' => v = .bool true ∧ Kept w w' := by
 refine enterE Try.func6 rfl 86 rfl rfl fun a0 h0 => ?_
 have hB := Kept.refl w
 refine sq fun K1 hK1 => ?_
 refine reg [some 1, some 2] rfl ?_
 refine bxv h0 rfl rfl rfl fun a1 w1 g1 h1 hk1 hz1 hg1 => ?_
 have hleg1 := Nat.le_trans hB.size hz1
 replace hB := Kept.trans hB hk1
 refine asg h1 rfl rfl fun a2 h2 => ?_
 clear h0 h1 a0 a1
 refine wpL_nil (hK1 _ _ ?_)
 refine sq fun K2 hK2 => ?_
 refine reg [some 10, some 3] rfl ?_
 refine cal h2 Try.call39 rfl (c_wake07 _) rfl ?_
 rintro v2 w2 a3 ⟨rfl, hk2⟩ h3
 replace hB := Kept.trans hB hk2
 replace hg1 := hg1.kept hk2
 refine asg h3 rfl rfl fun a4 h4 => ?_
 clear hK1 h2 h3 K1 a2 a3
 refine wpL_nil (hK2 _ _ ?_)
 refine sq fun K3 hK3 => ?_
 refine reg [some 11, some 12, some 4] rfl ?_
 refine ldbn h4 hg1 ([str n.path, str n.link, u8 n.kind, .int .i64 n.mode, .int .i64 n.uid, .int .i64 n.gid, .int .i64 n.mtime, str n.data]) rfl Try.isAgg32 Try.sizeOf32 rfl rfl fun a5 h5 => ?_
 refine cal h5 Try.call40 rfl (c_few5 _ _) rfl ?_
 rintro v3 w3 a6 ⟨rfl, hk3⟩ h6
 replace hB := Kept.trans hB hk3
 replace hg1 := hg1.kept hk3
 refine asg h6 rfl rfl fun a7 h7 => ?_
 clear hK2 h4 h5 h6 K2 a4 a5 a6
 refine wpL_nil (hK3 _ _ ?_)
 refine sq fun K4 hK4 => ?_
 refine sq fun K5 hK5 => ?_
 refine reg [some 13, some 14, some 15, some 16, some 17, some 18, some 19, some 20, some 21, some 22, some 23] rfl ?_
 refine mv h7 rfl rfl fun a8 h8 => ?_
 refine unot h8 rfl rfl fun a9 h9 => ?_
 refine mv h9 rfl rfl fun a10 h10 => ?_
 refine gon h10 (d := 15) rfl rfl rfl ?_
 refine mv h10 rfl rfl fun a11 h11 => ?_
 refine gon h11 (d := 15) rfl rfl rfl ?_
 refine unot h11 rfl rfl fun a12 h12 => ?_
 refine pkf h12 rfl rfl rfl rfl fun a13 h13 => ?_
 refine mv h13 rfl rfl fun a14 h14 => ?_
 refine spl h14 (d := 19) rfl (fun hb1 => ?_) (fun hb1 => ?_)
 ·
  refine goff h14 (d := 19) rfl rfl (bnf (bunt hb1)) rfl fun a15 h15 => ?_
  refine goff h15 (d := 19) rfl rfl (bnf (bunt hb1)) rfl fun a16 h16 => ?_
  refine goff h16 (d := 19) rfl rfl (bnf (bunt hb1)) rfl fun a17 h17 => ?_
  refine pkt h17 rfl (bnf (bunt hb1)) rfl rfl fun a18 h18 => ?_
  clear hK3 h7 h8 h9 h10 h11 h12 h13 h14 h15 h16 h17 K3 a7 a8 a9 a10 a11 a12 a13 a14 a15 a16 a17
  refine wpL_nil (hK5 _ _ ?_)
  refine cdt h18 rfl rfl ?_
  refine sq fun K6 hK6 => ?_
  refine reg [some 24, some 2] rfl ?_
  refine mv h18 rfl rfl fun a19 h19 => ?_
  refine asg h19 rfl rfl fun a20 h20 => ?_
  clear hK5 h18 h19 K5 a18 a19
  refine wpL_nil (hK6 _ _ ?_)
  refine rtn (leave h20 (res1 h20 rfl (rvt rfl)) ?_)
  first | exact ⟨_, rfl, rfl, hB⟩ | (exfalso; omega) | (rcases hlong with ⟨h1, h2⟩ | ⟨h1, h2⟩ <;> first | exact ⟨_, rfl, by rw [h1]; rfl, hB⟩ | (exfalso; rw [h1] at *; simp_all))
 ·
  obtain ⟨hn1, hn2, hn3⟩ := few5_L (bunf hb1)
  refine gon h14 (d := 19) rfl rfl (bnt (bunf hb1)) ?_
  refine ldbn h14 hg1 ([str n.path, str n.link, u8 n.kind, .int .i64 n.mode, .int .i64 n.uid, .int .i64 n.gid, .int .i64 n.mtime, str n.data]) rfl Try.isAgg32 Try.sizeOf32 rfl rfl fun a21 h21 => ?_
  refine gon h21 (d := 19) rfl rfl (bnt (bunf hb1)) ?_
  refine cal h21 Try.call41 rfl (c_one _ _ ⟨hn1, hn2, hn3⟩) rfl ?_
  rintro v4 w4 a22 ⟨rfl, hk4⟩ h22
  replace hB := Kept.trans hB hk4
  replace hg1 := hg1.kept hk4
  refine gon h22 (d := 19) rfl rfl (bnt (bunf hb1)) ?_
  refine unot h22 rfl rfl fun a23 h23 => ?_
  refine pkf h23 rfl (bnt (bunf hb1)) rfl rfl fun a24 h24 => ?_
  clear hK3 h7 h8 h9 h10 h11 h12 h13 h14 h21 h22 h23 K3 a7 a8 a9 a10 a11 a12 a13 a14 a21 a22 a23
  refine wpL_nil (hK5 _ _ ?_)
  refine spl h24 (d := 23) rfl (fun hb2 => ?_) (fun hb2 => ?_)
  ·
   refine cdt h24 rfl (bnf (bunt hb2)) ?_
   refine sq fun K7 hK7 => ?_
   refine reg [some 24, some 2] rfl ?_
   refine mv h24 rfl rfl fun a25 h25 => ?_
   refine asg h25 rfl rfl fun a26 h26 => ?_
   clear hK5 h24 h25 K5 a24 a25
   refine wpL_nil (hK7 _ _ ?_)
   refine rtn (leave h26 (res1 h26 rfl (rvt rfl)) ?_)
   first | exact ⟨_, rfl, rfl, hB⟩ | (exfalso; omega) | (rcases hlong with ⟨h1, h2⟩ | ⟨h1, h2⟩ <;> first | exact ⟨_, rfl, by rw [h1]; rfl, hB⟩ | (exfalso; rw [h1] at *; simp_all))
  ·
   have hone := bunf hb2
   obtain ⟨fx, hfx, hfe, hfo, hfl⟩ := Pl.first_cases hone
   have hed := Pl.entData_eq hone
   have hcl := (entBlocks_len ⟨hn1, hn2, hn3⟩).2
   refine cdf h24 rfl (bnt (bunf hb2)) ?_
   refine skp (hK4 _ _ ?_)
   refine sq fun K8 hK8 => ?_
   refine reg [some 26, some 27, some 25, some 28, some 29, some 5, some 6] rfl ?_
   refine ldbn h24 hg1 ([str n.path, str n.link, u8 n.kind, .int .i64 n.mode, .int .i64 n.uid, .int .i64 n.gid, .int .i64 n.mtime, str n.data]) rfl Try.isAgg32 Try.sizeOf32 rfl rfl fun a27 h27 => ?_
   have hsz5 := hB.size
   have hlg15 := hg1.lt
   refine cal h27 Try.call29 rfl (c_ePut _ _ ⟨hn1, hn2, hn3⟩) rfl ?_
   rintro v5 w5 a28 ⟨⟨qp5, rfl, hp5'⟩, hk5⟩ h28
   replace hB := Kept.trans hB hk5
   replace hg1 := hg1.kept hk5
   replace hp5' := hp5'.lt
   have hlw5 := Nat.le_refl w5.heap.size
   refine mv h28 rfl rfl fun a29 h29 => ?_
   refine ext2_0 h29 rfl rfl fun a30 h30 => ?_
   refine ext2_1 h30 rfl rfl fun a31 h31 => ?_
   refine asg h31 rfl rfl fun a32 h32 => ?_
   refine asg h32 rfl rfl fun a33 h33 => ?_
   clear hK5 hK4 h24 h27 h28 h29 h30 h31 h32 K5 K4 a24 a27 a28 a29 a30 a31 a32
   refine wpL_nil (hK8 _ _ ?_)
   refine sq fun K9 hK9 => ?_
   refine sq fun K10 hK10 => ?_
   refine reg [some 30, some 31, some 32, some 33, some 34, some 35, some 36] rfl ?_
   refine mv h33 rfl rfl fun a34 h34 => ?_
   refine unot h34 rfl rfl fun a35 h35 => ?_
   refine mv h35 rfl rfl fun a36 h36 => ?_
   refine knownF h36 (d := 32) rfl (by rw [hone]; rfl) fun hb3 => ?_
   refine gon h36 (d := 32) rfl rfl (bnt (bunf hb3)) ?_
   refine mv h36 rfl rfl fun a37 h37 => ?_
   refine gon h37 (d := 32) rfl rfl (bnt (bunf hb3)) ?_
   refine lnx h37 rfl Try.underlying25 rfl hp5'.isl rfl fun a38 h38 => ?_
   refine gon h38 (d := 32) rfl rfl (bnt (bunf hb3)) ?_
   refine ieq h38 rfl rfl rfl fun a39 h39 => ?_
   refine pkf h39 rfl (bnt (bunf hb3)) rfl rfl fun a40 h40 => ?_
   clear hK8 h33 h34 h35 h36 h37 h38 h39 K8 a33 a34 a35 a36 a37 a38 a39
   refine wpL_nil (hK10 _ _ ?_)
   refine knownF h40 (d := 36) rfl (by have := (List.getElem?_eq_some_iff.1 hfx).1; rw [decide_eq_false]; omega) fun hb4 => ?_
   have hp4 := of_decide_eq_false hb4
   refine cdf h40 rfl hb4 ?_
   refine skp (hK9 _ _ ?_)
   refine sq fun K11 hK11 => ?_
   refine reg [some 38, some 39, some 40, some 41, some 37, some 42, some 43, some 7, none, some 8] rfl ?_
   refine mv h40 rfl rfl fun a41 h41 => ?_
   refine ixR (k := 0) hp5' h41 rfl rfl Try.underlying25 Try.sizeOf35 Try.isAgg35 (by simp) (hfx) rfl rfl fun a42 z39 v40' h42 hs40 => ?_
   refine cal h42 Try.call36 rfl (c_headGet _ _ _ hs40) rfl ?_
   rintro v6 w6 a43 ⟨rfl, hk6⟩ h43
   replace hB := Kept.trans hB hk6
   replace hg1 := hg1.kept hk6
   replace hp5' := hp5'.kept hk6
   replace hlw5 := Nat.le_trans hlw5 hk6.size
   refine mv h43 rfl rfl fun a44 h44 => ?_
   refine ext2_0 h44 rfl rfl fun a45 h45 => ?_
   refine ext2_1 h45 rfl rfl fun a46 h46 => ?_
   refine alc h46 Try.zeroValue41 rfl rfl fun a47 w7 g7 h47 hk7 hz7 hg7 => ?_
   have hleg7 := Nat.le_trans hB.size hz7
   have hneg1g7 := Nat.lt_of_lt_of_le hg1.lt hz7
   have hNhlw5g7 := Nat.le_trans hlw5 hz7
   replace hB := Kept.trans hB hk7
   replace hg1 := hg1.kept hk7
   replace hp5' := hp5'.kept hk7
   replace hlw5 := Nat.le_trans hlw5 hk7.size
   refine stb h47 hg7 rfl rfl _ rfl Try.sizeOf41 (hd_one _) _ (by simp [hdCells]) rfl fun w8 hg7' hk8 => ?_
   replace hB := Kept.but hB hk8 (by omega)
   replace hg1 := hg1.but hk8 (by omega)
   replace hp5' := hp5'.but hk8 (by first | (show ¬ (_ < _); omega) | (simp; omega))
   replace hlw5 := Nat.le_trans hlw5 hk8.size
   clear hg7; have hg7 := hg7'; clear hg7'
   refine asg h47 rfl rfl fun a48 h48 => ?_
   clear hK10 hK9 h40 h41 h42 h43 h44 h45 h46 h47 K10 K9 a40 a41 a42 a43 a44 a45 a46 a47
   refine wpL_nil (hK11 _ _ ?_)
   refine sq fun K12 hK12 => ?_
   refine reg [some 44, some 45, some 46, some 47, some 48, some 49, some 9] rfl ?_
   refine mv h48 rfl rfl fun a49 h49 => ?_
   refine lnx h49 rfl Try.underlying25 rfl hp5'.isl rfl fun a50 h50 => ?_
   refine ldbn h50 hg1 ([str n.path, str n.link, u8 n.kind, .int .i64 n.mode, .int .i64 n.uid, .int .i64 n.gid, .int .i64 n.mtime, str n.data]) rfl Try.isAgg32 Try.sizeOf32 rfl rfl fun a51 h51 => ?_
   refine cal h51 Try.call42 rfl (c_eData _ _ ⟨hn1, hn2, hn3⟩) rfl ?_
   rintro v9 w9 a52 ⟨rfl, hk9⟩ h52
   replace hB := Kept.trans hB hk9
   replace hg1 := hg1.kept hk9
   replace hlw5 := Nat.le_trans hlw5 hk9.size
   replace hg7 := hg7.kept hk9
   refine add h52 rfl rfl rfl (by omega) fun a53 h53 => ?_
   refine ieq h53 rfl rfl rfl fun a54 h54 => ?_
   refine asg h54 rfl rfl fun a55 h55 => ?_
   clear hK11 h48 h49 h50 h51 h52 h53 h54 K11 a48 a49 a50 a51 a52 a53 a54
   refine wpL_nil (hK12 _ _ ?_)
   refine sq fun K13 hK13 => ?_
   refine reg [some 50, some 51, some 52, some 53, some 54, some 55, some 56, some 57, some 58, some 59, some 60, some 61, some 62, some 63, some 64, some 65, some 66, some 67, some 68, some 69, some 70, some 71, some 72, some 73, some 74, some 75, some 76, some 77, some 78, some 79, some 80, some 81, some 82, some 83, some 84, some 85, some 2] rfl ?_
   refine mv h55 rfl rfl fun a56 h56 => ?_
   refine ieq h56 rfl rfl rfl fun a57 h57 => ?_
   refine mv h57 rfl rfl fun a58 h58 => ?_
   refine knownT h58 (d := 52) rfl (by rw [hfe]; rfl) fun hb6 => ?_
   have hp6 := of_decide_eq_true hb6
   refine gon h58 (d := 52) rfl rfl hb6 ?_
   refine mv h58 rfl rfl fun a59 h59 => ?_
   refine gon h59 (d := 52) rfl rfl hb6 ?_
   refine mv h59 rfl rfl fun a60 h60 => ?_
   refine spl h60 (d := 54) rfl (fun hb5 => ?_) (fun hb5 => ?_)
   ·
    have hp5 := of_decide_eq_true hb5
    have hown := of_decide_eq_true hb5
    refine gon h60 (d := 54) rfl rfl hb5 ?_
    refine fab h60 rfl Try.underlying41 rfl Try.sizeOf5 rfl 8 rfl rfl fun a61 h61 => ?_
    refine gon h61 (d := 54) rfl rfl hb5 ?_
    refine ldb h61 hg7 rfl Try.isAgg5 rfl rfl fun a62 h62 => ?_
    refine gon h62 (d := 54) rfl rfl hb5 ?_
    refine fab h62 rfl Try.underlying32 rfl Try.sizeOf5 rfl 2 rfl rfl fun a63 h63 => ?_
    refine gon h63 (d := 54) rfl rfl hb5 ?_
    refine ldb h63 hg1 rfl Try.isAgg5 rfl rfl fun a64 h64 => ?_
    refine gon h64 (d := 54) rfl rfl hb5 ?_
    refine ieq h64 rfl rfl rfl fun a65 h65 => ?_
    refine gon h65 (d := 52) rfl rfl hb6 ?_
    refine pkt h65 rfl hb5 rfl rfl fun a66 h66 => ?_
    refine gon h66 (d := 52) rfl rfl hb6 ?_
    refine mv h66 rfl rfl fun a67 h67 => ?_
    refine knownT h67 (d := 61) rfl (by rw [hfo hown]; simp) fun hb7 => ?_
    have hp7 := of_decide_eq_true hb7
    refine goff h67 (d := 61) rfl rfl hb7 rfl fun a68 h68 => ?_
    refine goff h68 (d := 61) rfl rfl hb7 rfl fun a69 h69 => ?_
    refine goff h69 (d := 61) rfl rfl hb7 rfl fun a70 h70 => ?_
    refine goffu h70 (d := 64) rfl rfl rfl fun a71 h71 => ?_
    refine goffu h71 (d := 64) rfl rfl rfl fun a72 h72 => ?_
    refine goffu h72 (d := 64) rfl rfl rfl fun a73 h73 => ?_
    refine goffu h73 (d := 64) rfl rfl rfl fun a74 h74 => ?_
    refine goffu h74 (d := 64) rfl rfl rfl fun a75 h75 => ?_
    refine goffu h75 (d := 64) rfl rfl rfl fun a76 h76 => ?_
    refine goffu h76 (d := 64) rfl rfl rfl fun a77 h77 => ?_
    refine goffu h77 (d := 64) rfl rfl rfl fun a78 h78 => ?_
    refine goff h78 (d := 61) rfl rfl hb7 rfl fun a79 h79 => ?_
    refine goff h79 (d := 61) rfl rfl hb7 rfl fun a80 h80 => ?_
    refine goffu h80 (d := 74) rfl rfl rfl fun a81 h81 => ?_
    refine goffu h81 (d := 74) rfl rfl rfl fun a82 h82 => ?_
    refine goffu h82 (d := 74) rfl rfl rfl fun a83 h83 => ?_
    refine goffu h83 (d := 74) rfl rfl rfl fun a84 h84 => ?_
    refine goffu h84 (d := 78) rfl rfl rfl fun a85 h85 => ?_
    refine goffu h85 (d := 78) rfl rfl rfl fun a86 h86 => ?_
    refine goffu h86 (d := 78) rfl rfl rfl fun a87 h87 => ?_
    refine goffu h87 (d := 74) rfl rfl rfl fun a88 h88 => ?_
    refine goff h88 (d := 61) rfl rfl hb7 rfl fun a89 h89 => ?_
    refine gon h89 (d := 52) rfl rfl hb6 ?_
    refine pkt h89 rfl hb7 rfl rfl fun a90 h90 => ?_
    refine pkt h90 rfl hb6 rfl rfl fun a91 h91 => ?_
    refine asg h91 rfl rfl fun a92 h92 => ?_
    clear hK12 h55 h56 h57 h58 h59 h60 h61 h62 h63 h64 h65 h66 h67 h68 h69 h70 h71 h72 h73 h74 h75 h76 h77 h78 h79 h80 h81 h82 h83 h84 h85 h86 h87 h88 h89 h90 h91 K12 a55 a56 a57 a58 a59 a60 a61 a62 a63 a64 a65 a66 a67 a68 a69 a70 a71 a72 a73 a74 a75 a76 a77 a78 a79 a80 a81 a82 a83 a84 a85 a86 a87 a88 a89 a90 a91
    refine wpL_nil (hK13 _ _ ?_)
    refine rtn (leave h92 (res1 h92 rfl (rvt rfl)) ?_)
    first | exact ⟨_, rfl, rfl, hB⟩ | (exfalso; omega) | (rcases hlong with ⟨h1, h2⟩ | ⟨h1, h2⟩ <;> first | exact ⟨_, rfl, by rw [h1]; rfl, hB⟩ | (exfalso; rw [h1] at *; simp_all))
   ·
    have hp5 := of_decide_eq_false hb5
    have hown := of_decide_eq_false hb5
    have hlong := hfl hown
    refine goff h60 (d := 54) rfl rfl hb5 rfl fun a93 h93 => ?_
    refine goff h93 (d := 54) rfl rfl hb5 rfl fun a94 h94 => ?_
    refine goff h94 (d := 54) rfl rfl hb5 rfl fun a95 h95 => ?_
    refine goff h95 (d := 54) rfl rfl hb5 rfl fun a96 h96 => ?_
    refine goff h96 (d := 54) rfl rfl hb5 rfl fun a97 h97 => ?_
    refine gon h97 (d := 52) rfl rfl hb6 ?_
    refine pkf h97 rfl hb5 rfl rfl fun a98 h98 => ?_
    refine gon h98 (d := 52) rfl rfl hb6 ?_
    refine mv h98 rfl rfl fun a99 h99 => ?_
    refine gon h99 (d := 61) rfl rfl rfl ?_
    refine mv h99 rfl rfl fun a100 h100 => ?_
    refine gon h100 (d := 61) rfl rfl rfl ?_
    refine unot h100 rfl rfl fun a101 h101 => ?_
    refine gon h101 (d := 61) rfl rfl rfl ?_
    refine mv h101 rfl rfl fun a102 h102 => ?_
    refine gon h102 (d := 64) rfl rfl (bnf hb5) ?_
    refine fab h102 rfl Try.underlying41 rfl Try.sizeOf5 rfl 8 rfl rfl fun a103 h103 => ?_
    refine gon h103 (d := 64) rfl rfl (bnf hb5) ?_
    refine ldb h103 hg7 rfl Try.isAgg5 rfl rfl fun a104 h104 => ?_
    refine gon h104 (d := 64) rfl rfl (bnf hb5) ?_
    refine ieq h104 rfl rfl rfl fun a105 h105 => ?_
    refine gon h105 (d := 64) rfl rfl (bnf hb5) ?_
    refine fab h105 rfl Try.underlying32 rfl Try.sizeOf9 rfl 1 rfl rfl fun a106 h106 => ?_
    refine gon h106 (d := 64) rfl rfl (bnf hb5) ?_
    refine ldb h106 hg1 rfl Try.isAgg9 rfl rfl fun a107 h107 => ?_
    refine gon h107 (d := 64) rfl rfl (bnf hb5) ?_
    refine lens h107 rfl Try.underlying9 rfl rfl fun a108 h108 => ?_
    refine gon h108 (d := 64) rfl rfl (bnf hb5) ?_
    refine gtr h108 rfl rfl rfl fun a109 h109 => ?_
    refine gon h109 (d := 64) rfl rfl (bnf hb5) ?_
    refine beqv h109 Try.underlying4 rfl rfl rfl fun a110 h110 => ?_
    refine gon h110 (d := 61) rfl rfl rfl ?_
    refine pkt h110 rfl (bnf hb5) rfl rfl fun a111 h111 => ?_
    refine gon h111 (d := 61) rfl rfl rfl ?_
    refine mv h111 rfl rfl fun a112 h112 => ?_
    refine knownT h112 (d := 74) rfl (by rcases hlong with ⟨h1, h2⟩ | ⟨h1, h2⟩ <;> simp [h1] <;> omega) fun hb10 => ?_
    refine gon h112 (d := 74) rfl rfl hb10 ?_
    refine fab h112 rfl Try.underlying41 rfl Try.sizeOf5 rfl 8 rfl rfl fun a113 h113 => ?_
    refine gon h113 (d := 74) rfl rfl hb10 ?_
    refine ldb h113 hg7 rfl Try.isAgg5 rfl rfl fun a114 h114 => ?_
    refine gon h114 (d := 74) rfl rfl hb10 ?_
    refine ieq h114 rfl rfl rfl fun a115 h115 => ?_
    refine gon h115 (d := 74) rfl rfl hb10 ?_
    refine mv h115 rfl rfl fun a116 h116 => ?_
    refine spl h116 (d := 78) rfl (fun hb11 => ?_) (fun hb11 => ?_)
    ·
     have hp11 := of_decide_eq_true hb11
     refine goff h116 (d := 78) rfl rfl hb11 rfl fun a117 h117 => ?_
     refine goff h117 (d := 78) rfl rfl hb11 rfl fun a118 h118 => ?_
     refine goff h118 (d := 78) rfl rfl hb11 rfl fun a119 h119 => ?_
     refine gon h119 (d := 74) rfl rfl hb10 ?_
     refine pkt h119 rfl hb11 rfl rfl fun a120 h120 => ?_
     refine gon h120 (d := 61) rfl rfl rfl ?_
     refine pkt h120 rfl hb10 rfl rfl fun a121 h121 => ?_
     refine gon h121 (d := 52) rfl rfl hb6 ?_
     refine pkf h121 rfl rfl rfl rfl fun a122 h122 => ?_
     refine pkt h122 rfl hb6 rfl rfl fun a123 h123 => ?_
     refine asg h123 rfl rfl fun a124 h124 => ?_
     clear hK12 h55 h56 h57 h58 h59 h60 h93 h94 h95 h96 h97 h98 h99 h100 h101 h102 h103 h104 h105 h106 h107 h108 h109 h110 h111 h112 h113 h114 h115 h116 h117 h118 h119 h120 h121 h122 h123 K12 a55 a56 a57 a58 a59 a60 a93 a94 a95 a96 a97 a98 a99 a100 a101 a102 a103 a104 a105 a106 a107 a108 a109 a110 a111 a112 a113 a114 a115 a116 a117 a118 a119 a120 a121 a122 a123
     refine wpL_nil (hK13 _ _ ?_)
     refine rtn (leave h124 (res1 h124 rfl (rvt rfl)) ?_)
     first | exact ⟨_, rfl, rfl, hB⟩ | (exfalso; omega) | (rcases hlong with ⟨h1, h2⟩ | ⟨h1, h2⟩ <;> first | exact ⟨_, rfl, by rw [h1]; rfl, hB⟩ | (exfalso; rw [h1] at *; simp_all))
    ·
     have hp11 := of_decide_eq_false hb11
     refine gon h116 (d := 78) rfl rfl hb11 ?_
     refine fab h116 rfl Try.underlying41 rfl Try.sizeOf5 rfl 8 rfl rfl fun a125 h125 => ?_
     refine gon h125 (d := 78) rfl rfl hb11 ?_
     refine ldb h125 hg7 rfl Try.isAgg5 rfl rfl fun a126 h126 => ?_
     refine gon h126 (d := 78) rfl rfl hb11 ?_
     refine ieq h126 rfl rfl rfl fun a127 h127 => ?_
     refine gon h127 (d := 74) rfl rfl hb10 ?_
     refine pkf h127 rfl hb11 rfl rfl fun a128 h128 => ?_
     refine gon h128 (d := 61) rfl rfl rfl ?_
     refine pkt h128 rfl hb10 rfl rfl fun a129 h129 => ?_
     refine gon h129 (d := 52) rfl rfl hb6 ?_
     refine pkf h129 rfl rfl rfl rfl fun a130 h130 => ?_
     refine pkt h130 rfl hb6 rfl rfl fun a131 h131 => ?_
     refine asg h131 rfl rfl fun a132 h132 => ?_
     clear hK12 h55 h56 h57 h58 h59 h60 h93 h94 h95 h96 h97 h98 h99 h100 h101 h102 h103 h104 h105 h106 h107 h108 h109 h110 h111 h112 h113 h114 h115 h116 h125 h126 h127 h128 h129 h130 h131 K12 a55 a56 a57 a58 a59 a60 a93 a94 a95 a96 a97 a98 a99 a100 a101 a102 a103 a104 a105 a106 a107 a108 a109 a110 a111 a112 a113 a114 a115 a116 a125 a126 a127 a128 a129 a130 a131
     refine wpL_nil (hK13 _ _ ?_)
     refine rtn (leave h132 (res1 h132 rfl (rvt rfl)) ?_)
     first | exact ⟨_, rfl, rfl, hB⟩ | (exfalso; omega) | (rcases hlong with ⟨h1, h2⟩ | ⟨h1, h2⟩ <;> first | exact ⟨_, rfl, by rw [h1]; rfl, hB⟩ | (exfalso; rw [h1] at *; simp_all))

set_option maxHeartbeats 1000000 in
/-- reelkeeperlaw07.EntryHead -/
theorem c_entryHead (n : Pl.Nd) (w : World) :
  C Try.prog 7 [ndV n] w fun v w' => v = .bool true ∧ Kept w w' := by
 refine enterE Try.func7 rfl 167 rfl rfl fun a0 h0 => ?_
 have hB := Kept.refl w
 refine sq fun K1 hK1 => ?_
 refine reg [some 1, some 2] rfl ?_
 refine bxv h0 rfl rfl rfl fun a1 w1 g1 h1 hk1 hz1 hg1 => ?_
 have hleg1 := Nat.le_trans hB.size hz1
 replace hB := Kept.trans hB hk1
 refine asg h1 rfl rfl fun a2 h2 => ?_
 clear h0 h1 a0 a1
 refine wpL_nil (hK1 _ _ ?_)
 refine sq fun K2 hK2 => ?_
 refine reg [some 14, some 3] rfl ?_
 refine cal h2 Try.call39 rfl (c_wake07 _) rfl ?_
 rintro v2 w2 a3 ⟨rfl, hk2⟩ h3
 replace hB := Kept.trans hB hk2
 replace hg1 := hg1.kept hk2
 refine asg h3 rfl rfl fun a4 h4 => ?_
 clear hK1 h2 h3 K1 a2 a3
 refine wpL_nil (hK2 _ _ ?_)
 refine sq fun K3 hK3 => ?_
 refine reg [some 15, some 16, some 4] rfl ?_
 refine ldbn h4 hg1 ([str n.path, str n.link, u8 n.kind, .int .i64 n.mode, .int .i64 n.uid, .int .i64 n.gid, .int .i64 n.mtime, str n.data]) rfl Try.isAgg32 Try.sizeOf32 rfl rfl fun a5 h5 => ?_
 refine cal h5 Try.call40 rfl (c_few5 _ _) rfl ?_
 rintro v3 w3 a6 ⟨rfl, hk3⟩ h6
 replace hB := Kept.trans hB hk3
 replace hg1 := hg1.kept hk3
 refine asg h6 rfl rfl fun a7 h7 => ?_
 clear hK2 h4 h5 h6 K2 a4 a5 a6
 refine wpL_nil (hK3 _ _ ?_)
 refine sq fun K4 hK4 => ?_
 refine sq fun K5 hK5 => ?_
 refine reg [some 17, some 18, some 19, some 20, some 21, some 22] rfl ?_
 refine mv h7 rfl rfl fun a8 h8 => ?_
 refine unot h8 rfl rfl fun a9 h9 => ?_
 refine mv h9 rfl rfl fun a10 h10 => ?_
 refine gon h10 (d := 19) rfl rfl rfl ?_
 refine mv h10 rfl rfl fun a11 h11 => ?_
 refine gon h11 (d := 19) rfl rfl rfl ?_
 refine unot h11 rfl rfl fun a12 h12 => ?_
 refine pkf h12 rfl rfl rfl rfl fun a13 h13 => ?_
 clear hK3 h7 h8 h9 h10 h11 h12 K3 a7 a8 a9 a10 a11 a12
 refine wpL_nil (hK5 _ _ ?_)
 refine spl h13 (d := 22) rfl (fun hb1 => ?_) (fun hb1 => ?_)
 ·
  refine cdt h13 rfl (bnf (bunt hb1)) ?_
  refine sq fun K6 hK6 => ?_
  refine reg [some 23, some 2] rfl ?_
  refine mv h13 rfl rfl fun a14 h14 => ?_
  refine asg h14 rfl rfl fun a15 h15 => ?_
  clear hK5 h13 h14 K5 a13 a14
  refine wpL_nil (hK6 _ _ ?_)
  refine rtn (leave h15 (res1 h15 rfl (rvt rfl)) ?_)
  first | exact ⟨_, rfl, rfl, hB⟩ | exact ⟨_, rfl, by rw [Pl.entPut_none hno]; rfl, hB⟩ | exact ⟨_, rfl, by simp [Pl.entHead], hB⟩
 ·
  obtain ⟨hn1, hn2, hn3⟩ := few5_L (bunf hb1)
  refine cdf h13 rfl (bnt (bunf hb1)) ?_
  refine skp (hK4 _ _ ?_)
  refine sq fun K7 hK7 => ?_
  refine reg [some 25, some 26, some 24, some 27, some 28, some 5, none, some 6] rfl ?_
  refine ldbn h13 hg1 ([str n.path, str n.link, u8 n.kind, .int .i64 n.mode, .int .i64 n.uid, .int .i64 n.gid, .int .i64 n.mtime, str n.data]) rfl Try.isAgg32 Try.sizeOf32 rfl rfl fun a16 h16 => ?_
  refine cal h16 Try.call43 rfl (c_eHead _ _ ⟨hn1, hn2, hn3⟩) rfl ?_
  rintro v4 w4 a17 ⟨rfl, hk4⟩ h17
  replace hB := Kept.trans hB hk4
  replace hg1 := hg1.kept hk4
  refine mv h17 rfl rfl fun a18 h18 => ?_
  refine ext2_0 h18 rfl rfl fun a19 h19 => ?_
  refine ext2_1 h19 rfl rfl fun a20 h20 => ?_
  refine alc h20 Try.zeroValue41 rfl rfl fun a21 w5 g5 h21 hk5 hz5 hg5 => ?_
  have hleg5 := Nat.le_trans hB.size hz5
  have hneg1g5 := Nat.lt_of_lt_of_le hg1.lt hz5
  replace hB := Kept.trans hB hk5
  replace hg1 := hg1.kept hk5
  refine stb h21 hg5 rfl rfl _ rfl Try.sizeOf41 (hd_one _) _ (by simp [hdCells]) rfl fun w6 hg5' hk6 => ?_
  replace hB := Kept.but hB hk6 (by omega)
  replace hg1 := hg1.but hk6 (by omega)
  clear hg5; have hg5 := hg5'; clear hg5'
  refine asg h21 rfl rfl fun a22 h22 => ?_
  clear hK5 hK4 h13 h16 h17 h18 h19 h20 h21 K5 K4 a13 a16 a17 a18 a19 a20 a21
  refine wpL_nil (hK7 _ _ ?_)
  refine sq fun K8 hK8 => ?_
  refine reg [some 30, some 31, some 29, some 32, some 33, some 7, some 8] rfl ?_
  refine ldbn h22 hg1 ([str n.path, str n.link, u8 n.kind, .int .i64 n.mode, .int .i64 n.uid, .int .i64 n.gid, .int .i64 n.mtime, str n.data]) rfl Try.isAgg32 Try.sizeOf32 rfl rfl fun a23 h23 => ?_
  have hsz7 := hB.size
  have hlg17 := hg1.lt
  have hlg57 := hg5.lt
  refine cal h23 Try.call29 rfl (c_ePut _ _ ⟨hn1, hn2, hn3⟩) rfl ?_
  rintro v7 w7 a24 ⟨⟨qp7, rfl, hp7'⟩, hk7⟩ h24
  replace hB := Kept.trans hB hk7
  replace hg1 := hg1.kept hk7
  replace hg5 := hg5.kept hk7
  replace hp7' := hp7'.lt
  have hlw7 := Nat.le_refl w7.heap.size
  refine mv h24 rfl rfl fun a25 h25 => ?_
  refine ext2_0 h25 rfl rfl fun a26 h26 => ?_
  refine ext2_1 h26 rfl rfl fun a27 h27 => ?_
  refine asg h27 rfl rfl fun a28 h28 => ?_
  refine asg h28 rfl rfl fun a29 h29 => ?_
  clear hK7 h22 h23 h24 h25 h26 h27 h28 K7 a22 a23 a24 a25 a26 a27 a28
  refine wpL_nil (hK8 _ _ ?_)
  refine sq fun K9 hK9 => ?_
  refine sq fun K10 hK10 => ?_
  refine reg [some 34, some 35, some 36, some 37, some 38, some 39, some 40, some 41, some 42, some 43, some 44, some 45, some 46] rfl ?_
  refine mv h29 rfl rfl fun a30 h30 => ?_
  refine ldbn h30 hg1 ([str n.path, str n.link, u8 n.kind, .int .i64 n.mode, .int .i64 n.uid, .int .i64 n.gid, .int .i64 n.mtime, str n.data]) rfl Try.isAgg32 Try.sizeOf32 rfl rfl fun a31 h31 => ?_
  refine cal h31 Try.call41 rfl (c_one _ _ ⟨hn1, hn2, hn3⟩) rfl ?_
  rintro v8 w8 a32 ⟨rfl, hk8⟩ h32
  replace hB := Kept.trans hB hk8
  replace hg1 := hg1.kept hk8
  replace hg5 := hg5.kept hk8
  replace hp7' := hp7'.kept hk8
  replace hlw7 := Nat.le_trans hlw7 hk8.size
  refine bnev h32 Try.underlying4 rfl rfl rfl fun a33 h33 => ?_
  refine mv h33 rfl rfl fun a34 h34 => ?_
  refine knownF h34 (d := 38) rfl (by simp) fun hb5 => ?_
  refine gon h34 (d := 38) rfl rfl (bnt (bunf hb5)) ?_
  refine mv h34 rfl rfl fun a35 h35 => ?_
  refine gon h35 (d := 38) rfl rfl (bnt (bunf hb5)) ?_
  refine mv h35 rfl rfl fun a36 h36 => ?_
  refine gon h36 (d := 38) rfl rfl (bnt (bunf hb5)) ?_
  refine bnev h36 Try.underlying4 rfl rfl rfl fun a37 h37 => ?_
  refine pkf h37 rfl (bnt (bunf hb5)) rfl rfl fun a38 h38 => ?_
  refine mv h38 rfl rfl fun a39 h39 => ?_
  refine knownF h39 (d := 43) rfl (by simp) fun hb6 => ?_
  refine gon h39 (d := 43) rfl rfl (bnt (bunf hb6)) ?_
  refine mv h39 rfl rfl fun a40 h40 => ?_
  refine gon h40 (d := 43) rfl rfl (bnt (bunf hb6)) ?_
  refine unot h40 rfl rfl fun a41 h41 => ?_
  refine pkf h41 rfl (bnt (bunf hb6)) rfl rfl fun a42 h42 => ?_
  clear hK8 h29 h30 h31 h32 h33 h34 h35 h36 h37 h38 h39 h40 h41 K8 a29 a30 a31 a32 a33 a34 a35 a36 a37 a38 a39 a40 a41
  refine wpL_nil (hK10 _ _ ?_)
  refine spl h42 (d := 46) rfl (fun hb2 => ?_) (fun hb2 => ?_)
  ·
   have hno := bunt hb2
   refine cdt h42 rfl (bnf (bunt hb2)) ?_
   refine sq fun K11 hK11 => ?_
   refine reg [some 47, some 48, some 49, some 50, some 51, some 52, some 53, some 54, some 55, some 56, some 57, some 58, some 59, some 60, some 61, some 62, some 63, some 64, some 65, some 2] rfl ?_
   refine mv h42 rfl rfl fun a43 h43 => ?_
   refine ldbn h43 hg1 ([str n.path, str n.link, u8 n.kind, .int .i64 n.mode, .int .i64 n.uid, .int .i64 n.gid, .int .i64 n.mtime, str n.data]) rfl Try.isAgg32 Try.sizeOf32 rfl rfl fun a44 h44 => ?_
   refine cal h44 Try.call41 rfl (c_one _ _ ⟨hn1, hn2, hn3⟩) rfl ?_
   rintro v9 w9 a45 ⟨rfl, hk9⟩ h45
   replace hB := Kept.trans hB hk9
   replace hg1 := hg1.kept hk9
   replace hp7' := hp7'.kept hk9
   replace hlw7 := Nat.le_trans hlw7 hk9.size
   refine beqv h45 Try.underlying4 rfl rfl rfl fun a46 h46 => ?_
   refine mv h46 rfl rfl fun a47 h47 => ?_
   refine knownT h47 (d := 51) rfl (by simp) fun hb8 => ?_
   refine gon h47 (d := 51) rfl rfl hb8 ?_
   refine mv h47 rfl rfl fun a48 h48 => ?_
   refine gon h48 (d := 51) rfl rfl hb8 ?_
   refine mv h48 rfl rfl fun a49 h49 => ?_
   refine gon h49 (d := 51) rfl rfl hb8 ?_
   refine beqv h49 Try.underlying4 rfl rfl rfl fun a50 h50 => ?_
   refine pkt h50 rfl hb8 rfl rfl fun a51 h51 => ?_
   refine mv h51 rfl rfl fun a52 h52 => ?_
   refine knownT h52 (d := 56) rfl (by simp) fun hb9 => ?_
   refine gon h52 (d := 56) rfl rfl hb9 ?_
   refine mv h52 rfl rfl fun a53 h53 => ?_
   refine gon h53 (d := 56) rfl rfl hb9 ?_
   refine lnx h53 rfl Try.underlying25 rfl hp7'.isl rfl fun a54 h54 => ?_
   refine gon h54 (d := 56) rfl rfl hb9 ?_
   refine ieq h54 rfl rfl rfl fun a55 h55 => ?_
   refine pkt h55 rfl hb9 rfl rfl fun a56 h56 => ?_
   refine mv h56 rfl rfl fun a57 h57 => ?_
   refine knownT h57 (d := 61) rfl (by rw [Pl.entPut_none hno]; rfl) fun hb10 => ?_
   have hp10 := of_decide_eq_true hb10
   refine gon h57 (d := 61) rfl rfl hb10 ?_
   refine ldbn h57 hg1 ([str n.path, str n.link, u8 n.kind, .int .i64 n.mode, .int .i64 n.uid, .int .i64 n.gid, .int .i64 n.mtime, str n.data]) rfl Try.isAgg32 Try.sizeOf32 rfl rfl fun a58 h58 => ?_
   refine gon h58 (d := 61) rfl rfl hb10 ?_
   refine cal h58 Try.call44 rfl (c_eMany _ _ ⟨hn1, hn2, hn3⟩) rfl ?_
   rintro v10 w10 a59 ⟨rfl, hk10⟩ h59
   replace hB := Kept.trans hB hk10
   replace hlw7 := Nat.le_trans hlw7 hk10.size
   refine gon h59 (d := 61) rfl rfl hb10 ?_
   refine ieq h59 rfl rfl rfl fun a60 h60 => ?_
   refine pkt h60 rfl hb10 rfl rfl fun a61 h61 => ?_
   refine asg h61 rfl rfl fun a62 h62 => ?_
   clear hK10 h42 h43 h44 h45 h46 h47 h48 h49 h50 h51 h52 h53 h54 h55 h56 h57 h58 h59 h60 h61 K10 a42 a43 a44 a45 a46 a47 a48 a49 a50 a51 a52 a53 a54 a55 a56 a57 a58 a59 a60 a61
   refine wpL_nil (hK11 _ _ ?_)
   refine rtn (leave h62 (res1 h62 rfl (rvt rfl)) ?_)
   first | exact ⟨_, rfl, rfl, hB⟩ | exact ⟨_, rfl, by rw [Pl.entPut_none hno]; rfl, hB⟩ | exact ⟨_, rfl, by simp [Pl.entHead], hB⟩
  ·
   have hone := bunf hb2
   have hed := Pl.entData_eq hone
   have hel := Pl.entPut_len hone
   have hbl := entBlocks_len ⟨hn1, hn2, hn3⟩
   have hat := Pl.entPut_at hone
   have hmb := Pl.entPut_may hone
   have heb := Pl.entBlk_get hone
   rw [entHd_one hone] at hg5
   refine cdf h42 rfl (bnt (bunf hb2)) ?_
   refine skp (hK9 _ _ ?_)
   refine sq fun K12 hK12 => ?_
   refine reg [some 66, some 67, some 68, some 69, some 70, some 71, some 9] rfl ?_
   refine mv h42 rfl rfl fun a63 h63 => ?_
   refine lnx h63 rfl Try.underlying25 rfl hp7'.isl rfl fun a64 h64 => ?_
   refine ldbn h64 hg1 ([str n.path, str n.link, u8 n.kind, .int .i64 n.mode, .int .i64 n.uid, .int .i64 n.gid, .int .i64 n.mtime, str n.data]) rfl Try.isAgg32 Try.sizeOf32 rfl rfl fun a65 h65 => ?_
   refine cal h65 Try.call42 rfl (c_eData _ _ ⟨hn1, hn2, hn3⟩) rfl ?_
   rintro v11 w11 a66 ⟨rfl, hk11⟩ h66
   replace hB := Kept.trans hB hk11
   replace hg1 := hg1.kept hk11
   replace hg5 := hg5.kept hk11
   replace hp7' := hp7'.kept hk11
   replace hlw7 := Nat.le_trans hlw7 hk11.size
   refine sub h66 rfl rfl rfl (by omega) fun a67 h67 => ?_
   refine sub h67 rfl rfl rfl (by omega) fun a68 h68 => ?_
   refine asg h68 rfl rfl fun a69 h69 => ?_
   clear hK10 hK9 h42 h63 h64 h65 h66 h67 h68 K10 K9 a42 a63 a64 a65 a66 a67 a68
   refine wpL_nil (hK12 _ _ ?_)
   refine sq fun K13 hK13 => ?_
   refine sq fun K14 hK14 => ?_
   refine reg [some 72, some 73, some 74, some 75, some 76, some 77, some 78, some 79, some 80, some 81, some 82, some 83, some 84] rfl ?_
   refine mv h69 rfl rfl fun a70 h70 => ?_
   refine lss h70 rfl rfl rfl fun a71 h71 => ?_
   refine mv h71 rfl rfl fun a72 h72 => ?_
   refine knownF h72 (d := 74) rfl (by rw [decide_eq_false]; omega) fun hb12 => ?_
   have hp12 := of_decide_eq_false hb12
   refine gon h72 (d := 74) rfl rfl hb12 ?_
   refine mv h72 rfl rfl fun a73 h73 => ?_
   refine gon h73 (d := 74) rfl rfl hb12 ?_
   refine mv h73 rfl rfl fun a74 h74 => ?_
   refine gon h74 (d := 74) rfl rfl hb12 ?_
   refine lnx h74 rfl Try.underlying25 rfl hp7'.isl rfl fun a75 h75 => ?_
   refine gon h75 (d := 74) rfl rfl hb12 ?_
   refine geq h75 rfl rfl rfl fun a76 h76 => ?_
   refine pkf h76 rfl hb12 rfl rfl fun a77 h77 => ?_
   refine mv h77 rfl rfl fun a78 h78 => ?_
   refine knownF h78 (d := 80) rfl (by rw [decide_eq_false]; omega) fun hb13 => ?_
   have hp13 := of_decide_eq_false hb13
   refine gon h78 (d := 80) rfl rfl hb13 ?_
   refine mv h78 rfl rfl fun a79 h79 => ?_
   refine gon h79 (d := 80) rfl rfl hb13 ?_
   refine cal h79 Try.call38 rfl (c_bmay _ _ _ hp7') rfl ?_
   rintro v12 w12 a80 ⟨rfl, hk12⟩ h80
   replace hB := Kept.trans hB hk12
   replace hg1 := hg1.kept hk12
   replace hg5 := hg5.kept hk12
   replace hp7' := hp7'.kept hk12
   replace hlw7 := Nat.le_trans hlw7 hk12.size
   refine gon h80 (d := 80) rfl rfl hb13 ?_
   refine unot h80 rfl rfl fun a81 h81 => ?_
   refine pkf h81 rfl hb13 rfl rfl fun a82 h82 => ?_
   clear hK12 h69 h70 h71 h72 h73 h74 h75 h76 h77 h78 h79 h80 h81 K12 a69 a70 a71 a72 a73 a74 a75 a76 a77 a78 a79 a80 a81
   refine wpL_nil (hK14 _ _ ?_)
   refine knownF h82 (d := 84) rfl (by rw [hmb]; rfl) fun hb14 => ?_
   refine cdf h82 rfl (bnt (bunf hb14)) ?_
   refine skp (hK13 _ _ ?_)
   refine sq fun K15 hK15 => ?_
   refine reg [some 86, some 87, some 88, some 89, some 90, some 85, some 91, some 92, some 10, none, some 11] rfl ?_
   refine mv h82 rfl rfl fun a83 h83 => ?_
   refine mv h83 rfl rfl fun a84 h84 => ?_
   refine ixR (k := (Pl.ahead n).length) hp7' h84 rfl rfl Try.underlying25 Try.sizeOf35 Try.isAgg35 (by omega) (hat) rfl rfl fun a85 z88 v89' h85 hs89 => ?_
   refine cal h85 Try.call36 rfl (c_headGet _ _ _ hs89) rfl ?_
   rintro v13 w13 a86 ⟨rfl, hk13⟩ h86
   replace hB := Kept.trans hB hk13
   replace hg1 := hg1.kept hk13
   replace hg5 := hg5.kept hk13
   replace hp7' := hp7'.kept hk13
   replace hlw7 := Nat.le_trans hlw7 hk13.size
   refine mv h86 rfl rfl fun a87 h87 => ?_
   refine ext2_0 h87 rfl rfl fun a88 h88 => ?_
   refine ext2_1 h88 rfl rfl fun a89 h89 => ?_
   refine alc h89 Try.zeroValue41 rfl rfl fun a90 w14 g10 h90 hk14 hz10 hg10 => ?_
   have hleg10 := Nat.le_trans hB.size hz10
   have hneg1g10 := Nat.lt_of_lt_of_le hg1.lt hz10
   have hneg5g10 := Nat.lt_of_lt_of_le hg5.lt hz10
   have hNhlw7g10 := Nat.le_trans hlw7 hz10
   replace hB := Kept.trans hB hk14
   replace hg1 := hg1.kept hk14
   replace hg5 := hg5.kept hk14
   replace hp7' := hp7'.kept hk14
   replace hlw7 := Nat.le_trans hlw7 hk14.size
   refine stb h90 hg10 rfl rfl _ rfl Try.sizeOf41 (hd_one _) _ (by simp [hdCells]) rfl fun w15 hg10' hk15 => ?_
   replace hB := Kept.but hB hk15 (by omega)
   replace hg1 := hg1.but hk15 (by omega)
   replace hg5 := hg5.but hk15 (by omega)
   replace hp7' := hp7'.but hk15 (by first | (show ¬ (_ < _); omega) | (simp; omega))
   replace hlw7 := Nat.le_trans hlw7 hk15.size
   clear hg10; have hg10 := hg10'; clear hg10'
   refine asg h90 rfl rfl fun a91 h91 => ?_
   clear hK14 hK13 h82 h83 h84 h85 h86 h87 h88 h89 h90 K14 K13 a82 a83 a84 a85 a86 a87 a88 a89 a90
   refine wpL_nil (hK15 _ _ ?_)
   refine sq fun K16 hK16 => ?_
   clear hK15 K15
   refine drw h91 [some 94, some 95, some 96, some 97, some 98, some 99, some 100, some 101, some 93, some 102, some 103, some 12, some 13] rfl [Fx (qp7), Fx (.int .i64 (((Pl.entPut n).length : Int) - Pl.entData n - 1)), Fx (.int .i64 ((((Pl.entPut n).length : Int) - Pl.entData n - 1) + 1)), fun v w' => ∃ SP : Nat → Prop, Rws SP w' v (Pl.cutB n.data), Fx (.pointer (some ⟨g1, 7, none⟩)), Fx (str n.data), Fx (.int .i64 ((n.data : List UInt8).length : Int)), Fx (.tuple #[str n.data, .bool true]), Fx (.tuple #[str n.data, .bool true]), Fx (str n.data), Fx (.bool true), Fx (str n.data), Fx (.bool true)] Kept rfl rfl rfl rfl (drewKept _) keptT (mcons mfx (mcons mfx (mcons mfx (mcons (fun v w w' hk h => ⟨_, h.choose_spec.kept hk⟩) (mcons mfx (mcons mfx (mcons mfx (mcons mfx (mcons mfx (mcons mfx (mcons mfx (mcons mfx (mcons mfx mnil))))))))))))) ⟨?_, ?_, ?_, ?_, ?_, ?_, ?_, ?_, ?_, ?_, ?_, ?_, ?_, trivial⟩ ?_
   ·
    intro L a w_ hH hb hR hd ho
    have hl7 := hb 7 _ rfl
    refine mv hH hl7 rfl fun a92 h92 => ?_
    exact wpL_nil ⟨_, h92, Kept.refl _, rfl⟩
   ·
    intro L a w_ hH hb hR hd ho
    have hl9 := hb 9 _ rfl
    refine mv hH hl9 rfl fun a93 h93 => ?_
    exact wpL_nil ⟨_, h93, Kept.refl _, rfl⟩
   ·
    intro L a w_ hH hb hR hd ho
    obtain ⟨_, hl95, rfl⟩ := hd 1 rfl
    refine add hH hl95 rfl rfl (by omega) fun a94 h94 => ?_
    exact wpL_nil ⟨_, h94, Kept.refl _, rfl⟩
   ·
    intro L a w_ hH hb hR hd ho
    obtain ⟨_, hl94, rfl⟩ := hd 0 rfl
    obtain ⟨_, hl96, rfl⟩ := hd 2 rfl
    replace hp7' := hp7'.kept hR
    refine slR ((Pl.ahead n).length + 1) ((Pl.entPut n).length) hp7' hH Try.underlying25 hl94 Try.sizeOf35 ⟨_, hl96, by first | omega | (simp; omega)⟩ rfl (by omega) (Nat.le_refl _) rfl fun a95 v97' h95 hs97 => ?_
    exact wpL_nil ⟨_, h95, Kept.refl _, ⟨_, by have hX := hs97; rw [List.take_length, Pl.drop_ent hone] at hX; exact hX⟩⟩
   ·
    intro L a w_ hH hb hR hd ho
    have hl1 := hb 1 _ rfl
    refine fab hH hl1 Try.underlying32 rfl Try.sizeOf9 rfl 7 rfl rfl fun a96 h96 => ?_
    exact wpL_nil ⟨_, h96, Kept.refl _, rfl⟩
   ·
    intro L a w_ hH hb hR hd ho
    obtain ⟨_, hl98, rfl⟩ := hd 4 rfl
    replace hg1 := hg1.kept hR
    refine ldb hH hg1 hl98 Try.isAgg9 rfl rfl fun a97 h97 => ?_
    exact wpL_nil ⟨_, h97, Kept.refl _, rfl⟩
   ·
    intro L a w_ hH hb hR hd ho
    obtain ⟨_, hl99, rfl⟩ := hd 5 rfl
    refine lens hH rfl Try.underlying9 hl99 rfl fun a98 h98 => ?_
    exact wpL_nil ⟨_, h98, Kept.refl _, rfl⟩
   ·
    intro L a w_ hH hb hR hd ho
    obtain ⟨v97, hl97, hf97⟩ := hd 3 rfl
    obtain ⟨_, hl100, rfl⟩ := hd 6 rfl
    refine cal hH Try.call37 (evs2 hl97 hl100) (c_text _ _ (n.data.length : Int) _ hf97.choose_spec (by omega) ⟨by omega, by omega⟩) rfl ?_
    rintro v16 w16 a99 ⟨rfl, hk16⟩ h99
    exact wpL_nil ⟨_, h99, hk16, (by rw [Pl.textB_cutB]; rfl)⟩
   ·
    intro L a w_ hH hb hR hd ho
    obtain ⟨_, hl101, rfl⟩ := hd 7 rfl
    refine mv hH hl101 rfl fun a100 h100 => ?_
    exact wpL_nil ⟨_, h100, Kept.refl _, rfl⟩
   ·
    intro L a w_ hH hb hR hd ho
    obtain ⟨_, hl93, rfl⟩ := hd 8 rfl
    refine ext2_0 hH hl93 rfl fun a101 h101 => ?_
    exact wpL_nil ⟨_, h101, Kept.refl _, rfl⟩
   ·
    intro L a w_ hH hb hR hd ho
    obtain ⟨_, hl93, rfl⟩ := hd 8 rfl
    refine ext2_1 hH hl93 rfl fun a102 h102 => ?_
    exact wpL_nil ⟨_, h102, Kept.refl _, rfl⟩
   ·
    intro L a w_ hH hb hR hd ho
    obtain ⟨_, hl102, rfl⟩ := hd 9 rfl
    refine asg hH hl102 rfl fun a103 h103 => ?_
    exact wpL_nil ⟨_, h103, Kept.refl _, rfl⟩
   ·
    intro L a w_ hH hb hR hd ho
    obtain ⟨_, hl103, rfl⟩ := hd 10 rfl
    refine asg hH hl103 rfl fun a104 h104 => ?_
    exact wpL_nil ⟨_, h104, Kept.refl _, rfl⟩
   intro L17 a105 w17 h105 hbh105 hRh105 hdh105
   obtain ⟨_, hl94, rfl⟩ := hdh105 0 (by decide)
   obtain ⟨_, hl95, rfl⟩ := hdh105 1 (by decide)
   obtain ⟨_, hl96, rfl⟩ := hdh105 2 (by decide)
   obtain ⟨v97, hl97, hf97⟩ := hdh105 3 (by decide)
   obtain ⟨_, hl98, rfl⟩ := hdh105 4 (by decide)
   obtain ⟨_, hl99, rfl⟩ := hdh105 5 (by decide)
   obtain ⟨_, hl100, rfl⟩ := hdh105 6 (by decide)
   obtain ⟨_, hl101, rfl⟩ := hdh105 7 (by decide)
   obtain ⟨_, hl93, rfl⟩ := hdh105 8 (by decide)
   obtain ⟨_, hl102, rfl⟩ := hdh105 9 (by decide)
   obtain ⟨_, hl103, rfl⟩ := hdh105 10 (by decide)
   obtain ⟨_, hl12, rfl⟩ := hdh105 11 (by decide)
   obtain ⟨_, hl13, rfl⟩ := hdh105 12 (by decide)
   have h106 := Has.under h105 hbh105
   have h107 := (h105.add hl13 (h105.add hl12 (h105.add hl103 (h105.add hl102 (h105.add hl93 (h105.add hl101 (h105.add hl100 (h105.add hl99 (h105.add hl98 (h105.add hl97 (h105.add hl96 (h105.add hl95 (h105.add hl94 h106)))))))))))))
   clear h106 hl94 hl95 hl96 hl97 hl98 hl99 hl100 hl101 hl93 hl102 hl103 hl12 hl13 hbh105 hdh105
   replace hB := Kept.trans hB hRh105
   replace hg1 := hg1.kept hRh105
   replace hg5 := hg5.kept hRh105
   replace hlw7 := Nat.le_trans hlw7 hRh105.size
   replace hg10 := hg10.kept hRh105
   refine hK16 _ _ ?_
   refine sq fun K17 hK17 => ?_
   refine reg [some 104, some 105, some 106, some 107, some 108, some 109, some 110, some 111, some 112, some 113, some 114, some 115, some 116, some 117, some 118, some 119, some 120, some 121, some 122, some 123, some 124, some 125, some 126, some 127, some 128, some 129, some 130, some 131, some 132, some 133, some 134, some 135, some 136, some 137, some 138, some 139, some 140, some 141, some 142, some 143, some 144, some 145, some 146, some 147, some 148, some 149, some 150, some 151, some 152, some 153, some 154, some 155, some 156, some 157, some 158, some 159, some 160, some 161, some 162, some 163, some 164, some 165, some 166, some 2] rfl ?_
   refine mv h107 rfl rfl fun a108 h108 => ?_
   refine ieq h108 rfl rfl rfl fun a109 h109 => ?_
   refine mv h109 rfl rfl fun a110 h110 => ?_
   refine knownT h110 (d := 106) rfl (by rw [heb]; rfl) fun hb43 => ?_
   have hp43 := of_decide_eq_true hb43
   refine gon h110 (d := 106) rfl rfl hb43 ?_
   refine ldbn h110 hg10 (hdCells (Pl.getH (Pl.entBlk n)).1) rfl Try.isAgg41 Try.sizeOf41 rfl rfl fun a111 h111 => ?_
   refine gon h111 (d := 106) rfl rfl hb43 ?_
   refine ldbn h111 hg5 (hdCells (Pl.entHead n)) rfl Try.isAgg41 Try.sizeOf41 rfl rfl fun a112 h112 => ?_
   refine gon h112 (d := 106) rfl rfl hb43 ?_
   refine steq h112 (eqHD (Pl.getH (Pl.entBlk n)).1 (Pl.entHead n)) rfl rfl eqg41 rfl fun a113 h113 => ?_
   refine pkt h113 rfl hb43 rfl rfl fun a114 h114 => ?_
   refine mv h114 rfl rfl fun a115 h115 => ?_
   refine knownT h115 (d := 111) rfl (by rw [heb]; simp) fun hb44 => ?_
   have hp44 := of_decide_eq_true hb44
   refine gon h115 (d := 111) rfl rfl hb44 ?_
   refine mv h115 rfl rfl fun a116 h116 => ?_
   refine pkt h116 rfl hb44 rfl rfl fun a117 h117 => ?_
   refine mv h117 rfl rfl fun a118 h118 => ?_
   refine gon h118 (d := 114) rfl rfl rfl ?_
   refine mv h118 rfl rfl fun a119 h119 => ?_
   refine gon h119 (d := 114) rfl rfl rfl ?_
   refine fab h119 rfl Try.underlying32 rfl Try.sizeOf9 rfl 7 rfl rfl fun a120 h120 => ?_
   refine gon h120 (d := 114) rfl rfl rfl ?_
   refine ldb h120 hg1 rfl Try.isAgg9 rfl rfl fun a121 h121 => ?_
   refine gon h121 (d := 114) rfl rfl rfl ?_
   refine seq h121 rfl rfl rfl fun a122 h122 => ?_
   refine pkt h122 rfl rfl rfl rfl fun a123 h123 => ?_
   refine mv h123 rfl rfl fun a124 h124 => ?_
   refine knownT h124 (d := 120) rfl (by simp) fun hb45 => ?_
   have hp45 := of_decide_eq_true hb45
   refine gon h124 (d := 120) rfl rfl hb45 ?_
   refine ldbn h124 hg5 (hdCells (Pl.entHead n)) rfl Try.isAgg41 Try.sizeOf41 rfl rfl fun a125 h125 => ?_
   refine gon h125 (d := 120) rfl rfl hb45 ?_
   refine cal h125 Try.call45 rfl (c_headMay (Pl.entHead n) _ (entHead_range hone (by omega))) rfl ?_
   rintro v18 w18 a126 ⟨rfl, hk18⟩ h126
   replace hB := Kept.trans hB hk18
   replace hg1 := hg1.kept hk18
   replace hg5 := hg5.kept hk18
   replace hlw7 := Nat.le_trans hlw7 hk18.size
   refine pkt h126 rfl hb45 rfl rfl fun a127 h127 => ?_
   refine mv h127 rfl rfl fun a128 h128 => ?_
   refine knownT h128 (d := 124) rfl (Pl.entHead_may hone) fun hb46 => ?_
   refine gon h128 (d := 124) rfl rfl hb46 ?_
   refine fab h128 rfl Try.underlying41 rfl Try.sizeOf3 rfl 3 rfl rfl fun a129 h129 => ?_
   refine gon h129 (d := 124) rfl rfl hb46 ?_
   refine ldb h129 hg5 rfl Try.isAgg3 rfl rfl fun a130 h130 => ?_
   refine gon h130 (d := 124) rfl rfl hb46 ?_
   refine fab h130 rfl Try.underlying32 rfl Try.sizeOf3 rfl 3 rfl rfl fun a131 h131 => ?_
   refine gon h131 (d := 124) rfl rfl hb46 ?_
   refine ldb h131 hg1 rfl Try.isAgg3 rfl rfl fun a132 h132 => ?_
   refine gon h132 (d := 124) rfl rfl hb46 ?_
   refine ieq h132 rfl rfl rfl fun a133 h133 => ?_
   refine pkt h133 rfl hb46 rfl rfl fun a134 h134 => ?_
   refine mv h134 rfl rfl fun a135 h135 => ?_
   refine knownT h135 (d := 131) rfl (by simp [Pl.entHead]) fun hb47 => ?_
   have hp47 := of_decide_eq_true hb47
   refine gon h135 (d := 131) rfl rfl hb47 ?_
   refine fab h135 rfl Try.underlying41 rfl Try.sizeOf3 rfl 4 rfl rfl fun a136 h136 => ?_
   refine gon h136 (d := 131) rfl rfl hb47 ?_
   refine ldb h136 hg5 rfl Try.isAgg3 rfl rfl fun a137 h137 => ?_
   refine gon h137 (d := 131) rfl rfl hb47 ?_
   refine fab h137 rfl Try.underlying32 rfl Try.sizeOf3 rfl 4 rfl rfl fun a138 h138 => ?_
   refine gon h138 (d := 131) rfl rfl hb47 ?_
   refine ldb h138 hg1 rfl Try.isAgg3 rfl rfl fun a139 h139 => ?_
   refine gon h139 (d := 131) rfl rfl hb47 ?_
   refine ieq h139 rfl rfl rfl fun a140 h140 => ?_
   refine pkt h140 rfl hb47 rfl rfl fun a141 h141 => ?_
   refine mv h141 rfl rfl fun a142 h142 => ?_
   refine knownT h142 (d := 138) rfl (by simp [Pl.entHead]) fun hb48 => ?_
   have hp48 := of_decide_eq_true hb48
   refine gon h142 (d := 138) rfl rfl hb48 ?_
   refine fab h142 rfl Try.underlying41 rfl Try.sizeOf3 rfl 5 rfl rfl fun a143 h143 => ?_
   refine gon h143 (d := 138) rfl rfl hb48 ?_
   refine ldb h143 hg5 rfl Try.isAgg3 rfl rfl fun a144 h144 => ?_
   refine gon h144 (d := 138) rfl rfl hb48 ?_
   refine fab h144 rfl Try.underlying32 rfl Try.sizeOf3 rfl 5 rfl rfl fun a145 h145 => ?_
   refine gon h145 (d := 138) rfl rfl hb48 ?_
   refine ldb h145 hg1 rfl Try.isAgg3 rfl rfl fun a146 h146 => ?_
   refine gon h146 (d := 138) rfl rfl hb48 ?_
   refine ieq h146 rfl rfl rfl fun a147 h147 => ?_
   refine pkt h147 rfl hb48 rfl rfl fun a148 h148 => ?_
   refine mv h148 rfl rfl fun a149 h149 => ?_
   refine knownT h149 (d := 145) rfl (by simp [Pl.entHead]) fun hb49 => ?_
   have hp49 := of_decide_eq_true hb49
   refine gon h149 (d := 145) rfl rfl hb49 ?_
   refine fab h149 rfl Try.underlying41 rfl Try.sizeOf3 rfl 7 rfl rfl fun a150 h150 => ?_
   refine gon h150 (d := 145) rfl rfl hb49 ?_
   refine ldb h150 hg5 rfl Try.isAgg3 rfl rfl fun a151 h151 => ?_
   refine gon h151 (d := 145) rfl rfl hb49 ?_
   refine fab h151 rfl Try.underlying32 rfl Try.sizeOf3 rfl 6 rfl rfl fun a152 h152 => ?_
   refine gon h152 (d := 145) rfl rfl hb49 ?_
   refine ldb h152 hg1 rfl Try.isAgg3 rfl rfl fun a153 h153 => ?_
   refine gon h153 (d := 145) rfl rfl hb49 ?_
   refine ieq h153 rfl rfl rfl fun a154 h154 => ?_
   refine pkt h154 rfl hb49 rfl rfl fun a155 h155 => ?_
   refine mv h155 rfl rfl fun a156 h156 => ?_
   refine knownT h156 (d := 152) rfl (by simp [Pl.entHead]) fun hb50 => ?_
   have hp50 := of_decide_eq_true hb50
   refine gon h156 (d := 152) rfl rfl hb50 ?_
   refine fab h156 rfl Try.underlying41 rfl Try.sizeOf5 rfl 8 rfl rfl fun a157 h157 => ?_
   refine gon h157 (d := 152) rfl rfl hb50 ?_
   refine ldb h157 hg5 rfl Try.isAgg5 rfl rfl fun a158 h158 => ?_
   refine gon h158 (d := 152) rfl rfl hb50 ?_
   refine fab h158 rfl Try.underlying32 rfl Try.sizeOf5 rfl 2 rfl rfl fun a159 h159 => ?_
   refine gon h159 (d := 152) rfl rfl hb50 ?_
   refine ldb h159 hg1 rfl Try.isAgg5 rfl rfl fun a160 h160 => ?_
   refine gon h160 (d := 152) rfl rfl hb50 ?_
   refine ieq h160 rfl rfl rfl fun a161 h161 => ?_
   refine pkt h161 rfl hb50 rfl rfl fun a162 h162 => ?_
   refine mv h162 rfl rfl fun a163 h163 => ?_
   refine knownT h163 (d := 159) rfl (by simp [Pl.entHead]) fun hb51 => ?_
   have hp51 := of_decide_eq_true hb51
   refine gon h163 (d := 159) rfl rfl hb51 ?_
   refine fab h163 rfl Try.underlying41 rfl Try.sizeOf3 rfl 6 rfl rfl fun a164 h164 => ?_
   refine gon h164 (d := 159) rfl rfl hb51 ?_
   refine ldb h164 hg5 rfl Try.isAgg3 rfl rfl fun a165 h165 => ?_
   refine gon h165 (d := 159) rfl rfl hb51 ?_
   refine fab h165 rfl Try.underlying32 rfl Try.sizeOf9 rfl 7 rfl rfl fun a166 h166 => ?_
   refine gon h166 (d := 159) rfl rfl hb51 ?_
   refine ldb h166 hg1 rfl Try.isAgg9 rfl rfl fun a167 h167 => ?_
   refine gon h167 (d := 159) rfl rfl hb51 ?_
   refine lens h167 rfl Try.underlying9 rfl rfl fun a168 h168 => ?_
   refine gon h168 (d := 159) rfl rfl hb51 ?_
   refine ieq h168 rfl rfl rfl fun a169 h169 => ?_
   refine pkt h169 rfl hb51 rfl rfl fun a170 h170 => ?_
   refine asg h170 rfl rfl fun a171 h171 => ?_
   clear hK16 h107 h108 h109 h110 h111 h112 h113 h114 h115 h116 h117 h118 h119 h120 h121 h122 h123 h124 h125 h126 h127 h128 h129 h130 h131 h132 h133 h134 h135 h136 h137 h138 h139 h140 h141 h142 h143 h144 h145 h146 h147 h148 h149 h150 h151 h152 h153 h154 h155 h156 h157 h158 h159 h160 h161 h162 h163 h164 h165 h166 h167 h168 h169 h170 K16 a108 a109 a110 a111 a112 a113 a114 a115 a116 a117 a118 a119 a120 a121 a122 a123 a124 a125 a126 a127 a128 a129 a130 a131 a132 a133 a134 a135 a136 a137 a138 a139 a140 a141 a142 a143 a144 a145 a146 a147 a148 a149 a150 a151 a152 a153 a154 a155 a156 a157 a158 a159 a160 a161 a162 a163 a164 a165 a166 a167 a168 a169 a170
   refine wpL_nil (hK17 _ _ ?_)
   refine rtn (leave h171 (res1 h171 rfl (rvt rfl)) ?_)
   first | exact ⟨_, rfl, rfl, hB⟩ | exact ⟨_, rfl, by rw [Pl.entPut_none hno]; rfl, hB⟩ | exact ⟨_, rfl, by simp [Pl.entHead], hB⟩

end Go.Proofs.Ytpgeogdmjgmimaa
