/-
  Walks, written by wip/gen/gen.py.
-/
import Derived.Test.YtpgeogdmjgmimaaW24
import Derived.Test.YtpgeogdmjgmimaaPCont
set_option linter.unusedVariables false
set_option linter.unusedSimpArgs false
set_option maxRecDepth 4000
namespace Go.Proofs.Ytpgeogdmjgmimaa
open Go Go.RowKit K

/-- A literal's value. -/
theorem bld32_0_2_3_4_5_6 (x0 : ByteArray) (x2 : Int) (x3 : Int) (x4 : Int) (x5 : Int) (x6 : Int) (w : World) : (Instr.build 32 [(0, (.string x0)), (2, (.int .u8 x2)), (3, (.int .i64 x3)), (4, (.int .i64 x4)), (5, (.int .i64 x5)), (6, (.int .i64 x6))].toArray).run Try.prog w = .ok (.agg #[.string x0, str [], .int .u8 x2, .int .i64 x3, .int .i64 x4, .int .i64 x5, .int .i64 x6, str []]) w := by kernel_rfl
def contGetV : Option (Pl.Nd × Int × Int × Nat) → Value
  | none => .tuple #[ndV Pl.Nd.none, .int .i64 0, .int .i64 0, .int .i64 0, .bool false]
  | some q => .tuple #[ndV q.1, .int .i64 q.2.1, .int .i64 q.2.2.1, .int .i64 (q.2.2.2 : Int), .bool true]
theorem cnode_L {nm : List UInt8} {h : Pl.Hd} (hl : nm.length ≤ 1000000) : NdL (Pl.contNode nm h) := ⟨hl, by simp [Pl.contNode], by simp [Pl.contNode]⟩
theorem isFile_one {n : Pl.Nd} (h : Pl.isFile n = true) : Pl.one n = true := by unfold Pl.isFile at h; rw [Bool.and_eq_true] at h; exact h.2
theorem trimZ_len (s : List UInt8) : (Pl.trimZ s).length ≤ s.length := by unfold Pl.trimZ; split <;> simp

set_option maxHeartbeats 8000000 in
/-- cont.Get -/
theorem c_contGet {S : Nat → Prop} (v : Value) (l : List (List UInt8)) (w : World) (hv : Rws S w v l) :
  C Try.prog 50 [v] w fun v w' => v = contGetV (Pl.contGet l) ∧ Kept w w' := by
 have hbd := hv.bound
 replace hv := hv.lt
 obtain ⟨Av, cv0, rfl⟩ := hv.isl
 refine enterE Try.func50 rfl 152 rfl rfl fun a0 h0 => ?_
 have hB := Kept.refl w
 refine sq fun K1 hK1 => ?_
 refine reg [some 1, some 2, some 3, some 4, some 5, some 6] rfl ?_
 refine bxv h0 rfl rfl rfl fun a1 w1 g1 h1 hk1 hz1 hg1 => ?_
 have hleg1 := Nat.le_trans hB.size hz1
 replace hB := Kept.trans hB hk1
 replace hv := hv.kept hk1
 refine alc h1 Try.zeroValue32 rfl rfl fun a2 w2 g2 h2 hk2 hz2 hg2 => ?_
 have hleg2 := Nat.le_trans hB.size hz2
 have hneg1g2 := Nat.lt_of_lt_of_le hg1.lt hz2
 replace hB := Kept.trans hB hk2
 replace hv := hv.kept hk2
 replace hg1 := hg1.kept hk2
 refine asg h2 rfl rfl fun a3 h3 => ?_
 refine asg h3 rfl rfl fun a4 h4 => ?_
 refine asg h4 rfl rfl fun a5 h5 => ?_
 refine asg h5 rfl rfl fun a6 h6 => ?_
 clear h0 h1 h2 h3 h4 h5 a0 a1 a2 a3 a4 a5
 refine wpL_nil (hK1 _ _ ?_)
 refine sq fun K2 hK2 => ?_
 refine reg [some 7] rfl ?_
 refine asg h6 rfl rfl fun a7 h7 => ?_
 clear hK1 h6 K1 a6
 refine wpL_nil (hK2 _ _ ?_)
 refine sq fun K3 hK3 => ?_
 refine reg [some 8] rfl ?_
 refine asg h7 rfl rfl fun a8 h8 => ?_
 clear hK2 h7 K2 a7
 refine wpL_nil (hK3 _ _ ?_)
 refine sq fun K4 hK4 => ?_
 refine reg [some 9, none] rfl ?_
 refine alc h8 Try.zeroValue3 rfl rfl fun a9 w3 g9 h9 hk3 hz9 hg9 => ?_
 have hleg9 := Nat.le_trans hB.size hz9
 have hneg1g9 := Nat.lt_of_lt_of_le hg1.lt hz9
 have hneg2g9 := Nat.lt_of_lt_of_le hg2.lt hz9
 replace hB := Kept.trans hB hk3
 replace hv := hv.kept hk3
 replace hg1 := hg1.kept hk3
 replace hg2 := hg2.kept hk3
 refine stb h9 hg9 rfl rfl _ rfl Try.sizeOf3 (by simp [Value.oneCell']) _ (by first | (simp [hdCells]; done) | (simp [ndCells]; done) | simp) rfl fun w4 hg9' hk4 => ?_
 replace hB := Kept.but hB hk4 (by omega)
 replace hv := hv.but hk4 (by intro hs; have := hs.2; omega)
 replace hg1 := hg1.but hk4 (by omega)
 replace hg2 := hg2.but hk4 (by omega)
 clear hg9; have hg9 := hg9'; clear hg9'
 clear hK3 h8 K3 a8
 refine wpL_nil (hK4 _ _ ?_)
 refine sq fun K5 hK5 => ?_
 refine reg [some 15, some 10] rfl ?_
 refine mkf h9 rfl rfl rfl fun a10 h10 => ?_
 refine asg h10 rfl rfl fun a11 h11 => ?_
 clear hK4 h9 h10 K4 a9 a10
 refine wpL_nil (hK5 _ _ ?_)
 refine sq fun K6 hK6 => ?_
 refine reg [some 17, some 18, some 16, some 19, some 20, some 11, none, some 12] rfl ?_
 refine mv h11 rfl rfl fun a12 h12 => ?_
 have hgl9 := hg9.lt; have hgl1 := hg1.lt
 refine clv h12 rfl Try.call106 rfl _ rfl (c_cnext g9 g1 _ l 0 _ (by omega) hg9 hg1 hv (by omega) (by intro hs; have := hs.2; omega)) rfl ?_
 rintro v5 w5 a13 ⟨rfl, hg9', hk5⟩ h13
 replace hB := Kept.but hB hk5 (by omega)
 replace hv := hv.but hk5 (by intro hs; have := hs.2; omega)
 replace hg1 := hg1.but hk5 (by omega)
 replace hg2 := hg2.but hk5 (by omega)
 clear hg9; have hg9 := hg9'; clear hg9'
 refine mv h13 rfl rfl fun a14 h14 => ?_
 refine ext2_0 h14 rfl rfl fun a15 h15 => ?_
 refine ext2_1 h15 rfl rfl fun a16 h16 => ?_
 refine alc h16 Try.zeroValue41 rfl rfl fun a17 w6 g11 h17 hk6 hz11 hg11 => ?_
 have hleg11 := Nat.le_trans hB.size hz11
 have hneg1g11 := Nat.lt_of_lt_of_le hg1.lt hz11
 have hneg2g11 := Nat.lt_of_lt_of_le hg2.lt hz11
 have hneg9g11 := Nat.lt_of_lt_of_le hg9.lt hz11
 replace hB := Kept.trans hB hk6
 replace hv := hv.kept hk6
 replace hg1 := hg1.kept hk6
 replace hg2 := hg2.kept hk6
 replace hg9 := hg9.kept hk6
 refine stb h17 hg11 rfl rfl _ rfl Try.sizeOf41 (by first | exact hd_one _ | exact nd_one _ | exact nd_one Pl.Nd.none | (simp [Value.oneCell']; done)) _ (by first | (simp [hdCells]; done) | (simp [ndCells]; done) | simp) rfl fun w7 hg11' hk7 => ?_
 replace hB := Kept.but hB hk7 (by omega)
 replace hv := hv.but hk7 (by intro hs; have := hs.2; omega)
 replace hg1 := hg1.but hk7 (by omega)
 replace hg2 := hg2.but hk7 (by omega)
 replace hg9 := hg9.but hk7 (by omega)
 clear hg11; have hg11 := hg11'; clear hg11'
 refine asg h17 rfl rfl fun a18 h18 => ?_
 clear hK5 h11 h12 h13 h14 h15 h16 h17 K5 a11 a12 a13 a14 a15 a16 a17
 refine wpL_nil (hK6 _ _ ?_)
 refine sq fun K7 hK7 => ?_
 refine sq fun K8 hK8 => ?_
 refine reg [some 21, some 22, some 23, some 24, some 25, some 26] rfl ?_
 refine mv h18 rfl rfl fun a19 h19 => ?_
 refine mv h19 rfl rfl fun a20 h20 => ?_
 refine spl h20 (d := 22) rfl (fun hb1 => ?_) (fun hb1 => ?_)
 ·
  have hok0 := hb1
  obtain ⟨b0, hbb0, he0, hq10, hq20⟩ := Pl.nx_ok hb1
  rw [hq20] at hg9
  rw [hq10] at hg11
  have hm0 := (Pl.getH_ok he0).1
  have hnn0 := Pl.mayH_nonneg hm0
  have hl0 := (List.getElem?_eq_some_iff.1 hbb0).1
  refine gon h20 (d := 22) rfl rfl hb1 ?_
  refine fab h20 rfl Try.underlying41 rfl Try.sizeOf5 rfl 8 rfl rfl fun a21 h21 => ?_
  refine gon h21 (d := 22) rfl rfl hb1 ?_
  refine ldb h21 hg11 rfl Try.isAgg5 rfl rfl fun a22 h22 => ?_
  refine gon h22 (d := 22) rfl rfl hb1 ?_
  refine ieq h22 rfl rfl rfl fun a23 h23 => ?_
  refine pkt h23 rfl hb1 rfl rfl fun a24 h24 => ?_
  clear hK6 h18 h19 h20 h21 h22 h23 K6 a18 a19 a20 a21 a22 a23
  refine wpL_nil (hK8 _ _ ?_)
  refine spl h24 (d := 26) rfl (fun hb2 => ?_) (fun hb2 => ?_)
  ·
   have hp2 := of_decide_eq_true hb2
   have ht76 : (nx l 0).1.typ = 76 := UInt8.toNat_inj.1 (by rw [hq10]; show (Pl.getH b0).1.typ.toNat = 76; omega)
   refine cdt h24 rfl hb2 ?_
   refine sq fun K9 hK9 => ?_
   refine sq fun K10 hK10 => ?_
   refine reg [some 27, some 28, some 29, some 30, some 31, some 32, some 33, some 34, some 35, some 36, some 37, some 38, some 39, some 40, some 41, some 42, some 43, some 44, some 45, some 46, some 47, some 48] rfl ?_
   refine ldb h24 hg9 rfl Try.isAgg3 rfl rfl fun a25 h25 => ?_
   refine ldb h25 hg1 rfl Try.isAgg25 rfl rfl fun a26 h26 => ?_
   refine lnx h26 rfl Try.underlying25 rfl hv.isl rfl fun a27 h27 => ?_
   refine geq h27 rfl rfl rfl fun a28 h28 => ?_
   refine mv h28 rfl rfl fun a29 h29 => ?_
   refine spl h29 (d := 31) rfl (fun hb3 => ?_) (fun hb3 => ?_)
   ·
    have hp3 := of_decide_eq_true hb3
    refine goff h29 (d := 31) rfl rfl hb3 rfl fun a30 h30 => ?_
    refine goff h30 (d := 31) rfl rfl hb3 rfl fun a31 h31 => ?_
    refine goff h31 (d := 31) rfl rfl hb3 rfl fun a32 h32 => ?_
    refine goff h32 (d := 31) rfl rfl hb3 rfl fun a33 h33 => ?_
    refine goff h33 (d := 31) rfl rfl hb3 rfl fun a34 h34 => ?_
    refine goff h34 (d := 31) rfl rfl hb3 rfl fun a35 h35 => ?_
    refine pkt h35 rfl hb3 rfl rfl fun a36 h36 => ?_
    refine mv h36 rfl rfl fun a37 h37 => ?_
    refine goff h37 (d := 39) rfl rfl rfl rfl fun a38 h38 => ?_
    refine goff h38 (d := 39) rfl rfl rfl rfl fun a39 h39 => ?_
    refine goff h39 (d := 39) rfl rfl rfl rfl fun a40 h40 => ?_
    refine pkt h40 rfl rfl rfl rfl fun a41 h41 => ?_
    refine mv h41 rfl rfl fun a42 h42 => ?_
    refine goff h42 (d := 44) rfl rfl rfl rfl fun a43 h43 => ?_
    refine goff h43 (d := 44) rfl rfl rfl rfl fun a44 h44 => ?_
    refine goff h44 (d := 44) rfl rfl rfl rfl fun a45 h45 => ?_
    refine pkt h45 rfl rfl rfl rfl fun a46 h46 => ?_
    clear hK8 h24 h25 h26 h27 h28 h29 h30 h31 h32 h33 h34 h35 h36 h37 h38 h39 h40 h41 h42 h43 h44 h45 K8 a24 a25 a26 a27 a28 a29 a30 a31 a32 a33 a34 a35 a36 a37 a38 a39 a40 a41 a42 a43 a44 a45
    refine wpL_nil (hK10 _ _ ?_)
    refine cdt h46 rfl rfl ?_
    refine sq fun K11 hK11 => ?_
    refine reg [some 49, some 50, some 51, some 52, some 53, some 54, some 55, none, some 3, some 4, some 5, some 6] rfl ?_
    refine mv h46 rfl rfl fun a47 h47 => ?_
    refine clv h47 rfl Try.call105 rfl _ rfl (c_cno _) rfl ?_
    rintro v8 w8 a48 ⟨rfl, hk8⟩ h48
    replace hB := Kept.trans hB hk8
    replace hv := hv.kept hk8
    replace hg2 := hg2.kept hk8
    refine ext5_0 h48 rfl rfl fun a49 h49 => ?_
    refine ext5_1 h49 rfl rfl fun a50 h50 => ?_
    refine ext5_2 h50 rfl rfl fun a51 h51 => ?_
    refine ext5_3 h51 rfl rfl fun a52 h52 => ?_
    refine ext5_4 h52 rfl rfl fun a53 h53 => ?_
    refine stb h53 hg2 rfl rfl _ rfl Try.sizeOf32 (by first | exact hd_one _ | exact nd_one _ | exact nd_one Pl.Nd.none | (simp [Value.oneCell']; done)) _ (by first | (simp [hdCells]; done) | (simp [ndCells]; done) | simp) rfl fun w9 hg2' hk9 => ?_
    replace hB := Kept.but hB hk9 (by omega)
    replace hv := hv.but hk9 (by intro hs; have := hs.2; omega)
    clear hg2; have hg2 := hg2'; clear hg2'
    refine asg h53 rfl rfl fun a54 h54 => ?_
    refine asg h54 rfl rfl fun a55 h55 => ?_
    refine asg h55 rfl rfl fun a56 h56 => ?_
    refine asg h56 rfl rfl fun a57 h57 => ?_
    clear hK10 h46 h47 h48 h49 h50 h51 h52 h53 h54 h55 h56 K10 a46 a47 a48 a49 a50 a51 a52 a53 a54 a55 a56
    refine wpL_nil (hK11 _ _ ?_)
    refine rtn (leave h57 (res5 h57 rfl (rva (ndCells Pl.Nd.none) hg2 rfl Try.isAgg32 Try.sizeOf32 rfl) (rvt rfl) (rvt rfl) (rvt rfl) (rvt rfl)) ?_)
    first | exact ⟨_, rfl, by rw [Pl.cg_no1 hno0]; rfl, hB⟩ | exact ⟨_, rfl, by rw [Pl.cg_b1 hok0 ht76 (by omega)]; rfl, hB⟩ | exact ⟨_, rfl, by rw [Pl.cg_b2 hok0 ht76 hbb1 (by rw [hq10]; omega)]; rfl, hB⟩ | exact ⟨_, rfl, by rw [Pl.cg_b3 hok0 ht76 hbb1 hnc hno2]; rfl, hB⟩ | exact ⟨_, rfl, by rw [hcg, Pl.ce_no (fun e => by have hq9 := congrArg UInt8.toNat e; simp at hq9; omega)]; rfl, hB⟩ | exact ⟨_, rfl, by rw [hce, if_neg (by rintro ⟨h1, -⟩; rw [Pl.contOk_eq] at h1; simp only [hb1, hb2, hb3, Bool.true_and, Bool.false_and, Bool.false_eq_true] at h1; done)]; rfl, hB⟩
   ·
    have hp3 := of_decide_eq_false hb3
    obtain ⟨b1, hbb1⟩ : ∃ x, l[1]? = some x := ⟨_, List.getElem?_eq_getElem (by have := of_decide_eq_false hb3; omega)⟩
    have hl1 := (List.getElem?_eq_some_iff.1 hbb1).1
    clear hK8 h24 h25 h26 h27 h28 K8 a24 a25 a26 a27 a28
    obtain ⟨Al, cl, vl, heV, hIv, hVv⟩ := hv.vec
    injection heV with eA _ eC; replace eA := eA.symm; replace eC := eC.symm; subst eA; subst eC
    obtain ⟨u1, hu1⟩ : ∃ u, vl[1]? = some u := ⟨_, List.getElem?_eq_getElem (by rw [hVv.1]; omega)⟩
    have hbu := hVv.2 1 _ _ hu1 hbb1
    obtain ⟨adv, rfl⟩ := hIv.some_ (by rw [hVv.1]; omega)
    refine gon h29 (d := 31) rfl rfl hb3 ?_
    refine ldb h29 hg1 rfl Try.isAgg25 rfl rfl fun a58 h58 => ?_
    refine gon h58 (d := 31) rfl rfl hb3 ?_
    refine ldb h58 hg9 rfl Try.isAgg3 rfl rfl fun a59 h59 => ?_
    refine gon h59 (d := 31) rfl rfl hb3 ?_
    refine ixa h59 rfl rfl Try.underlying25 Try.sizeOf35 ⟨by omega, by omega⟩ rfl fun a60 h60 => ?_
    refine gon h60 (d := 31) rfl rfl hb3 ?_
    refine ld1 h60 rfl Try.isAgg35 (cellK hIv hu1) rfl fun a61 h61 => ?_
    refine gon h61 (d := 31) rfl rfl hb3 ?_
    refine lnx h61 rfl Try.underlying35 rfl hbu.isl rfl fun a62 h62 => ?_
    refine gon h62 (d := 31) rfl rfl hb3 ?_
    refine ineq h62 rfl rfl rfl fun a63 h63 => ?_
    refine pkf h63 rfl hb3 rfl rfl fun a64 h64 => ?_
    refine mv h64 rfl rfl fun a65 h65 => ?_
    refine spl h65 (d := 39) rfl (fun hb4 => ?_) (fun hb4 => ?_)
    ·
     have hp4 := of_decide_eq_false (bunt hb4)
     refine goff h65 (d := 39) rfl rfl (bnf (bunt hb4)) rfl fun a66 h66 => ?_
     refine goff h66 (d := 39) rfl rfl (bnf (bunt hb4)) rfl fun a67 h67 => ?_
     refine goff h67 (d := 39) rfl rfl (bnf (bunt hb4)) rfl fun a68 h68 => ?_
     refine pkt h68 rfl (bnf (bunt hb4)) rfl rfl fun a69 h69 => ?_
     refine mv h69 rfl rfl fun a70 h70 => ?_
     refine goff h70 (d := 44) rfl rfl rfl rfl fun a71 h71 => ?_
     refine goff h71 (d := 44) rfl rfl rfl rfl fun a72 h72 => ?_
     refine goff h72 (d := 44) rfl rfl rfl rfl fun a73 h73 => ?_
     refine pkt h73 rfl rfl rfl rfl fun a74 h74 => ?_
     clear h29 h58 h59 h60 h61 h62 h63 h64 h65 h66 h67 h68 h69 h70 h71 h72 h73 a29 a58 a59 a60 a61 a62 a63 a64 a65 a66 a67 a68 a69 a70 a71 a72 a73
     refine wpL_nil (hK10 _ _ ?_)
     refine cdt h74 rfl rfl ?_
     refine sq fun K12 hK12 => ?_
     refine reg [some 49, some 50, some 51, some 52, some 53, some 54, some 55, none, some 3, some 4, some 5, some 6] rfl ?_
     refine mv h74 rfl rfl fun a75 h75 => ?_
     refine clv h75 rfl Try.call105 rfl _ rfl (c_cno _) rfl ?_
     rintro v10 w10 a76 ⟨rfl, hk10⟩ h76
     replace hB := Kept.trans hB hk10
     replace hv := hv.kept hk10
     replace hg2 := hg2.kept hk10
     refine ext5_0 h76 rfl rfl fun a77 h77 => ?_
     refine ext5_1 h77 rfl rfl fun a78 h78 => ?_
     refine ext5_2 h78 rfl rfl fun a79 h79 => ?_
     refine ext5_3 h79 rfl rfl fun a80 h80 => ?_
     refine ext5_4 h80 rfl rfl fun a81 h81 => ?_
     refine stb h81 hg2 rfl rfl _ rfl Try.sizeOf32 (by first | exact hd_one _ | exact nd_one _ | exact nd_one Pl.Nd.none | (simp [Value.oneCell']; done)) _ (by first | (simp [hdCells]; done) | (simp [ndCells]; done) | simp) rfl fun w11 hg2' hk11 => ?_
     replace hB := Kept.but hB hk11 (by omega)
     replace hv := hv.but hk11 (by intro hs; have := hs.2; omega)
     clear hg2; have hg2 := hg2'; clear hg2'
     refine asg h81 rfl rfl fun a82 h82 => ?_
     refine asg h82 rfl rfl fun a83 h83 => ?_
     refine asg h83 rfl rfl fun a84 h84 => ?_
     refine asg h84 rfl rfl fun a85 h85 => ?_
     clear hK10 h74 h75 h76 h77 h78 h79 h80 h81 h82 h83 h84 K10 a74 a75 a76 a77 a78 a79 a80 a81 a82 a83 a84
     refine wpL_nil (hK12 _ _ ?_)
     refine rtn (leave h85 (res5 h85 rfl (rva (ndCells Pl.Nd.none) hg2 rfl Try.isAgg32 Try.sizeOf32 rfl) (rvt rfl) (rvt rfl) (rvt rfl) (rvt rfl)) ?_)
     first | exact ⟨_, rfl, by rw [Pl.cg_no1 hno0]; rfl, hB⟩ | exact ⟨_, rfl, by rw [Pl.cg_b1 hok0 ht76 (by omega)]; rfl, hB⟩ | exact ⟨_, rfl, by rw [Pl.cg_b2 hok0 ht76 hbb1 (by rw [hq10]; omega)]; rfl, hB⟩ | exact ⟨_, rfl, by rw [Pl.cg_b3 hok0 ht76 hbb1 hnc hno2]; rfl, hB⟩ | exact ⟨_, rfl, by rw [hcg, Pl.ce_no (fun e => by have hq9 := congrArg UInt8.toNat e; simp at hq9; omega)]; rfl, hB⟩ | exact ⟨_, rfl, by rw [hce, if_neg (by rintro ⟨h1, -⟩; rw [Pl.contOk_eq] at h1; simp only [hb1, hb2, hb3, (bunt hb4), Bool.true_and, Bool.false_and, Bool.false_eq_true] at h1; done)]; rfl, hB⟩
    ·
     have hp4 := of_decide_eq_true (bunf hb4)
     refine gon h65 (d := 39) rfl rfl (bnt (bunf hb4)) ?_
     refine fab h65 rfl Try.underlying41 rfl Try.sizeOf3 rfl 6 rfl rfl fun a86 h86 => ?_
     refine gon h86 (d := 39) rfl rfl (bnt (bunf hb4)) ?_
     refine ldb h86 hg11 rfl Try.isAgg3 rfl rfl fun a87 h87 => ?_
     refine gon h87 (d := 39) rfl rfl (bnt (bunf hb4)) ?_
     refine lss h87 rfl rfl rfl fun a88 h88 => ?_
     refine pkf h88 rfl (bnt (bunf hb4)) rfl rfl fun a89 h89 => ?_
     refine mv h89 rfl rfl fun a90 h90 => ?_
     refine spl h90 (d := 44) rfl (fun hb5 => ?_) (fun hb5 => ?_)
     ·
      have hp5 := of_decide_eq_true hb5
      refine goff h90 (d := 44) rfl rfl hb5 rfl fun a91 h91 => ?_
      refine goff h91 (d := 44) rfl rfl hb5 rfl fun a92 h92 => ?_
      refine goff h92 (d := 44) rfl rfl hb5 rfl fun a93 h93 => ?_
      refine pkt h93 rfl hb5 rfl rfl fun a94 h94 => ?_
      clear h29 h58 h59 h60 h61 h62 h63 h64 h65 h86 h87 h88 h89 h90 h91 h92 h93 a29 a58 a59 a60 a61 a62 a63 a64 a65 a86 a87 a88 a89 a90 a91 a92 a93
      refine wpL_nil (hK10 _ _ ?_)
      refine cdt h94 rfl rfl ?_
      refine sq fun K13 hK13 => ?_
      refine reg [some 49, some 50, some 51, some 52, some 53, some 54, some 55, none, some 3, some 4, some 5, some 6] rfl ?_
      refine mv h94 rfl rfl fun a95 h95 => ?_
      refine clv h95 rfl Try.call105 rfl _ rfl (c_cno _) rfl ?_
      rintro v12 w12 a96 ⟨rfl, hk12⟩ h96
      replace hB := Kept.trans hB hk12
      replace hv := hv.kept hk12
      replace hg2 := hg2.kept hk12
      refine ext5_0 h96 rfl rfl fun a97 h97 => ?_
      refine ext5_1 h97 rfl rfl fun a98 h98 => ?_
      refine ext5_2 h98 rfl rfl fun a99 h99 => ?_
      refine ext5_3 h99 rfl rfl fun a100 h100 => ?_
      refine ext5_4 h100 rfl rfl fun a101 h101 => ?_
      refine stb h101 hg2 rfl rfl _ rfl Try.sizeOf32 (by first | exact hd_one _ | exact nd_one _ | exact nd_one Pl.Nd.none | (simp [Value.oneCell']; done)) _ (by first | (simp [hdCells]; done) | (simp [ndCells]; done) | simp) rfl fun w13 hg2' hk13 => ?_
      replace hB := Kept.but hB hk13 (by omega)
      replace hv := hv.but hk13 (by intro hs; have := hs.2; omega)
      clear hg2; have hg2 := hg2'; clear hg2'
      refine asg h101 rfl rfl fun a102 h102 => ?_
      refine asg h102 rfl rfl fun a103 h103 => ?_
      refine asg h103 rfl rfl fun a104 h104 => ?_
      refine asg h104 rfl rfl fun a105 h105 => ?_
      clear hK10 h94 h95 h96 h97 h98 h99 h100 h101 h102 h103 h104 K10 a94 a95 a96 a97 a98 a99 a100 a101 a102 a103 a104
      refine wpL_nil (hK13 _ _ ?_)
      refine rtn (leave h105 (res5 h105 rfl (rva (ndCells Pl.Nd.none) hg2 rfl Try.isAgg32 Try.sizeOf32 rfl) (rvt rfl) (rvt rfl) (rvt rfl) (rvt rfl)) ?_)
      first | exact ⟨_, rfl, by rw [Pl.cg_no1 hno0]; rfl, hB⟩ | exact ⟨_, rfl, by rw [Pl.cg_b1 hok0 ht76 (by omega)]; rfl, hB⟩ | exact ⟨_, rfl, by rw [Pl.cg_b2 hok0 ht76 hbb1 (by rw [hq10]; omega)]; rfl, hB⟩ | exact ⟨_, rfl, by rw [Pl.cg_b3 hok0 ht76 hbb1 hnc hno2]; rfl, hB⟩ | exact ⟨_, rfl, by rw [hcg, Pl.ce_no (fun e => by have hq9 := congrArg UInt8.toNat e; simp at hq9; omega)]; rfl, hB⟩ | exact ⟨_, rfl, by rw [hce, if_neg (by rintro ⟨h1, -⟩; rw [Pl.contOk_eq] at h1; simp only [hb1, hb2, hb3, (bunf hb4), hb5, Bool.true_and, Bool.false_and, Bool.false_eq_true] at h1; done)]; rfl, hB⟩
     ·
      have hp5 := of_decide_eq_false hb5
      refine gon h90 (d := 44) rfl rfl hb5 ?_
      refine fab h90 rfl Try.underlying41 rfl Try.sizeOf3 rfl 6 rfl rfl fun a106 h106 => ?_
      refine gon h106 (d := 44) rfl rfl hb5 ?_
      refine ldb h106 hg11 rfl Try.isAgg3 rfl rfl fun a107 h107 => ?_
      refine gon h107 (d := 44) rfl rfl hb5 ?_
      refine gtr h107 rfl rfl rfl fun a108 h108 => ?_
      refine pkf h108 rfl hb5 rfl rfl fun a109 h109 => ?_
      clear h29 h58 h59 h60 h61 h62 h63 h64 h65 h86 h87 h88 h89 h90 h106 h107 h108 a29 a58 a59 a60 a61 a62 a63 a64 a65 a86 a87 a88 a89 a90 a106 a107 a108
      refine wpL_nil (hK10 _ _ ?_)
      refine spl h109 (d := 48) rfl (fun hb6 => ?_) (fun hb6 => ?_)
      ·
       have hp6 := of_decide_eq_true hb6
       refine cdt h109 rfl hb6 ?_
       refine sq fun K14 hK14 => ?_
       refine reg [some 49, some 50, some 51, some 52, some 53, some 54, some 55, none, some 3, some 4, some 5, some 6] rfl ?_
       refine mv h109 rfl rfl fun a110 h110 => ?_
       refine clv h110 rfl Try.call105 rfl _ rfl (c_cno _) rfl ?_
       rintro v14 w14 a111 ⟨rfl, hk14⟩ h111
       replace hB := Kept.trans hB hk14
       replace hv := hv.kept hk14
       replace hg2 := hg2.kept hk14
       refine ext5_0 h111 rfl rfl fun a112 h112 => ?_
       refine ext5_1 h112 rfl rfl fun a113 h113 => ?_
       refine ext5_2 h113 rfl rfl fun a114 h114 => ?_
       refine ext5_3 h114 rfl rfl fun a115 h115 => ?_
       refine ext5_4 h115 rfl rfl fun a116 h116 => ?_
       refine stb h116 hg2 rfl rfl _ rfl Try.sizeOf32 (by first | exact hd_one _ | exact nd_one _ | exact nd_one Pl.Nd.none | (simp [Value.oneCell']; done)) _ (by first | (simp [hdCells]; done) | (simp [ndCells]; done) | simp) rfl fun w15 hg2' hk15 => ?_
       replace hB := Kept.but hB hk15 (by omega)
       replace hv := hv.but hk15 (by intro hs; have := hs.2; omega)
       clear hg2; have hg2 := hg2'; clear hg2'
       refine asg h116 rfl rfl fun a117 h117 => ?_
       refine asg h117 rfl rfl fun a118 h118 => ?_
       refine asg h118 rfl rfl fun a119 h119 => ?_
       refine asg h119 rfl rfl fun a120 h120 => ?_
       clear hK10 h109 h110 h111 h112 h113 h114 h115 h116 h117 h118 h119 K10 a109 a110 a111 a112 a113 a114 a115 a116 a117 a118 a119
       refine wpL_nil (hK14 _ _ ?_)
       refine rtn (leave h120 (res5 h120 rfl (rva (ndCells Pl.Nd.none) hg2 rfl Try.isAgg32 Try.sizeOf32 rfl) (rvt rfl) (rvt rfl) (rvt rfl) (rvt rfl)) ?_)
       first | exact ⟨_, rfl, by rw [Pl.cg_no1 hno0]; rfl, hB⟩ | exact ⟨_, rfl, by rw [Pl.cg_b1 hok0 ht76 (by omega)]; rfl, hB⟩ | exact ⟨_, rfl, by rw [Pl.cg_b2 hok0 ht76 hbb1 (by rw [hq10]; omega)]; rfl, hB⟩ | exact ⟨_, rfl, by rw [Pl.cg_b3 hok0 ht76 hbb1 hnc hno2]; rfl, hB⟩ | exact ⟨_, rfl, by rw [hcg, Pl.ce_no (fun e => by have hq9 := congrArg UInt8.toNat e; simp at hq9; omega)]; rfl, hB⟩ | exact ⟨_, rfl, by rw [hce, if_neg (by rintro ⟨h1, -⟩; rw [Pl.contOk_eq] at h1; simp only [hb1, hb2, hb3, (bunf hb4), hb5, hb6, Bool.true_and, Bool.false_and, Bool.false_eq_true] at h1; done)]; rfl, hB⟩
      ·
       have hp6 := of_decide_eq_false hb6
       have hnc : ¬ (b1.length ≠ 512 ∨ (nx l 0).1.size < 2 ∨ 301 < (nx l 0).1.size) := by rw [hq10]; omega
       refine cdf h109 rfl hb6 ?_
       refine skp (hK9 _ _ ?_)
       refine sq fun K15 hK15 => ?_
       clear hK10 hK9 K10 K9
       refine drw h109 [some 56, some 57, some 58, some 59, some 60, some 61, some 62, some 63, some 64, some 8] rfl [Fx (.slice (some adv) l.length cl), Fx (.int .i64 1), Fx (.pointer (some (adv.add ((1 : Int).toNat * 1)))), fun v w' => ∃ S0 : Nat → Prop, Byt S0 w' v b1, Fx (.pointer (some ⟨g11, 6, none⟩)), Fx (.int .i64 (Pl.getH b0).1.size), fun v w' => ∃ S0 : Nat → Prop, Byt S0 w' v ((b1.take (Pl.getH b0).1.size.toNat).drop 0), Fx (str ((b1.take (Pl.getH b0).1.size.toNat).drop 0)), Fx (str (Pl.trimZ (b1.take (Pl.getH b0).1.size.toNat))), Fx (str (Pl.trimZ (b1.take (Pl.getH b0).1.size.toNat)))] Kept rfl rfl rfl rfl (drewKept _) keptT (mcons mfx (mcons mfx (mcons mfx (mcons (fun v w w' hk h => ⟨_, h.choose_spec.kept hk⟩) (mcons mfx (mcons mfx (mcons (fun v w w' hk h => ⟨_, h.choose_spec.kept hk⟩) (mcons mfx (mcons mfx (mcons mfx mnil)))))))))) ⟨?_, ?_, ?_, ?_, ?_, ?_, ?_, ?_, ?_, ?_, trivial⟩ ?_
       ·
        intro L a w_ hH hb hR hd ho
        have hl1 := hb 1 _ rfl
        replace hg1 := hg1.kept hR
        refine ldb hH hg1 hl1 Try.isAgg25 rfl rfl fun a121 h121 => ?_
        exact wpL_nil ⟨_, h121, Kept.refl _, rfl⟩
       ·
        intro L a w_ hH hb hR hd ho
        have hl9 := hb 9 _ rfl
        replace hg9 := hg9.kept hR
        refine ldb hH hg9 hl9 Try.isAgg3 rfl rfl fun a122 h122 => ?_
        exact wpL_nil ⟨_, h122, Kept.refl _, rfl⟩
       ·
        intro L a w_ hH hb hR hd ho
        obtain ⟨_, hl56, rfl⟩ := hd 0 rfl
        obtain ⟨_, hl57, rfl⟩ := hd 1 rfl
        refine ixa hH hl56 hl57 Try.underlying25 Try.sizeOf35 ⟨by omega, by omega⟩ rfl fun a123 h123 => ?_
        exact wpL_nil ⟨_, h123, Kept.refl _, rfl⟩
       ·
        intro L a w_ hH hb hR hd ho
        obtain ⟨_, hl58, rfl⟩ := hd 2 rfl
        replace hIv := hIv.kept hR
        replace hbu := hbu.kept hR
        refine ld1 hH hl58 Try.isAgg35 (cellK hIv hu1) rfl fun a124 h124 => ?_
        exact wpL_nil ⟨_, h124, Kept.refl _, ⟨_, hbu⟩⟩
       ·
        intro L a w_ hH hb hR hd ho
        have hl11 := hb 11 _ rfl
        refine fab hH hl11 Try.underlying41 rfl Try.sizeOf3 rfl 6 rfl rfl fun a125 h125 => ?_
        exact wpL_nil ⟨_, h125, Kept.refl _, rfl⟩
       ·
        intro L a w_ hH hb hR hd ho
        obtain ⟨_, hl60, rfl⟩ := hd 4 rfl
        replace hg11 := hg11.kept hR
        refine ldb hH hg11 hl60 Try.isAgg3 rfl rfl fun a126 h126 => ?_
        exact wpL_nil ⟨_, h126, Kept.refl _, rfl⟩
       ·
        intro L a w_ hH hb hR hd ho
        obtain ⟨v59, hl59, hf59⟩ := hd 3 rfl
        obtain ⟨_, hl61, rfl⟩ := hd 5 rfl
        obtain ⟨_, hb59⟩ := hf59
        refine slB (0) ((Pl.getH b0).1.size.toNat) hb59 hH Try.underlying35 hl59 Try.sizeOf5 rfl ⟨_, hl61, by first | omega | (simp; omega)⟩ (by omega) (by omega) rfl fun a127 v62' h127 hs62 => ?_
        exact wpL_nil ⟨_, h127, Kept.refl _, ⟨_, hs62⟩⟩
       ·
        intro L a w_ hH hb hR hd ho
        obtain ⟨v62, hl62, hf62⟩ := hd 6 rfl
        obtain ⟨_, hb62⟩ := hf62
        refine btos hH hl62 Try.underlying35 Try.underlying5 Try.underlying9 hb62 rfl fun a128 h128 => ?_
        exact wpL_nil ⟨_, h128, Kept.refl _, rfl⟩
       ·
        intro L a w_ hH hb hR hd ho
        obtain ⟨_, hl63, rfl⟩ := hd 7 rfl
        refine cal hH Try.call107 (evs2 hl63 rfl) (c_trimSuf ((b1.take (Pl.getH b0).1.size.toNat).drop 0) [0] _ (by simp; omega) (by simp)) rfl ?_
        rintro v16 w16 a129 ⟨rfl, rfl⟩ h129
        exact wpL_nil ⟨_, h129, Kept.refl _, (by rw [Pl.trimZ_suf, List.drop_zero]; exact rfl)⟩
       ·
        intro L a w_ hH hb hR hd ho
        obtain ⟨_, hl64, rfl⟩ := hd 8 rfl
        refine asg hH hl64 rfl fun a130 h130 => ?_
        exact wpL_nil ⟨_, h130, Kept.refl _, rfl⟩
       intro L17 a131 w17 h131 hbh131 hRh131 hdh131
       obtain ⟨_, hl56, rfl⟩ := hdh131 0 (by decide)
       obtain ⟨_, hl57, rfl⟩ := hdh131 1 (by decide)
       obtain ⟨_, hl58, rfl⟩ := hdh131 2 (by decide)
       obtain ⟨v59, hl59, hf59⟩ := hdh131 3 (by decide)
       obtain ⟨_, hl60, rfl⟩ := hdh131 4 (by decide)
       obtain ⟨_, hl61, rfl⟩ := hdh131 5 (by decide)
       obtain ⟨v62, hl62, hf62⟩ := hdh131 6 (by decide)
       obtain ⟨_, hl63, rfl⟩ := hdh131 7 (by decide)
       obtain ⟨_, hl64, rfl⟩ := hdh131 8 (by decide)
       obtain ⟨_, hl8, rfl⟩ := hdh131 9 (by decide)
       have h132 := Has.under h131 hbh131
       have h133 := (h131.add hl8 (h131.add hl64 (h131.add hl63 (h131.add hl62 (h131.add hl61 (h131.add hl60 (h131.add hl59 (h131.add hl58 (h131.add hl57 (h131.add hl56 h132))))))))))
       clear h132 hl56 hl57 hl58 hl59 hl60 hl61 hl62 hl63 hl64 hl8 hbh131 hdh131
       replace hB := Kept.trans hB hRh131
       replace hv := hv.kept hRh131
       replace hg1 := hg1.kept hRh131
       replace hg2 := hg2.kept hRh131
       replace hg9 := hg9.kept hRh131
       replace hg11 := hg11.kept hRh131
       refine hK15 _ _ ?_
       refine sq fun K16 hK16 => ?_
       refine reg [some 65, some 66, none] rfl ?_
       refine ldb h133 hg9 rfl Try.isAgg3 rfl rfl fun a134 h134 => ?_
       refine add h134 rfl rfl rfl (by omega) fun a135 h135 => ?_
       refine stb h135 hg9 rfl rfl _ rfl Try.sizeOf3 (by simp [Value.oneCell']) _ (by first | (simp [hdCells]; done) | (simp [ndCells]; done) | simp) rfl fun w18 hg9' hk18 => ?_
       replace hB := Kept.but hB hk18 (by omega)
       replace hv := hv.but hk18 (by intro hs; have := hs.2; omega)
       replace hg1 := hg1.but hk18 (by omega)
       replace hg2 := hg2.but hk18 (by omega)
       clear hg9; have hg9 := hg9'; clear hg9'
       replace hg11 := hg11.but hk18 (by omega)
       clear hK15 h133 h134 K15 a134
       refine wpL_nil (hK16 _ _ ?_)
       refine reg [some 68, some 69, some 67, some 70, some 71, none, some 12] rfl ?_
       refine mv h135 rfl rfl fun a136 h136 => ?_
       have hgl9 := hg9.lt; have hgl1 := hg1.lt
       refine clv h136 rfl Try.call106 rfl _ rfl (c_cnext g9 g1 _ l 2 _ (by omega) hg9 hg1 hv (by omega) (by intro hs; have := hs.2; omega)) rfl ?_
       rintro v19 w19 a137 ⟨rfl, hg9', hk19⟩ h137
       replace hB := Kept.but hB hk19 (by omega)
       replace hv := hv.but hk19 (by intro hs; have := hs.2; omega)
       replace hg1 := hg1.but hk19 (by omega)
       replace hg2 := hg2.but hk19 (by omega)
       clear hg9; have hg9 := hg9'; clear hg9'
       replace hg11 := hg11.but hk19 (by omega)
       refine mv h137 rfl rfl fun a138 h138 => ?_
       refine ext2_0 h138 rfl rfl fun a139 h139 => ?_
       refine ext2_1 h139 rfl rfl fun a140 h140 => ?_
       refine stb h140 hg11 rfl rfl _ rfl Try.sizeOf41 (by first | exact hd_one _ | exact nd_one _ | exact nd_one Pl.Nd.none | (simp [Value.oneCell']; done)) _ (by first | (simp [hdCells]; done) | (simp [ndCells]; done) | simp) rfl fun w20 hg11' hk20 => ?_
       replace hB := Kept.but hB hk20 (by omega)
       replace hv := hv.but hk20 (by intro hs; have := hs.2; omega)
       replace hg1 := hg1.but hk20 (by omega)
       replace hg2 := hg2.but hk20 (by omega)
       replace hg9 := hg9.but hk20 (by omega)
       clear hg11; have hg11 := hg11'; clear hg11'
       refine asg h140 rfl rfl fun a141 h141 => ?_
       clear hK16 h135 h136 h137 h138 h139 h140 K16 a135 a136 a137 a138 a139 a140
       refine wpL_nil (hK7 _ _ ?_)
       refine sq fun K17 hK17 => ?_
       refine sq fun K18 hK18 => ?_
       refine reg [some 72, some 73, some 74, some 75, some 76, some 77, some 78] rfl ?_
       refine mv h141 rfl rfl fun a142 h142 => ?_
       refine unot h142 rfl rfl fun a143 h143 => ?_
       refine mv h143 rfl rfl fun a144 h144 => ?_
       refine spl h144 (d := 74) rfl (fun hb7 => ?_) (fun hb7 => ?_)
       ·
        have hno2 := bunt hb7
        refine goff h144 (d := 74) rfl rfl (bnf (bunt hb7)) rfl fun a145 h145 => ?_
        refine goff h145 (d := 74) rfl rfl (bnf (bunt hb7)) rfl fun a146 h146 => ?_
        refine goff h146 (d := 74) rfl rfl (bnf (bunt hb7)) rfl fun a147 h147 => ?_
        refine pkt h147 rfl (bnf (bunt hb7)) rfl rfl fun a148 h148 => ?_
        clear hK7 h141 h142 h143 h144 h145 h146 h147 K7 a141 a142 a143 a144 a145 a146 a147
        refine wpL_nil (hK18 _ _ ?_)
        refine cdt h148 rfl rfl ?_
        refine sq fun K19 hK19 => ?_
        refine reg [some 79, some 80, some 81, some 82, some 83, some 84, some 85, none, some 3, some 4, some 5, some 6] rfl ?_
        refine mv h148 rfl rfl fun a149 h149 => ?_
        refine clv h149 rfl Try.call105 rfl _ rfl (c_cno _) rfl ?_
        rintro v21 w21 a150 ⟨rfl, hk21⟩ h150
        replace hB := Kept.trans hB hk21
        replace hv := hv.kept hk21
        replace hg2 := hg2.kept hk21
        refine ext5_0 h150 rfl rfl fun a151 h151 => ?_
        refine ext5_1 h151 rfl rfl fun a152 h152 => ?_
        refine ext5_2 h152 rfl rfl fun a153 h153 => ?_
        refine ext5_3 h153 rfl rfl fun a154 h154 => ?_
        refine ext5_4 h154 rfl rfl fun a155 h155 => ?_
        refine stb h155 hg2 rfl rfl _ rfl Try.sizeOf32 (by first | exact hd_one _ | exact nd_one _ | exact nd_one Pl.Nd.none | (simp [Value.oneCell']; done)) _ (by first | (simp [hdCells]; done) | (simp [ndCells]; done) | simp) rfl fun w22 hg2' hk22 => ?_
        replace hB := Kept.but hB hk22 (by omega)
        replace hv := hv.but hk22 (by intro hs; have := hs.2; omega)
        clear hg2; have hg2 := hg2'; clear hg2'
        refine asg h155 rfl rfl fun a156 h156 => ?_
        refine asg h156 rfl rfl fun a157 h157 => ?_
        refine asg h157 rfl rfl fun a158 h158 => ?_
        refine asg h158 rfl rfl fun a159 h159 => ?_
        clear hK18 h148 h149 h150 h151 h152 h153 h154 h155 h156 h157 h158 K18 a148 a149 a150 a151 a152 a153 a154 a155 a156 a157 a158
        refine wpL_nil (hK19 _ _ ?_)
        refine rtn (leave h159 (res5 h159 rfl (rva (ndCells Pl.Nd.none) hg2 rfl Try.isAgg32 Try.sizeOf32 rfl) (rvt rfl) (rvt rfl) (rvt rfl) (rvt rfl)) ?_)
        first | exact ⟨_, rfl, by rw [Pl.cg_no1 hno0]; rfl, hB⟩ | exact ⟨_, rfl, by rw [Pl.cg_b1 hok0 ht76 (by omega)]; rfl, hB⟩ | exact ⟨_, rfl, by rw [Pl.cg_b2 hok0 ht76 hbb1 (by rw [hq10]; omega)]; rfl, hB⟩ | exact ⟨_, rfl, by rw [Pl.cg_b3 hok0 ht76 hbb1 hnc hno2]; rfl, hB⟩ | exact ⟨_, rfl, by rw [hcg, Pl.ce_no (fun e => by have hq9 := congrArg UInt8.toNat e; simp at hq9; omega)]; rfl, hB⟩ | exact ⟨_, rfl, by rw [hce, if_neg (by rintro ⟨h1, -⟩; rw [Pl.contOk_eq] at h1; simp only [hb1, hb2, hb3, (bunf hb4), hb5, hb6, (bunt hb7), Bool.true_and, Bool.false_and, Bool.false_eq_true] at h1; done)]; rfl, hB⟩
       ·
        have hok2 := bunf hb7
        obtain ⟨b2, hbb2, he2, hq12, hq22⟩ := Pl.nx_ok hok2
        rw [hq22] at hg9
        rw [hq12] at hg11
        have hm2 := (Pl.getH_ok he2).1
        have hl2 := (List.getElem?_eq_some_iff.1 hbb2).1
        have hcg0 := Pl.cg_b hok0 ht76 hbb1 hnc hok2
        rw [hq12, hq10] at hcg0
        obtain ⟨hh, kk, hcg, hg11', hg9', hmm, hkk⟩ : ∃ (hh : Pl.Hd) (kk : Nat), Pl.contGet l = Pl.contEnd l kk (Pl.trimZ (b1.take (Pl.getH b0).1.size.toNat)) hh ∧ Blk w20 g11 41 (hdCells hh) ∧ Blk w20 g9 3 [.int .i64 (kk : Int)] ∧ Pl.mayH hh = true ∧ kk ≤ l.length := ⟨(Pl.getH b2).1, 3, hcg0, hg11, (by have hX := hg9; simpa using hX), hm2, by omega⟩
        replace hg11 := hg11'; replace hg9 := hg9'; clear hg11' hg9'
        have hnn := Pl.mayH_nonneg hmm
        have hmn := Pl.mayH_name hmm
        refine gon h144 (d := 74) rfl rfl (bnt (bunf hb7)) ?_
        refine fab h144 rfl Try.underlying41 rfl Try.sizeOf5 rfl 8 rfl rfl fun a160 h160 => ?_
        refine gon h160 (d := 74) rfl rfl (bnt (bunf hb7)) ?_
        refine ldb h160 hg11 rfl Try.isAgg5 rfl rfl fun a161 h161 => ?_
        refine gon h161 (d := 74) rfl rfl (bnt (bunf hb7)) ?_
        refine ineq h161 rfl rfl rfl fun a162 h162 => ?_
        refine pkf h162 rfl (bnt (bunf hb7)) rfl rfl fun a163 h163 => ?_
        clear hK7 h141 h142 h143 h144 h160 h161 h162 K7 a141 a142 a143 a144 a160 a161 a162
        refine wpL_nil (hK18 _ _ ?_)
        refine spl h163 (d := 78) rfl (fun hb8 => ?_) (fun hb8 => ?_)
        ·
         have hp8 := of_decide_eq_false (bunt hb8)
         refine cdt h163 rfl (bnf (bunt hb8)) ?_
         refine sq fun K20 hK20 => ?_
         refine reg [some 79, some 80, some 81, some 82, some 83, some 84, some 85, none, some 3, some 4, some 5, some 6] rfl ?_
         refine mv h163 rfl rfl fun a164 h164 => ?_
         refine clv h164 rfl Try.call105 rfl _ rfl (c_cno _) rfl ?_
         rintro v23 w23 a165 ⟨rfl, hk23⟩ h165
         replace hB := Kept.trans hB hk23
         replace hv := hv.kept hk23
         replace hg2 := hg2.kept hk23
         refine ext5_0 h165 rfl rfl fun a166 h166 => ?_
         refine ext5_1 h166 rfl rfl fun a167 h167 => ?_
         refine ext5_2 h167 rfl rfl fun a168 h168 => ?_
         refine ext5_3 h168 rfl rfl fun a169 h169 => ?_
         refine ext5_4 h169 rfl rfl fun a170 h170 => ?_
         refine stb h170 hg2 rfl rfl _ rfl Try.sizeOf32 (by first | exact hd_one _ | exact nd_one _ | exact nd_one Pl.Nd.none | (simp [Value.oneCell']; done)) _ (by first | (simp [hdCells]; done) | (simp [ndCells]; done) | simp) rfl fun w24 hg2' hk24 => ?_
         replace hB := Kept.but hB hk24 (by omega)
         replace hv := hv.but hk24 (by intro hs; have := hs.2; omega)
         clear hg2; have hg2 := hg2'; clear hg2'
         refine asg h170 rfl rfl fun a171 h171 => ?_
         refine asg h171 rfl rfl fun a172 h172 => ?_
         refine asg h172 rfl rfl fun a173 h173 => ?_
         refine asg h173 rfl rfl fun a174 h174 => ?_
         clear hK18 h163 h164 h165 h166 h167 h168 h169 h170 h171 h172 h173 K18 a163 a164 a165 a166 a167 a168 a169 a170 a171 a172 a173
         refine wpL_nil (hK20 _ _ ?_)
         refine rtn (leave h174 (res5 h174 rfl (rva (ndCells Pl.Nd.none) hg2 rfl Try.isAgg32 Try.sizeOf32 rfl) (rvt rfl) (rvt rfl) (rvt rfl) (rvt rfl)) ?_)
         first | exact ⟨_, rfl, by rw [Pl.cg_no1 hno0]; rfl, hB⟩ | exact ⟨_, rfl, by rw [Pl.cg_b1 hok0 ht76 (by omega)]; rfl, hB⟩ | exact ⟨_, rfl, by rw [Pl.cg_b2 hok0 ht76 hbb1 (by rw [hq10]; omega)]; rfl, hB⟩ | exact ⟨_, rfl, by rw [Pl.cg_b3 hok0 ht76 hbb1 hnc hno2]; rfl, hB⟩ | exact ⟨_, rfl, by rw [hcg, Pl.ce_no (fun e => by have hq9 := congrArg UInt8.toNat e; simp at hq9; omega)]; rfl, hB⟩ | exact ⟨_, rfl, by rw [hce, if_neg (by rintro ⟨h1, -⟩; rw [Pl.contOk_eq] at h1; simp only [hb1, hb2, hb3, (bunf hb4), hb5, hb6, (bunf hb7), (bunt hb8), Bool.true_and, Bool.false_and, Bool.false_eq_true] at h1; done)]; rfl, hB⟩
        ·
         have hp8 := of_decide_eq_true (bunf hb8)
         refine cdf h163 rfl (bnt (bunf hb8)) ?_
         refine skp (hK17 _ _ ?_)
         refine sq fun K21 hK21 => ?_
         refine sq fun K22 hK22 => ?_
         refine reg [some 86, some 87] rfl ?_
         refine mv h163 rfl rfl fun a175 h175 => ?_
         refine seq h175 rfl rfl rfl fun a176 h176 => ?_
         clear hK18 hK17 h163 h175 K18 K17 a163 a175
         refine wpL_nil (hK22 _ _ ?_)
         refine spl h176 (d := 87) rfl (fun hb9 => ?_) (fun hb9 => ?_)
         ·
          have hp9 := of_decide_eq_true hb9
          have hce := hcg.trans (Pl.ce_eq (UInt8.toNat_inj.1 (show hh.typ.toNat = 77 by omega)) hh.name (if_pos (of_decide_eq_true hb9)))
          have hnl : hh.name.length ≤ 1000 := by omega
          refine cdt h176 rfl hb9 ?_
          refine reg [some 88, some 89, some 8] rfl ?_
          refine fab h176 rfl Try.underlying41 rfl Try.sizeOf9 rfl 0 rfl rfl fun a177 h177 => ?_
          refine ldb h177 hg11 rfl Try.isAgg9 rfl rfl fun a178 h178 => ?_
          refine asg h178 rfl rfl fun a179 h179 => ?_
          clear hK22 h176 h177 h178 K22 a176 a177 a178
          refine wpL_nil (hK21 _ _ ?_)
          refine sq fun K23 hK23 => ?_
          refine reg [some 90, some 91, some 92, some 93, some 94, some 95, some 96, some 97, some 98, some 99, some 13, none] rfl ?_
          refine mv h179 rfl rfl fun a180 h180 => ?_
          refine fab h180 rfl Try.underlying41 rfl Try.sizeOf3 rfl 3 rfl rfl fun a181 h181 => ?_
          refine ldb h181 hg11 rfl Try.isAgg3 rfl rfl fun a182 h182 => ?_
          refine fab h182 rfl Try.underlying41 rfl Try.sizeOf3 rfl 4 rfl rfl fun a183 h183 => ?_
          refine ldb h183 hg11 rfl Try.isAgg3 rfl rfl fun a184 h184 => ?_
          refine fab h184 rfl Try.underlying41 rfl Try.sizeOf3 rfl 5 rfl rfl fun a185 h185 => ?_
          refine ldb h185 hg11 rfl Try.isAgg3 rfl rfl fun a186 h186 => ?_
          refine fab h186 rfl Try.underlying41 rfl Try.sizeOf3 rfl 7 rfl rfl fun a187 h187 => ?_
          refine ldb h187 hg11 rfl Try.isAgg3 rfl rfl fun a188 h188 => ?_
          refine bld h188 rfl (bld32_0_2_3_4_5_6 _ _ _ _ _ _) rfl fun a189 h189 => ?_
          refine alc h189 Try.zeroValue32 rfl rfl fun a190 w25 g13 h190 hk25 hz13 hg13 => ?_
          have hleg13 := Nat.le_trans hB.size hz13
          have hneg1g13 := Nat.lt_of_lt_of_le hg1.lt hz13
          have hneg2g13 := Nat.lt_of_lt_of_le hg2.lt hz13
          have hneg9g13 := Nat.lt_of_lt_of_le hg9.lt hz13
          have hneg11g13 := Nat.lt_of_lt_of_le hg11.lt hz13
          replace hB := Kept.trans hB hk25
          replace hv := hv.kept hk25
          replace hg1 := hg1.kept hk25
          replace hg2 := hg2.kept hk25
          replace hg9 := hg9.kept hk25
          replace hg11 := hg11.kept hk25
          refine stb h190 hg13 rfl rfl _ rfl Try.sizeOf32 (by first | exact hd_one _ | exact nd_one _ | exact nd_one Pl.Nd.none | (simp [Value.oneCell']; done)) _ (by first | (simp [hdCells]; done) | (simp [ndCells]; done) | simp) rfl fun w26 hg13' hk26 => ?_
          replace hB := Kept.but hB hk26 (by omega)
          replace hv := hv.but hk26 (by intro hs; have := hs.2; omega)
          replace hg1 := hg1.but hk26 (by omega)
          replace hg2 := hg2.but hk26 (by omega)
          replace hg9 := hg9.but hk26 (by omega)
          replace hg11 := hg11.but hk26 (by omega)
          clear hg13; have hg13 := hg13'; clear hg13'
          replace hg13 : Blk w26 g13 32 (ndCells (Pl.contNode hh.name hh)) := hg13
          clear hK21 h179 h180 h181 h182 h183 h184 h185 h186 h187 h188 h189 K21 a179 a180 a181 a182 a183 a184 a185 a186 a187 a188 a189
          refine wpL_nil (hK23 _ _ ?_)
          refine sq fun K24 hK24 => ?_
          refine reg [some 100, some 101, some 102, some 103, some 104, some 105, some 106, some 107, some 108, some 109, some 110, some 111, some 112, some 113, some 114, some 115, some 116, some 117, some 118, some 119, some 120, some 121, some 122, some 123, some 14] rfl ?_
          refine mv h190 rfl rfl fun a191 h191 => ?_
          refine cal h191 Try.call61 rfl (c_pathMay _ _ (by omega)) rfl ?_
          rintro v27 w27 a192 ⟨rfl, hk27⟩ h192
          replace hB := Kept.trans hB hk27
          replace hv := hv.kept hk27
          replace hg1 := hg1.kept hk27
          replace hg2 := hg2.kept hk27
          replace hg9 := hg9.kept hk27
          replace hg11 := hg11.kept hk27
          replace hg13 := hg13.kept hk27
          refine mv h192 rfl rfl fun a193 h193 => ?_
          refine spl h193 (d := 102) rfl (fun hb10 => ?_) (fun hb10 => ?_)
          ·
           refine gon h193 (d := 102) rfl rfl hb10 ?_
           refine ldbn h193 hg13 (ndCells (Pl.contNode hh.name hh)) rfl Try.isAgg32 Try.sizeOf32 rfl rfl fun a194 h194 => ?_
           refine gon h194 (d := 102) rfl rfl hb10 ?_
           refine cal h194 Try.call108 rfl (c_cfile _ _ (cnode_L (by omega))) rfl ?_
           rintro v28 w28 a195 ⟨rfl, hk28⟩ h195
           replace hB := Kept.trans hB hk28
           replace hv := hv.kept hk28
           replace hg1 := hg1.kept hk28
           replace hg2 := hg2.kept hk28
           replace hg9 := hg9.kept hk28
           replace hg11 := hg11.kept hk28
           replace hg13 := hg13.kept hk28
           refine pkt h195 rfl hb10 rfl rfl fun a196 h196 => ?_
           refine mv h196 rfl rfl fun a197 h197 => ?_
           refine spl h197 (d := 106) rfl (fun hb11 => ?_) (fun hb11 => ?_)
           ·
            have hone := isFile_one hb11
            refine gon h197 (d := 106) rfl rfl hb11 ?_
            refine fab h197 rfl Try.underlying41 rfl Try.sizeOf3 rfl 10 rfl rfl fun a198 h198 => ?_
            refine gon h198 (d := 106) rfl rfl hb11 ?_
            refine ldb h198 hg11 rfl Try.isAgg3 rfl rfl fun a199 h199 => ?_
            refine gon h199 (d := 106) rfl rfl hb11 ?_
            refine leq h199 rfl rfl rfl fun a200 h200 => ?_
            refine pkt h200 rfl hb11 rfl rfl fun a201 h201 => ?_
            refine mv h201 rfl rfl fun a202 h202 => ?_
            refine spl h202 (d := 111) rfl (fun hb12 => ?_) (fun hb12 => ?_)
            ·
             have hp12 := of_decide_eq_true hb12
             refine gon h202 (d := 111) rfl rfl hb12 ?_
             refine fab h202 rfl Try.underlying41 rfl Try.sizeOf3 rfl 9 rfl rfl fun a203 h203 => ?_
             refine gon h203 (d := 111) rfl rfl hb12 ?_
             refine ldb h203 hg11 rfl Try.isAgg3 rfl rfl fun a204 h204 => ?_
             refine gon h204 (d := 111) rfl rfl hb12 ?_
             refine fab h204 rfl Try.underlying41 rfl Try.sizeOf3 rfl 10 rfl rfl fun a205 h205 => ?_
             refine gon h205 (d := 111) rfl rfl hb12 ?_
             refine ldb h205 hg11 rfl Try.isAgg3 rfl rfl fun a206 h206 => ?_
             refine gon h206 (d := 111) rfl rfl hb12 ?_
             refine lss h206 rfl rfl rfl fun a207 h207 => ?_
             refine pkt h207 rfl hb12 rfl rfl fun a208 h208 => ?_
             refine mv h208 rfl rfl fun a209 h209 => ?_
             refine spl h209 (d := 118) rfl (fun hb13 => ?_) (fun hb13 => ?_)
             ·
              have hp13 := of_decide_eq_true hb13
              refine gon h209 (d := 118) rfl rfl hb13 ?_
              refine fab h209 rfl Try.underlying41 rfl Try.sizeOf3 rfl 9 rfl rfl fun a210 h210 => ?_
              refine gon h210 (d := 118) rfl rfl hb13 ?_
              refine ldb h210 hg11 rfl Try.isAgg3 rfl rfl fun a211 h211 => ?_
              refine gon h211 (d := 118) rfl rfl hb13 ?_
              refine rem h211 rfl rfl rfl (by omega) fun a212 h212 => ?_
              refine gon h212 (d := 118) rfl rfl hb13 ?_
              refine ieq h212 rfl rfl rfl fun a213 h213 => ?_
              refine pkt h213 rfl hb13 rfl rfl fun a214 h214 => ?_
              refine asg h214 rfl rfl fun a215 h215 => ?_
              clear hK23 h190 h191 h192 h193 h194 h195 h196 h197 h198 h199 h200 h201 h202 h203 h204 h205 h206 h207 h208 h209 h210 h211 h212 h213 h214 K23 a190 a191 a192 a193 a194 a195 a196 a197 a198 a199 a200 a201 a202 a203 a204 a205 a206 a207 a208 a209 a210 a211 a212 a213 a214
              refine wpL_nil (hK24 _ _ ?_)
              refine sq fun K25 hK25 => ?_
              refine sq fun K26 hK26 => ?_
              refine spl h215 (d := 14) rfl (fun hb14 => ?_) (fun hb14 => ?_)
              ·
               have hp14 := of_decide_eq_true hb14
               clear hK24 K24
               refine drw h215 [some 124, some 125, some 126, some 127, some 128, some 129, some 130, some 131, some 132, some 133, some 134, some 135, some 136, some 137, some 138] rfl [Fx (.bool (decide (hh.off % 512 = 0))), Fx (.bool (!(decide (hh.off % 512 = 0)))), Fx (.bool (!(decide (hh.off % 512 = 0)))), Fx (ndV (Pl.contNode hh.name hh)), Fx (.pointer (some ⟨g11, 9, none⟩)), Fx (.int .i64 hh.off), Fx (.pointer (some ⟨g11, 10, none⟩)), Fx (.int .i64 hh.real), fun v w' => ∃ S0 : Nat → Prop, Rws S0 w' v (Pl.contRaw (Pl.contNode hh.name hh) hh.off hh.real), Fx (.slice (some adv) l.length cl), Fx (.int .i64 (kk : Int)), fun v w' => ∃ S0 : Nat → Prop, Rws S0 w' v ((l.take kk).drop 0), Fx (.bool (decide ((Pl.contRaw (Pl.contNode hh.name hh) hh.off hh.real) = l.take kk))), Fx (.bool (!(decide ((Pl.contRaw (Pl.contNode hh.name hh) hh.off hh.real) = l.take kk)))), Fx (.bool (!(decide ((Pl.contRaw (Pl.contNode hh.name hh) hh.off hh.real) = l.take kk))))] Kept rfl rfl rfl rfl (drewKept _) keptT (mcons mfx (mcons mfx (mcons mfx (mcons mfx (mcons mfx (mcons mfx (mcons mfx (mcons mfx (mcons (fun v w w' hk h => ⟨_, h.choose_spec.kept hk⟩) (mcons mfx (mcons mfx (mcons (fun v w w' hk h => ⟨_, h.choose_spec.kept hk⟩) (mcons mfx (mcons mfx (mcons mfx mnil))))))))))))))) ⟨?_, ?_, ?_, ?_, ?_, ?_, ?_, ?_, ?_, ?_, ?_, ?_, ?_, ?_, ?_, trivial⟩ ?_
               ·
                intro L a w_ hH hb hR hd ho
                have hl14 := hb 14 _ rfl
                refine mv hH hl14 rfl fun a216 h216 => ?_
                exact wpL_nil ⟨_, h216, Kept.refl _, rfl⟩
               ·
                intro L a w_ hH hb hR hd ho
                obtain ⟨_, hl124, rfl⟩ := hd 0 rfl
                refine unot hH hl124 rfl fun a217 h217 => ?_
                exact wpL_nil ⟨_, h217, Kept.refl _, rfl⟩
               ·
                intro L a w_ hH hb hR hd ho
                obtain ⟨_, hl125, rfl⟩ := hd 1 rfl
                refine mv hH hl125 rfl fun a218 h218 => ?_
                exact wpL_nil ⟨_, h218, Kept.refl _, rfl⟩
               ·
                intro L a w_ hH hb hR hd ho
                have hl13 := hb 13 _ rfl
                obtain ⟨_, hl126, rfl⟩ := hd 2 rfl
                replace hg13 := hg13.kept hR
                refine gon hH rfl hl126 (bnt hb14) ?_
                refine ldbn hH hg13 ([str hh.name, str [], u8 48, .int .i64 hh.mode, .int .i64 hh.uid, .int .i64 hh.gid, .int .i64 hh.mtime, str []]) hl13 Try.isAgg32 Try.sizeOf32 rfl rfl fun a219 h219 => ?_
                exact wpL_nil ⟨_, h219, Kept.refl _, rfl⟩
               ·
                intro L a w_ hH hb hR hd ho
                have hl11 := hb 11 _ rfl
                obtain ⟨_, hl126, rfl⟩ := hd 2 rfl
                refine gon hH rfl hl126 (bnt hb14) ?_
                refine fab hH hl11 Try.underlying41 rfl Try.sizeOf3 rfl 9 rfl rfl fun a220 h220 => ?_
                exact wpL_nil ⟨_, h220, Kept.refl _, rfl⟩
               ·
                intro L a w_ hH hb hR hd ho
                obtain ⟨_, hl128, rfl⟩ := hd 4 rfl
                obtain ⟨_, hl126, rfl⟩ := hd 2 rfl
                replace hg11 := hg11.kept hR
                refine gon hH rfl hl126 (bnt hb14) ?_
                refine ldb hH hg11 hl128 Try.isAgg3 rfl rfl fun a221 h221 => ?_
                exact wpL_nil ⟨_, h221, Kept.refl _, rfl⟩
               ·
                intro L a w_ hH hb hR hd ho
                have hl11 := hb 11 _ rfl
                obtain ⟨_, hl126, rfl⟩ := hd 2 rfl
                refine gon hH rfl hl126 (bnt hb14) ?_
                refine fab hH hl11 Try.underlying41 rfl Try.sizeOf3 rfl 10 rfl rfl fun a222 h222 => ?_
                exact wpL_nil ⟨_, h222, Kept.refl _, rfl⟩
               ·
                intro L a w_ hH hb hR hd ho
                obtain ⟨_, hl130, rfl⟩ := hd 6 rfl
                obtain ⟨_, hl126, rfl⟩ := hd 2 rfl
                replace hg11 := hg11.kept hR
                refine gon hH rfl hl126 (bnt hb14) ?_
                refine ldb hH hg11 hl130 Try.isAgg3 rfl rfl fun a223 h223 => ?_
                exact wpL_nil ⟨_, h223, Kept.refl _, rfl⟩
               ·
                intro L a w_ hH hb hR hd ho
                obtain ⟨_, hl127, rfl⟩ := hd 3 rfl
                obtain ⟨_, hl129, rfl⟩ := hd 5 rfl
                obtain ⟨_, hl131, rfl⟩ := hd 7 rfl
                obtain ⟨_, hl126, rfl⟩ := hd 2 rfl
                refine gon hH rfl hl126 (bnt hb14) ?_
                refine cal hH Try.call102 (evs3 hl127 hl129 hl131) (c_cput (Pl.contNode hh.name hh) hh.off hh.real _ (cnode_L (by omega)) (one_R64 hone) ⟨by omega, by omega⟩ ⟨by omega, by omega⟩) rfl ?_
                rintro v29 w29 a224 ⟨hA29, hk29⟩ h224
                exact wpL_nil ⟨_, h224, hk29, ⟨_, hA29⟩⟩
               ·
                intro L a w_ hH hb hR hd ho
                have hl1 := hb 1 _ rfl
                obtain ⟨_, hl126, rfl⟩ := hd 2 rfl
                replace hg1 := hg1.kept hR
                refine gon hH rfl hl126 (bnt hb14) ?_
                refine ldb hH hg1 hl1 Try.isAgg25 rfl rfl fun a225 h225 => ?_
                exact wpL_nil ⟨_, h225, Kept.refl _, rfl⟩
               ·
                intro L a w_ hH hb hR hd ho
                have hl9 := hb 9 _ rfl
                obtain ⟨_, hl126, rfl⟩ := hd 2 rfl
                replace hg9 := hg9.kept hR
                refine gon hH rfl hl126 (bnt hb14) ?_
                refine ldb hH hg9 hl9 Try.isAgg3 rfl rfl fun a226 h226 => ?_
                exact wpL_nil ⟨_, h226, Kept.refl _, rfl⟩
               ·
                intro L a w_ hH hb hR hd ho
                obtain ⟨_, hl133, rfl⟩ := hd 9 rfl
                obtain ⟨_, hl134, rfl⟩ := hd 10 rfl
                obtain ⟨_, hl126, rfl⟩ := hd 2 rfl
                replace hv := hv.kept hR
                refine gon hH rfl hl126 (bnt hb14) ?_
                refine slR (0) (kk) hv hH Try.underlying25 hl133 Try.sizeOf35 rfl ⟨_, hl134, by first | omega | (simp; omega)⟩ (by omega) (by omega) rfl fun a227 v135' h227 hs135 => ?_
                exact wpL_nil ⟨_, h227, Kept.refl _, ⟨_, hs135⟩⟩
               ·
                intro L a w_ hH hb hR hd ho
                obtain ⟨v132, hl132, hf132⟩ := hd 8 rfl
                obtain ⟨v135, hl135, hf135⟩ := hd 11 rfl
                obtain ⟨_, hl126, rfl⟩ := hd 2 rfl
                refine gon hH rfl hl126 (bnt hb14) ?_
                obtain ⟨_, hb132⟩ := hf132
                obtain ⟨_, hb135⟩ := hf135
                refine cal hH Try.call109 (evs2 hl132 hl135) (c_bsame _ _ _ _ _ hb132 hb135) rfl ?_
                rintro v30 w30 a228 ⟨rfl, hk30⟩ h228
                exact wpL_nil ⟨_, h228, hk30, (by rw [List.drop_zero]; exact rfl)⟩
               ·
                intro L a w_ hH hb hR hd ho
                obtain ⟨_, hl136, rfl⟩ := hd 12 rfl
                obtain ⟨_, hl126, rfl⟩ := hd 2 rfl
                refine gon hH rfl hl126 (bnt hb14) ?_
                refine unot hH hl136 rfl fun a229 h229 => ?_
                exact wpL_nil ⟨_, h229, Kept.refl _, rfl⟩
               ·
                intro L a w_ hH hb hR hd ho
                obtain ⟨_, hl126, rfl⟩ := hd 2 rfl
                obtain ⟨_, hl137, rfl⟩ := hd 13 rfl
                refine pkf hH hl126 (bnt hb14) hl137 rfl fun a230 h230 => ?_
                exact wpL_nil ⟨_, h230, Kept.refl _, rfl⟩
               intro L31 a231 w31 h231 hbh231 hRh231 hdh231
               obtain ⟨_, hl124, rfl⟩ := hdh231 0 (by decide)
               obtain ⟨_, hl125, rfl⟩ := hdh231 1 (by decide)
               obtain ⟨_, hl126, rfl⟩ := hdh231 2 (by decide)
               obtain ⟨_, hl127, rfl⟩ := hdh231 3 (by decide)
               obtain ⟨_, hl128, rfl⟩ := hdh231 4 (by decide)
               obtain ⟨_, hl129, rfl⟩ := hdh231 5 (by decide)
               obtain ⟨_, hl130, rfl⟩ := hdh231 6 (by decide)
               obtain ⟨_, hl131, rfl⟩ := hdh231 7 (by decide)
               obtain ⟨v132, hl132, hf132⟩ := hdh231 8 (by decide)
               obtain ⟨_, hl133, rfl⟩ := hdh231 9 (by decide)
               obtain ⟨_, hl134, rfl⟩ := hdh231 10 (by decide)
               obtain ⟨v135, hl135, hf135⟩ := hdh231 11 (by decide)
               obtain ⟨_, hl136, rfl⟩ := hdh231 12 (by decide)
               obtain ⟨_, hl137, rfl⟩ := hdh231 13 (by decide)
               obtain ⟨_, hl138, rfl⟩ := hdh231 14 (by decide)
               have h232 := Has.under h231 hbh231
               have h233 := (h231.add hl138 (h231.add hl137 (h231.add hl136 (h231.add hl135 (h231.add hl134 (h231.add hl133 (h231.add hl132 (h231.add hl131 (h231.add hl130 (h231.add hl129 (h231.add hl128 (h231.add hl127 (h231.add hl126 (h231.add hl125 (h231.add hl124 h232)))))))))))))))
               clear h232 hl124 hl125 hl126 hl127 hl128 hl129 hl130 hl131 hl132 hl133 hl134 hl135 hl136 hl137 hl138 hbh231 hdh231
               replace hB := Kept.trans hB hRh231
               replace hv := hv.kept hRh231
               replace hg2 := hg2.kept hRh231
               replace hg9 := hg9.kept hRh231
               replace hg11 := hg11.kept hRh231
               replace hg13 := hg13.kept hRh231
               refine hK26 _ _ ?_
               refine spl h233 (d := 138) rfl (fun hb9005 => ?_) (fun hb9005 => ?_)
               ·
                refine cdt h233 rfl (bnf (bunt hb9005)) ?_
                refine sq fun K27 hK27 => ?_
                refine reg [some 139, some 140, some 141, some 142, some 143, some 144, some 145, none, some 3, some 4, some 5, some 6] rfl ?_
                refine mv h233 rfl rfl fun a234 h234 => ?_
                refine clv h234 rfl Try.call105 rfl _ rfl (c_cno _) rfl ?_
                rintro v32 w32 a235 ⟨rfl, hk32⟩ h235
                replace hB := Kept.trans hB hk32
                replace hv := hv.kept hk32
                replace hg2 := hg2.kept hk32
                refine ext5_0 h235 rfl rfl fun a236 h236 => ?_
                refine ext5_1 h236 rfl rfl fun a237 h237 => ?_
                refine ext5_2 h237 rfl rfl fun a238 h238 => ?_
                refine ext5_3 h238 rfl rfl fun a239 h239 => ?_
                refine ext5_4 h239 rfl rfl fun a240 h240 => ?_
                refine stb h240 hg2 rfl rfl _ rfl Try.sizeOf32 (by first | exact hd_one _ | exact nd_one _ | exact nd_one Pl.Nd.none | (simp [Value.oneCell']; done)) _ (by first | (simp [hdCells]; done) | (simp [ndCells]; done) | simp) rfl fun w33 hg2' hk33 => ?_
                replace hB := Kept.but hB hk33 (by omega)
                replace hv := hv.but hk33 (by intro hs; have := hs.2; omega)
                clear hg2; have hg2 := hg2'; clear hg2'
                refine asg h240 rfl rfl fun a241 h241 => ?_
                refine asg h241 rfl rfl fun a242 h242 => ?_
                refine asg h242 rfl rfl fun a243 h243 => ?_
                refine asg h243 rfl rfl fun a244 h244 => ?_
                clear hK26 h233 h234 h235 h236 h237 h238 h239 h240 h241 h242 h243 K26 a234 a235 a236 a237 a238 a239 a240 a241 a242 a243
                refine wpL_nil (hK27 _ _ ?_)
                refine rtn (leave h244 (res5 h244 rfl (rva (ndCells Pl.Nd.none) hg2 rfl Try.isAgg32 Try.sizeOf32 rfl) (rvt rfl) (rvt rfl) (rvt rfl) (rvt rfl)) ?_)
                first | exact ⟨_, rfl, by rw [hce, if_neg (by rintro ⟨-, h1⟩; exact absurd h1 (of_decide_eq_false (bunt hb9005)))]; rfl, hB⟩
               ·
                refine cdf h233 rfl (bnt (bunf hb9005)) ?_
                refine skp (hK25 _ _ ?_)
                refine sq fun K28 hK28 => ?_
                clear hK26 hK25 K26 K25
                refine drwL h233 [some 146, some 147, some 148, some 149, some 150, some 151, none, some 3, some 4, some 5, some 6] rfl [Fx (ndV (Pl.contNode hh.name hh)), Fx (.pointer (some ⟨g11, 9, none⟩)), Fx (.int .i64 hh.off), Fx (.pointer (some ⟨g11, 10, none⟩)), Fx (.int .i64 hh.real), Fx (.int .i64 (kk : Int)), fun _ w' => Blk w' g2 32 (ndCells (Pl.contNode hh.name hh)), Fx (.int .i64 hh.off), Fx (.int .i64 hh.real), Fx (.int .i64 (kk : Int)), Fx ((.bool true))] Kept (But g2) 6 [true, false, false, false, false, false, true, false, false, false, false] rfl rfl rfl rfl rfl rfl (drewKept _) keptT (fun _ _ _ h k => But.trans (Kept.toBut h _) k) (fun _ _ _ h k => But.trans h (Kept.toBut k _)) (fun _ _ h => Kept.toBut h _) ((mcons mfx (mcons mfx (mcons mfx (mcons mfx (mcons mfx (mcons mfx (mcons (fun v w w' hk h => h.kept hk) (mcons mfx (mcons mfx (mcons mfx (mcons mfx mnil)))))))))))) (MonoX.all (mconsX (fun _ => mfx) (mconsX (fun _ => mfx) (mconsX (fun _ => mfx) (mconsX (fun _ => mfx) (mconsX (fun _ => mfx) (mconsX (fun _ => mfx) (mconsX (fun h => absurd rfl h) (mconsX (fun _ => mfx) (mconsX (fun _ => mfx) (mconsX (fun _ => mfx) (mconsX (fun _ => mfx) mnilX)))))))))))) ⟨?_, ?_, ?_, ?_, ?_, ?_, ?_, ?_, ?_, ?_, ?_, trivial⟩ ?_
                ·
                 intro L a w_ hH hb hR hd ho
                 have hl13 := hb 13 _ rfl
                 replace hR : Kept w31 w_ := hR
                 replace hg13 := hg13.kept hR
                 refine ldbn hH hg13 ([str hh.name, str [], u8 48, .int .i64 hh.mode, .int .i64 hh.uid, .int .i64 hh.gid, .int .i64 hh.mtime, str []]) hl13 Try.isAgg32 Try.sizeOf32 rfl rfl fun a245 h245 => ?_
                 exact wpL_nil ⟨_, h245, Kept.refl _, rfl⟩
                ·
                 intro L a w_ hH hb hR hd ho
                 have hl11 := hb 11 _ rfl
                 replace hR : But g2 w31 w_ := hR
                 refine fab hH hl11 Try.underlying41 rfl Try.sizeOf3 rfl 9 rfl rfl fun a246 h246 => ?_
                 exact wpL_nil ⟨_, h246, Kept.refl _, rfl⟩
                ·
                 intro L a w_ hH hb hR hd ho
                 obtain ⟨_, hl147, rfl⟩ := hd 1 rfl
                 replace hR : But g2 w31 w_ := hR
                 replace hg11 := hg11.but hR (by omega)
                 refine ldb hH hg11 hl147 Try.isAgg3 rfl rfl fun a247 h247 => ?_
                 exact wpL_nil ⟨_, h247, Kept.refl _, rfl⟩
                ·
                 intro L a w_ hH hb hR hd ho
                 have hl11 := hb 11 _ rfl
                 replace hR : But g2 w31 w_ := hR
                 refine fab hH hl11 Try.underlying41 rfl Try.sizeOf3 rfl 10 rfl rfl fun a248 h248 => ?_
                 exact wpL_nil ⟨_, h248, Kept.refl _, rfl⟩
                ·
                 intro L a w_ hH hb hR hd ho
                 obtain ⟨_, hl149, rfl⟩ := hd 3 rfl
                 replace hR : But g2 w31 w_ := hR
                 replace hg11 := hg11.but hR (by omega)
                 refine ldb hH hg11 hl149 Try.isAgg3 rfl rfl fun a249 h249 => ?_
                 exact wpL_nil ⟨_, h249, Kept.refl _, rfl⟩
                ·
                 intro L a w_ hH hb hR hd ho
                 have hl9 := hb 9 _ rfl
                 replace hR : But g2 w31 w_ := hR
                 replace hg9 := hg9.but hR (by omega)
                 refine ldb hH hg9 hl9 Try.isAgg3 rfl rfl fun a250 h250 => ?_
                 exact wpL_nil ⟨_, h250, Kept.refl _, rfl⟩
                ·
                 intro L a w_ hH hb hR hd ho
                 have hl2 := hb 2 _ rfl
                 obtain ⟨_, hl146, rfl⟩ := hd 0 rfl
                 replace hR : Kept w31 w_ := hR
                 replace hg2 := hg2.kept hR
                 refine stb hH hg2 hl2 hl146 _ rfl Try.sizeOf32 (nd_one _) _ (by simp [ndCells]) rfl fun w34 hg2' hk34 => ?_
                 exact wpL_nil ⟨undef, hH, hk34, hg2'⟩
                ·
                 intro L a w_ hH hb hR hd ho
                 obtain ⟨_, hl148, rfl⟩ := hd 2 rfl
                 replace hR : But g2 w31 w_ := hR
                 refine asg hH hl148 rfl fun a251 h251 => ?_
                 exact wpL_nil ⟨_, h251, Kept.refl _, rfl⟩
                ·
                 intro L a w_ hH hb hR hd ho
                 obtain ⟨_, hl150, rfl⟩ := hd 4 rfl
                 replace hR : But g2 w31 w_ := hR
                 refine asg hH hl150 rfl fun a252 h252 => ?_
                 exact wpL_nil ⟨_, h252, Kept.refl _, rfl⟩
                ·
                 intro L a w_ hH hb hR hd ho
                 obtain ⟨_, hl151, rfl⟩ := hd 5 rfl
                 replace hR : But g2 w31 w_ := hR
                 refine asg hH hl151 rfl fun a253 h253 => ?_
                 exact wpL_nil ⟨_, h253, Kept.refl _, rfl⟩
                ·
                 intro L a w_ hH hb hR hd ho
                 replace hR : But g2 w31 w_ := hR
                 refine asg hH rfl rfl fun a254 h254 => ?_
                 exact wpL_nil ⟨_, h254, Kept.refl _, rfl⟩
                intro L35 a255 w35 h255 hbh255 hRh255 hdh255
                obtain ⟨_, hl146, rfl⟩ := hdh255 0 (by decide)
                obtain ⟨_, hl147, rfl⟩ := hdh255 1 (by decide)
                obtain ⟨_, hl148, rfl⟩ := hdh255 2 (by decide)
                obtain ⟨_, hl149, rfl⟩ := hdh255 3 (by decide)
                obtain ⟨_, hl150, rfl⟩ := hdh255 4 (by decide)
                obtain ⟨_, hl151, rfl⟩ := hdh255 5 (by decide)
                obtain ⟨_, hl3, rfl⟩ := hdh255 7 (by decide)
                obtain ⟨_, hl4, rfl⟩ := hdh255 8 (by decide)
                obtain ⟨_, hl5, rfl⟩ := hdh255 9 (by decide)
                obtain ⟨_, hl6, rfl⟩ := hdh255 10 (by decide)
                have hs6 := hdh255 6 (by decide)
                have h256 := Has.under h255 hbh255
                have h257 := (h255.add hl6 (h255.add hl5 (h255.add hl4 (h255.add hl3 (h255.add hl151 (h255.add hl150 (h255.add hl149 (h255.add hl148 (h255.add hl147 (h255.add hl146 h256))))))))))
                clear h256 hl146 hl147 hl148 hl149 hl150 hl151 hl3 hl4 hl5 hl6 hbh255 hdh255
                have hg2' := hs6
                replace hB := Kept.but hB hRh255 (by omega)
                replace hv := hv.but hRh255 (by intro hs; have := hs.2; omega)
                clear hg2; have hg2 := hg2'; clear hg2'
                refine hK28 _ _ ?_
                refine rtn (leave h257 (res5 h257 rfl (rva (ndCells (Pl.contNode hh.name hh)) hg2 rfl Try.isAgg32 Try.sizeOf32 rfl) (rvt rfl) (rvt rfl) (rvt rfl) (rvt rfl)) ?_)
                first | exact ⟨_, rfl, by rw [hce, if_pos ⟨by rw [Pl.contOk_eq]; simp only [hb1, hb2, hb3, (bunf hb4), hb5, hb6, (bunf hb7), (bunf hb8), hb9, hb10, hb11, hb12, hb13, hb14, (bunf hb9005), Bool.true_and], of_decide_eq_true (bunf hb9005)⟩]; rfl, hB⟩
              ·
               have hp14 := of_decide_eq_false hb14
               clear hK24 K24
               refine drw h215 [some 124, some 125, some 126, some 127, some 128, some 129, some 130, some 131, some 132, some 133, some 134, some 135, some 136, some 137, some 138] rfl [Fx (.bool (decide (hh.off % 512 = 0))), Fx (.bool (!(decide (hh.off % 512 = 0)))), Fx (.bool (!(decide (hh.off % 512 = 0)))), Fx (undef), Fx (undef), Fx (undef), Fx (undef), Fx (undef), Fx (undef), Fx (undef), Fx (undef), Fx (undef), Fx (undef), Fx (undef), Fx ((.bool true))] Kept rfl rfl rfl rfl (drewKept _) keptT (mcons mfx (mcons mfx (mcons mfx (mcons mfx (mcons mfx (mcons mfx (mcons mfx (mcons mfx (mcons mfx (mcons mfx (mcons mfx (mcons mfx (mcons mfx (mcons mfx (mcons mfx mnil))))))))))))))) ⟨?_, ?_, ?_, ?_, ?_, ?_, ?_, ?_, ?_, ?_, ?_, ?_, ?_, ?_, ?_, trivial⟩ ?_
               ·
                intro L a w_ hH hb hR hd ho
                have hl14 := hb 14 _ rfl
                refine mv hH hl14 rfl fun a258 h258 => ?_
                exact wpL_nil ⟨_, h258, Kept.refl _, rfl⟩
               ·
                intro L a w_ hH hb hR hd ho
                obtain ⟨_, hl124, rfl⟩ := hd 0 rfl
                refine unot hH hl124 rfl fun a259 h259 => ?_
                exact wpL_nil ⟨_, h259, Kept.refl _, rfl⟩
               ·
                intro L a w_ hH hb hR hd ho
                obtain ⟨_, hl125, rfl⟩ := hd 1 rfl
                refine mv hH hl125 rfl fun a260 h260 => ?_
                exact wpL_nil ⟨_, h260, Kept.refl _, rfl⟩
               ·
                intro L a w_ hH hb hR hd ho
                have hl13 := hb 13 _ rfl
                obtain ⟨_, hl126, rfl⟩ := hd 2 rfl
                refine goff hH rfl hl126 (bnf hb14) rfl fun a261 h261 => ?_
                exact wpL_nil ⟨_, h261, Kept.refl _, rfl⟩
               ·
                intro L a w_ hH hb hR hd ho
                have hl11 := hb 11 _ rfl
                obtain ⟨_, hl126, rfl⟩ := hd 2 rfl
                refine goff hH rfl hl126 (bnf hb14) rfl fun a262 h262 => ?_
                exact wpL_nil ⟨_, h262, Kept.refl _, rfl⟩
               ·
                intro L a w_ hH hb hR hd ho
                obtain ⟨_, hl128, rfl⟩ := hd 4 rfl
                obtain ⟨_, hl126, rfl⟩ := hd 2 rfl
                refine goff hH rfl hl126 (bnf hb14) rfl fun a263 h263 => ?_
                exact wpL_nil ⟨_, h263, Kept.refl _, rfl⟩
               ·
                intro L a w_ hH hb hR hd ho
                have hl11 := hb 11 _ rfl
                obtain ⟨_, hl126, rfl⟩ := hd 2 rfl
                refine goff hH rfl hl126 (bnf hb14) rfl fun a264 h264 => ?_
                exact wpL_nil ⟨_, h264, Kept.refl _, rfl⟩
               ·
                intro L a w_ hH hb hR hd ho
                obtain ⟨_, hl130, rfl⟩ := hd 6 rfl
                obtain ⟨_, hl126, rfl⟩ := hd 2 rfl
                refine goff hH rfl hl126 (bnf hb14) rfl fun a265 h265 => ?_
                exact wpL_nil ⟨_, h265, Kept.refl _, rfl⟩
               ·
                intro L a w_ hH hb hR hd ho
                obtain ⟨_, hl127, rfl⟩ := hd 3 rfl
                obtain ⟨_, hl129, rfl⟩ := hd 5 rfl
                obtain ⟨_, hl131, rfl⟩ := hd 7 rfl
                obtain ⟨_, hl126, rfl⟩ := hd 2 rfl
                refine goff hH rfl hl126 (bnf hb14) rfl fun a266 h266 => ?_
                exact wpL_nil ⟨_, h266, Kept.refl _, rfl⟩
               ·
                intro L a w_ hH hb hR hd ho
                have hl1 := hb 1 _ rfl
                obtain ⟨_, hl126, rfl⟩ := hd 2 rfl
                refine goff hH rfl hl126 (bnf hb14) rfl fun a267 h267 => ?_
                exact wpL_nil ⟨_, h267, Kept.refl _, rfl⟩
               ·
                intro L a w_ hH hb hR hd ho
                have hl9 := hb 9 _ rfl
                obtain ⟨_, hl126, rfl⟩ := hd 2 rfl
                refine goff hH rfl hl126 (bnf hb14) rfl fun a268 h268 => ?_
                exact wpL_nil ⟨_, h268, Kept.refl _, rfl⟩
               ·
                intro L a w_ hH hb hR hd ho
                obtain ⟨_, hl133, rfl⟩ := hd 9 rfl
                obtain ⟨_, hl134, rfl⟩ := hd 10 rfl
                obtain ⟨_, hl126, rfl⟩ := hd 2 rfl
                refine goff hH rfl hl126 (bnf hb14) rfl fun a269 h269 => ?_
                exact wpL_nil ⟨_, h269, Kept.refl _, rfl⟩
               ·
                intro L a w_ hH hb hR hd ho
                obtain ⟨_, hl132, rfl⟩ := hd 8 rfl
                obtain ⟨_, hl135, rfl⟩ := hd 11 rfl
                obtain ⟨_, hl126, rfl⟩ := hd 2 rfl
                refine goff hH rfl hl126 (bnf hb14) rfl fun a270 h270 => ?_
                exact wpL_nil ⟨_, h270, Kept.refl _, rfl⟩
               ·
                intro L a w_ hH hb hR hd ho
                obtain ⟨_, hl136, rfl⟩ := hd 12 rfl
                obtain ⟨_, hl126, rfl⟩ := hd 2 rfl
                refine goff hH rfl hl126 (bnf hb14) rfl fun a271 h271 => ?_
                exact wpL_nil ⟨_, h271, Kept.refl _, rfl⟩
               ·
                intro L a w_ hH hb hR hd ho
                obtain ⟨_, hl126, rfl⟩ := hd 2 rfl
                obtain ⟨_, hl137, rfl⟩ := hd 13 rfl
                refine pkt hH hl126 (bnf hb14) rfl rfl fun a272 h272 => ?_
                exact wpL_nil ⟨_, h272, Kept.refl _, rfl⟩
               intro L36 a273 w36 h273 hbh273 hRh273 hdh273
               obtain ⟨_, hl124, rfl⟩ := hdh273 0 (by decide)
               obtain ⟨_, hl125, rfl⟩ := hdh273 1 (by decide)
               obtain ⟨_, hl126, rfl⟩ := hdh273 2 (by decide)
               obtain ⟨_, hl127, rfl⟩ := hdh273 3 (by decide)
               obtain ⟨_, hl128, rfl⟩ := hdh273 4 (by decide)
               obtain ⟨_, hl129, rfl⟩ := hdh273 5 (by decide)
               obtain ⟨_, hl130, rfl⟩ := hdh273 6 (by decide)
               obtain ⟨_, hl131, rfl⟩ := hdh273 7 (by decide)
               obtain ⟨_, hl132, rfl⟩ := hdh273 8 (by decide)
               obtain ⟨_, hl133, rfl⟩ := hdh273 9 (by decide)
               obtain ⟨_, hl134, rfl⟩ := hdh273 10 (by decide)
               obtain ⟨_, hl135, rfl⟩ := hdh273 11 (by decide)
               obtain ⟨_, hl136, rfl⟩ := hdh273 12 (by decide)
               obtain ⟨_, hl137, rfl⟩ := hdh273 13 (by decide)
               obtain ⟨_, hl138, rfl⟩ := hdh273 14 (by decide)
               have h274 := Has.under h273 hbh273
               have h275 := (h273.add hl138 (h273.add hl137 (h273.add hl136 (h273.add hl135 (h273.add hl134 (h273.add hl133 (h273.add hl132 (h273.add hl131 (h273.add hl130 (h273.add hl129 (h273.add hl128 (h273.add hl127 (h273.add hl126 (h273.add hl125 (h273.add hl124 h274)))))))))))))))
               clear h274 hl124 hl125 hl126 hl127 hl128 hl129 hl130 hl131 hl132 hl133 hl134 hl135 hl136 hl137 hl138 hbh273 hdh273
               replace hB := Kept.trans hB hRh273
               replace hv := hv.kept hRh273
               replace hg2 := hg2.kept hRh273
               refine hK26 _ _ ?_
               refine cdt h275 rfl rfl ?_
               refine sq fun K29 hK29 => ?_
               refine reg [some 139, some 140, some 141, some 142, some 143, some 144, some 145, none, some 3, some 4, some 5, some 6] rfl ?_
               refine mv h275 rfl rfl fun a276 h276 => ?_
               refine clv h276 rfl Try.call105 rfl _ rfl (c_cno _) rfl ?_
               rintro v37 w37 a277 ⟨rfl, hk37⟩ h277
               replace hB := Kept.trans hB hk37
               replace hv := hv.kept hk37
               replace hg2 := hg2.kept hk37
               refine ext5_0 h277 rfl rfl fun a278 h278 => ?_
               refine ext5_1 h278 rfl rfl fun a279 h279 => ?_
               refine ext5_2 h279 rfl rfl fun a280 h280 => ?_
               refine ext5_3 h280 rfl rfl fun a281 h281 => ?_
               refine ext5_4 h281 rfl rfl fun a282 h282 => ?_
               refine stb h282 hg2 rfl rfl _ rfl Try.sizeOf32 (by first | exact hd_one _ | exact nd_one _ | exact nd_one Pl.Nd.none | (simp [Value.oneCell']; done)) _ (by first | (simp [hdCells]; done) | (simp [ndCells]; done) | simp) rfl fun w38 hg2' hk38 => ?_
               replace hB := Kept.but hB hk38 (by omega)
               replace hv := hv.but hk38 (by intro hs; have := hs.2; omega)
               clear hg2; have hg2 := hg2'; clear hg2'
               refine asg h282 rfl rfl fun a283 h283 => ?_
               refine asg h283 rfl rfl fun a284 h284 => ?_
               refine asg h284 rfl rfl fun a285 h285 => ?_
               refine asg h285 rfl rfl fun a286 h286 => ?_
               clear hK26 h275 h276 h277 h278 h279 h280 h281 h282 h283 h284 h285 K26 a276 a277 a278 a279 a280 a281 a282 a283 a284 a285
               refine wpL_nil (hK29 _ _ ?_)
               refine rtn (leave h286 (res5 h286 rfl (rva (ndCells Pl.Nd.none) hg2 rfl Try.isAgg32 Try.sizeOf32 rfl) (rvt rfl) (rvt rfl) (rvt rfl) (rvt rfl)) ?_)
               first | exact ⟨_, rfl, by rw [Pl.cg_no1 hno0]; rfl, hB⟩ | exact ⟨_, rfl, by rw [Pl.cg_b1 hok0 ht76 (by omega)]; rfl, hB⟩ | exact ⟨_, rfl, by rw [Pl.cg_b2 hok0 ht76 hbb1 (by rw [hq10]; omega)]; rfl, hB⟩ | exact ⟨_, rfl, by rw [Pl.cg_b3 hok0 ht76 hbb1 hnc hno2]; rfl, hB⟩ | exact ⟨_, rfl, by rw [hcg, Pl.ce_no (fun e => by have hq9 := congrArg UInt8.toNat e; simp at hq9; omega)]; rfl, hB⟩ | exact ⟨_, rfl, by rw [hce, if_neg (by rintro ⟨h1, -⟩; rw [Pl.contOk_eq] at h1; simp only [hb1, hb2, hb3, (bunf hb4), hb5, hb6, (bunf hb7), (bunf hb8), hb9, hb10, hb11, hb12, hb13, hb14, Bool.true_and, Bool.false_and, Bool.false_eq_true] at h1; done)]; rfl, hB⟩
             ·
              have hp13 := of_decide_eq_false hb13
              refine goff h209 (d := 118) rfl rfl hb13 rfl fun a287 h287 => ?_
              refine goff h287 (d := 118) rfl rfl hb13 rfl fun a288 h288 => ?_
              refine goff h288 (d := 118) rfl rfl hb13 rfl fun a289 h289 => ?_
              refine goff h289 (d := 118) rfl rfl hb13 rfl fun a290 h290 => ?_
              refine pkf h290 rfl hb13 rfl rfl fun a291 h291 => ?_
              refine asg h291 rfl rfl fun a292 h292 => ?_
              clear hK23 h190 h191 h192 h193 h194 h195 h196 h197 h198 h199 h200 h201 h202 h203 h204 h205 h206 h207 h208 h209 h287 h288 h289 h290 h291 K23 a190 a191 a192 a193 a194 a195 a196 a197 a198 a199 a200 a201 a202 a203 a204 a205 a206 a207 a208 a209 a287 a288 a289 a290 a291
              refine wpL_nil (hK24 _ _ ?_)
              refine sq fun K30 hK30 => ?_
              refine sq fun K31 hK31 => ?_
              clear hK24 K24
              refine drw h292 [some 124, some 125, some 126, some 127, some 128, some 129, some 130, some 131, some 132, some 133, some 134, some 135, some 136, some 137, some 138] rfl [Fx (.bool false), Fx (.bool (!false)), Fx (.bool (!false)), Fx (undef), Fx (undef), Fx (undef), Fx (undef), Fx (undef), Fx (undef), Fx (undef), Fx (undef), Fx (undef), Fx (undef), Fx (undef), Fx ((.bool true))] Kept rfl rfl rfl rfl (drewKept _) keptT (mcons mfx (mcons mfx (mcons mfx (mcons mfx (mcons mfx (mcons mfx (mcons mfx (mcons mfx (mcons mfx (mcons mfx (mcons mfx (mcons mfx (mcons mfx (mcons mfx (mcons mfx mnil))))))))))))))) ⟨?_, ?_, ?_, ?_, ?_, ?_, ?_, ?_, ?_, ?_, ?_, ?_, ?_, ?_, ?_, trivial⟩ ?_
              ·
               intro L a w_ hH hb hR hd ho
               have hl14 := hb 14 _ rfl
               refine mv hH hl14 rfl fun a293 h293 => ?_
               exact wpL_nil ⟨_, h293, Kept.refl _, rfl⟩
              ·
               intro L a w_ hH hb hR hd ho
               obtain ⟨_, hl124, rfl⟩ := hd 0 rfl
               refine unot hH hl124 rfl fun a294 h294 => ?_
               exact wpL_nil ⟨_, h294, Kept.refl _, rfl⟩
              ·
               intro L a w_ hH hb hR hd ho
               obtain ⟨_, hl125, rfl⟩ := hd 1 rfl
               refine mv hH hl125 rfl fun a295 h295 => ?_
               exact wpL_nil ⟨_, h295, Kept.refl _, rfl⟩
              ·
               intro L a w_ hH hb hR hd ho
               have hl13 := hb 13 _ rfl
               obtain ⟨_, hl126, rfl⟩ := hd 2 rfl
               refine goff hH rfl hl126 (bnf rfl) rfl fun a296 h296 => ?_
               exact wpL_nil ⟨_, h296, Kept.refl _, rfl⟩
              ·
               intro L a w_ hH hb hR hd ho
               have hl11 := hb 11 _ rfl
               obtain ⟨_, hl126, rfl⟩ := hd 2 rfl
               refine goff hH rfl hl126 (bnf rfl) rfl fun a297 h297 => ?_
               exact wpL_nil ⟨_, h297, Kept.refl _, rfl⟩
              ·
               intro L a w_ hH hb hR hd ho
               obtain ⟨_, hl128, rfl⟩ := hd 4 rfl
               obtain ⟨_, hl126, rfl⟩ := hd 2 rfl
               refine goff hH rfl hl126 (bnf rfl) rfl fun a298 h298 => ?_
               exact wpL_nil ⟨_, h298, Kept.refl _, rfl⟩
              ·
               intro L a w_ hH hb hR hd ho
               have hl11 := hb 11 _ rfl
               obtain ⟨_, hl126, rfl⟩ := hd 2 rfl
               refine goff hH rfl hl126 (bnf rfl) rfl fun a299 h299 => ?_
               exact wpL_nil ⟨_, h299, Kept.refl _, rfl⟩
              ·
               intro L a w_ hH hb hR hd ho
               obtain ⟨_, hl130, rfl⟩ := hd 6 rfl
               obtain ⟨_, hl126, rfl⟩ := hd 2 rfl
               refine goff hH rfl hl126 (bnf rfl) rfl fun a300 h300 => ?_
               exact wpL_nil ⟨_, h300, Kept.refl _, rfl⟩
              ·
               intro L a w_ hH hb hR hd ho
               obtain ⟨_, hl127, rfl⟩ := hd 3 rfl
               obtain ⟨_, hl129, rfl⟩ := hd 5 rfl
               obtain ⟨_, hl131, rfl⟩ := hd 7 rfl
               obtain ⟨_, hl126, rfl⟩ := hd 2 rfl
               refine goff hH rfl hl126 (bnf rfl) rfl fun a301 h301 => ?_
               exact wpL_nil ⟨_, h301, Kept.refl _, rfl⟩
              ·
               intro L a w_ hH hb hR hd ho
               have hl1 := hb 1 _ rfl
               obtain ⟨_, hl126, rfl⟩ := hd 2 rfl
               refine goff hH rfl hl126 (bnf rfl) rfl fun a302 h302 => ?_
               exact wpL_nil ⟨_, h302, Kept.refl _, rfl⟩
              ·
               intro L a w_ hH hb hR hd ho
               have hl9 := hb 9 _ rfl
               obtain ⟨_, hl126, rfl⟩ := hd 2 rfl
               refine goff hH rfl hl126 (bnf rfl) rfl fun a303 h303 => ?_
               exact wpL_nil ⟨_, h303, Kept.refl _, rfl⟩
              ·
               intro L a w_ hH hb hR hd ho
               obtain ⟨_, hl133, rfl⟩ := hd 9 rfl
               obtain ⟨_, hl134, rfl⟩ := hd 10 rfl
               obtain ⟨_, hl126, rfl⟩ := hd 2 rfl
               refine goff hH rfl hl126 (bnf rfl) rfl fun a304 h304 => ?_
               exact wpL_nil ⟨_, h304, Kept.refl _, rfl⟩
              ·
               intro L a w_ hH hb hR hd ho
               obtain ⟨_, hl132, rfl⟩ := hd 8 rfl
               obtain ⟨_, hl135, rfl⟩ := hd 11 rfl
               obtain ⟨_, hl126, rfl⟩ := hd 2 rfl
               refine goff hH rfl hl126 (bnf rfl) rfl fun a305 h305 => ?_
               exact wpL_nil ⟨_, h305, Kept.refl _, rfl⟩
              ·
               intro L a w_ hH hb hR hd ho
               obtain ⟨_, hl136, rfl⟩ := hd 12 rfl
               obtain ⟨_, hl126, rfl⟩ := hd 2 rfl
               refine goff hH rfl hl126 (bnf rfl) rfl fun a306 h306 => ?_
               exact wpL_nil ⟨_, h306, Kept.refl _, rfl⟩
              ·
               intro L a w_ hH hb hR hd ho
               obtain ⟨_, hl126, rfl⟩ := hd 2 rfl
               obtain ⟨_, hl137, rfl⟩ := hd 13 rfl
               refine pkt hH hl126 (bnf rfl) rfl rfl fun a307 h307 => ?_
               exact wpL_nil ⟨_, h307, Kept.refl _, rfl⟩
              intro L39 a308 w39 h308 hbh308 hRh308 hdh308
              obtain ⟨_, hl124, rfl⟩ := hdh308 0 (by decide)
              obtain ⟨_, hl125, rfl⟩ := hdh308 1 (by decide)
              obtain ⟨_, hl126, rfl⟩ := hdh308 2 (by decide)
              obtain ⟨_, hl127, rfl⟩ := hdh308 3 (by decide)
              obtain ⟨_, hl128, rfl⟩ := hdh308 4 (by decide)
              obtain ⟨_, hl129, rfl⟩ := hdh308 5 (by decide)
              obtain ⟨_, hl130, rfl⟩ := hdh308 6 (by decide)
              obtain ⟨_, hl131, rfl⟩ := hdh308 7 (by decide)
              obtain ⟨_, hl132, rfl⟩ := hdh308 8 (by decide)
              obtain ⟨_, hl133, rfl⟩ := hdh308 9 (by decide)
              obtain ⟨_, hl134, rfl⟩ := hdh308 10 (by decide)
              obtain ⟨_, hl135, rfl⟩ := hdh308 11 (by decide)
              obtain ⟨_, hl136, rfl⟩ := hdh308 12 (by decide)
              obtain ⟨_, hl137, rfl⟩ := hdh308 13 (by decide)
              obtain ⟨_, hl138, rfl⟩ := hdh308 14 (by decide)
              have h309 := Has.under h308 hbh308
              have h310 := (h308.add hl138 (h308.add hl137 (h308.add hl136 (h308.add hl135 (h308.add hl134 (h308.add hl133 (h308.add hl132 (h308.add hl131 (h308.add hl130 (h308.add hl129 (h308.add hl128 (h308.add hl127 (h308.add hl126 (h308.add hl125 (h308.add hl124 h309)))))))))))))))
              clear h309 hl124 hl125 hl126 hl127 hl128 hl129 hl130 hl131 hl132 hl133 hl134 hl135 hl136 hl137 hl138 hbh308 hdh308
              replace hB := Kept.trans hB hRh308
              replace hv := hv.kept hRh308
              replace hg2 := hg2.kept hRh308
              refine hK31 _ _ ?_
              refine cdt h310 rfl rfl ?_
              refine sq fun K32 hK32 => ?_
              refine reg [some 139, some 140, some 141, some 142, some 143, some 144, some 145, none, some 3, some 4, some 5, some 6] rfl ?_
              refine mv h310 rfl rfl fun a311 h311 => ?_
              refine clv h311 rfl Try.call105 rfl _ rfl (c_cno _) rfl ?_
              rintro v40 w40 a312 ⟨rfl, hk40⟩ h312
              replace hB := Kept.trans hB hk40
              replace hv := hv.kept hk40
              replace hg2 := hg2.kept hk40
              refine ext5_0 h312 rfl rfl fun a313 h313 => ?_
              refine ext5_1 h313 rfl rfl fun a314 h314 => ?_
              refine ext5_2 h314 rfl rfl fun a315 h315 => ?_
              refine ext5_3 h315 rfl rfl fun a316 h316 => ?_
              refine ext5_4 h316 rfl rfl fun a317 h317 => ?_
              refine stb h317 hg2 rfl rfl _ rfl Try.sizeOf32 (by first | exact hd_one _ | exact nd_one _ | exact nd_one Pl.Nd.none | (simp [Value.oneCell']; done)) _ (by first | (simp [hdCells]; done) | (simp [ndCells]; done) | simp) rfl fun w41 hg2' hk41 => ?_
              replace hB := Kept.but hB hk41 (by omega)
              replace hv := hv.but hk41 (by intro hs; have := hs.2; omega)
              clear hg2; have hg2 := hg2'; clear hg2'
              refine asg h317 rfl rfl fun a318 h318 => ?_
              refine asg h318 rfl rfl fun a319 h319 => ?_
              refine asg h319 rfl rfl fun a320 h320 => ?_
              refine asg h320 rfl rfl fun a321 h321 => ?_
              clear hK31 h310 h311 h312 h313 h314 h315 h316 h317 h318 h319 h320 K31 a311 a312 a313 a314 a315 a316 a317 a318 a319 a320
              refine wpL_nil (hK32 _ _ ?_)
              refine rtn (leave h321 (res5 h321 rfl (rva (ndCells Pl.Nd.none) hg2 rfl Try.isAgg32 Try.sizeOf32 rfl) (rvt rfl) (rvt rfl) (rvt rfl) (rvt rfl)) ?_)
              first | exact ⟨_, rfl, by rw [Pl.cg_no1 hno0]; rfl, hB⟩ | exact ⟨_, rfl, by rw [Pl.cg_b1 hok0 ht76 (by omega)]; rfl, hB⟩ | exact ⟨_, rfl, by rw [Pl.cg_b2 hok0 ht76 hbb1 (by rw [hq10]; omega)]; rfl, hB⟩ | exact ⟨_, rfl, by rw [Pl.cg_b3 hok0 ht76 hbb1 hnc hno2]; rfl, hB⟩ | exact ⟨_, rfl, by rw [hcg, Pl.ce_no (fun e => by have hq9 := congrArg UInt8.toNat e; simp at hq9; omega)]; rfl, hB⟩ | exact ⟨_, rfl, by rw [hce, if_neg (by rintro ⟨h1, -⟩; rw [Pl.contOk_eq] at h1; simp only [hb1, hb2, hb3, (bunf hb4), hb5, hb6, (bunf hb7), (bunf hb8), hb9, hb10, hb11, hb12, hb13, Bool.true_and, Bool.false_and, Bool.false_eq_true] at h1; done)]; rfl, hB⟩
            ·
             have hp12 := of_decide_eq_false hb12
             refine goff h202 (d := 111) rfl rfl hb12 rfl fun a322 h322 => ?_
             refine goff h322 (d := 111) rfl rfl hb12 rfl fun a323 h323 => ?_
             refine goff h323 (d := 111) rfl rfl hb12 rfl fun a324 h324 => ?_
             refine goff h324 (d := 111) rfl rfl hb12 rfl fun a325 h325 => ?_
             refine goff h325 (d := 111) rfl rfl hb12 rfl fun a326 h326 => ?_
             refine pkf h326 rfl hb12 rfl rfl fun a327 h327 => ?_
             refine mv h327 rfl rfl fun a328 h328 => ?_
             refine goff h328 (d := 118) rfl rfl rfl rfl fun a329 h329 => ?_
             refine goff h329 (d := 118) rfl rfl rfl rfl fun a330 h330 => ?_
             refine goff h330 (d := 118) rfl rfl rfl rfl fun a331 h331 => ?_
             refine goff h331 (d := 118) rfl rfl rfl rfl fun a332 h332 => ?_
             refine pkf h332 rfl rfl rfl rfl fun a333 h333 => ?_
             refine asg h333 rfl rfl fun a334 h334 => ?_
             clear hK23 h190 h191 h192 h193 h194 h195 h196 h197 h198 h199 h200 h201 h202 h322 h323 h324 h325 h326 h327 h328 h329 h330 h331 h332 h333 K23 a190 a191 a192 a193 a194 a195 a196 a197 a198 a199 a200 a201 a202 a322 a323 a324 a325 a326 a327 a328 a329 a330 a331 a332 a333
             refine wpL_nil (hK24 _ _ ?_)
             refine sq fun K33 hK33 => ?_
             refine sq fun K34 hK34 => ?_
             clear hK24 K24
             refine drw h334 [some 124, some 125, some 126, some 127, some 128, some 129, some 130, some 131, some 132, some 133, some 134, some 135, some 136, some 137, some 138] rfl [Fx (.bool false), Fx (.bool (!false)), Fx (.bool (!false)), Fx (undef), Fx (undef), Fx (undef), Fx (undef), Fx (undef), Fx (undef), Fx (undef), Fx (undef), Fx (undef), Fx (undef), Fx (undef), Fx ((.bool true))] Kept rfl rfl rfl rfl (drewKept _) keptT (mcons mfx (mcons mfx (mcons mfx (mcons mfx (mcons mfx (mcons mfx (mcons mfx (mcons mfx (mcons mfx (mcons mfx (mcons mfx (mcons mfx (mcons mfx (mcons mfx (mcons mfx mnil))))))))))))))) ⟨?_, ?_, ?_, ?_, ?_, ?_, ?_, ?_, ?_, ?_, ?_, ?_, ?_, ?_, ?_, trivial⟩ ?_
             ·
              intro L a w_ hH hb hR hd ho
              have hl14 := hb 14 _ rfl
              refine mv hH hl14 rfl fun a335 h335 => ?_
              exact wpL_nil ⟨_, h335, Kept.refl _, rfl⟩
             ·
              intro L a w_ hH hb hR hd ho
              obtain ⟨_, hl124, rfl⟩ := hd 0 rfl
              refine unot hH hl124 rfl fun a336 h336 => ?_
              exact wpL_nil ⟨_, h336, Kept.refl _, rfl⟩
             ·
              intro L a w_ hH hb hR hd ho
              obtain ⟨_, hl125, rfl⟩ := hd 1 rfl
              refine mv hH hl125 rfl fun a337 h337 => ?_
              exact wpL_nil ⟨_, h337, Kept.refl _, rfl⟩
             ·
              intro L a w_ hH hb hR hd ho
              have hl13 := hb 13 _ rfl
              obtain ⟨_, hl126, rfl⟩ := hd 2 rfl
              refine goff hH rfl hl126 (bnf rfl) rfl fun a338 h338 => ?_
              exact wpL_nil ⟨_, h338, Kept.refl _, rfl⟩
             ·
              intro L a w_ hH hb hR hd ho
              have hl11 := hb 11 _ rfl
              obtain ⟨_, hl126, rfl⟩ := hd 2 rfl
              refine goff hH rfl hl126 (bnf rfl) rfl fun a339 h339 => ?_
              exact wpL_nil ⟨_, h339, Kept.refl _, rfl⟩
             ·
              intro L a w_ hH hb hR hd ho
              obtain ⟨_, hl128, rfl⟩ := hd 4 rfl
              obtain ⟨_, hl126, rfl⟩ := hd 2 rfl
              refine goff hH rfl hl126 (bnf rfl) rfl fun a340 h340 => ?_
              exact wpL_nil ⟨_, h340, Kept.refl _, rfl⟩
             ·
              intro L a w_ hH hb hR hd ho
              have hl11 := hb 11 _ rfl
              obtain ⟨_, hl126, rfl⟩ := hd 2 rfl
              refine goff hH rfl hl126 (bnf rfl) rfl fun a341 h341 => ?_
              exact wpL_nil ⟨_, h341, Kept.refl _, rfl⟩
             ·
              intro L a w_ hH hb hR hd ho
              obtain ⟨_, hl130, rfl⟩ := hd 6 rfl
              obtain ⟨_, hl126, rfl⟩ := hd 2 rfl
              refine goff hH rfl hl126 (bnf rfl) rfl fun a342 h342 => ?_
              exact wpL_nil ⟨_, h342, Kept.refl _, rfl⟩
             ·
              intro L a w_ hH hb hR hd ho
              obtain ⟨_, hl127, rfl⟩ := hd 3 rfl
              obtain ⟨_, hl129, rfl⟩ := hd 5 rfl
              obtain ⟨_, hl131, rfl⟩ := hd 7 rfl
              obtain ⟨_, hl126, rfl⟩ := hd 2 rfl
              refine goff hH rfl hl126 (bnf rfl) rfl fun a343 h343 => ?_
              exact wpL_nil ⟨_, h343, Kept.refl _, rfl⟩
             ·
              intro L a w_ hH hb hR hd ho
              have hl1 := hb 1 _ rfl
              obtain ⟨_, hl126, rfl⟩ := hd 2 rfl
              refine goff hH rfl hl126 (bnf rfl) rfl fun a344 h344 => ?_
              exact wpL_nil ⟨_, h344, Kept.refl _, rfl⟩
             ·
              intro L a w_ hH hb hR hd ho
              have hl9 := hb 9 _ rfl
              obtain ⟨_, hl126, rfl⟩ := hd 2 rfl
              refine goff hH rfl hl126 (bnf rfl) rfl fun a345 h345 => ?_
              exact wpL_nil ⟨_, h345, Kept.refl _, rfl⟩
             ·
              intro L a w_ hH hb hR hd ho
              obtain ⟨_, hl133, rfl⟩ := hd 9 rfl
              obtain ⟨_, hl134, rfl⟩ := hd 10 rfl
              obtain ⟨_, hl126, rfl⟩ := hd 2 rfl
              refine goff hH rfl hl126 (bnf rfl) rfl fun a346 h346 => ?_
              exact wpL_nil ⟨_, h346, Kept.refl _, rfl⟩
             ·
              intro L a w_ hH hb hR hd ho
              obtain ⟨_, hl132, rfl⟩ := hd 8 rfl
              obtain ⟨_, hl135, rfl⟩ := hd 11 rfl
              obtain ⟨_, hl126, rfl⟩ := hd 2 rfl
              refine goff hH rfl hl126 (bnf rfl) rfl fun a347 h347 => ?_
              exact wpL_nil ⟨_, h347, Kept.refl _, rfl⟩
             ·
              intro L a w_ hH hb hR hd ho
              obtain ⟨_, hl136, rfl⟩ := hd 12 rfl
              obtain ⟨_, hl126, rfl⟩ := hd 2 rfl
              refine goff hH rfl hl126 (bnf rfl) rfl fun a348 h348 => ?_
              exact wpL_nil ⟨_, h348, Kept.refl _, rfl⟩
             ·
              intro L a w_ hH hb hR hd ho
              obtain ⟨_, hl126, rfl⟩ := hd 2 rfl
              obtain ⟨_, hl137, rfl⟩ := hd 13 rfl
              refine pkt hH hl126 (bnf rfl) rfl rfl fun a349 h349 => ?_
              exact wpL_nil ⟨_, h349, Kept.refl _, rfl⟩
             intro L42 a350 w42 h350 hbh350 hRh350 hdh350
             obtain ⟨_, hl124, rfl⟩ := hdh350 0 (by decide)
             obtain ⟨_, hl125, rfl⟩ := hdh350 1 (by decide)
             obtain ⟨_, hl126, rfl⟩ := hdh350 2 (by decide)
             obtain ⟨_, hl127, rfl⟩ := hdh350 3 (by decide)
             obtain ⟨_, hl128, rfl⟩ := hdh350 4 (by decide)
             obtain ⟨_, hl129, rfl⟩ := hdh350 5 (by decide)
             obtain ⟨_, hl130, rfl⟩ := hdh350 6 (by decide)
             obtain ⟨_, hl131, rfl⟩ := hdh350 7 (by decide)
             obtain ⟨_, hl132, rfl⟩ := hdh350 8 (by decide)
             obtain ⟨_, hl133, rfl⟩ := hdh350 9 (by decide)
             obtain ⟨_, hl134, rfl⟩ := hdh350 10 (by decide)
             obtain ⟨_, hl135, rfl⟩ := hdh350 11 (by decide)
             obtain ⟨_, hl136, rfl⟩ := hdh350 12 (by decide)
             obtain ⟨_, hl137, rfl⟩ := hdh350 13 (by decide)
             obtain ⟨_, hl138, rfl⟩ := hdh350 14 (by decide)
             have h351 := Has.under h350 hbh350
             have h352 := (h350.add hl138 (h350.add hl137 (h350.add hl136 (h350.add hl135 (h350.add hl134 (h350.add hl133 (h350.add hl132 (h350.add hl131 (h350.add hl130 (h350.add hl129 (h350.add hl128 (h350.add hl127 (h350.add hl126 (h350.add hl125 (h350.add hl124 h351)))))))))))))))
             clear h351 hl124 hl125 hl126 hl127 hl128 hl129 hl130 hl131 hl132 hl133 hl134 hl135 hl136 hl137 hl138 hbh350 hdh350
             replace hB := Kept.trans hB hRh350
             replace hv := hv.kept hRh350
             replace hg2 := hg2.kept hRh350
             refine hK34 _ _ ?_
             refine cdt h352 rfl rfl ?_
             refine sq fun K35 hK35 => ?_
             refine reg [some 139, some 140, some 141, some 142, some 143, some 144, some 145, none, some 3, some 4, some 5, some 6] rfl ?_
             refine mv h352 rfl rfl fun a353 h353 => ?_
             refine clv h353 rfl Try.call105 rfl _ rfl (c_cno _) rfl ?_
             rintro v43 w43 a354 ⟨rfl, hk43⟩ h354
             replace hB := Kept.trans hB hk43
             replace hv := hv.kept hk43
             replace hg2 := hg2.kept hk43
             refine ext5_0 h354 rfl rfl fun a355 h355 => ?_
             refine ext5_1 h355 rfl rfl fun a356 h356 => ?_
             refine ext5_2 h356 rfl rfl fun a357 h357 => ?_
             refine ext5_3 h357 rfl rfl fun a358 h358 => ?_
             refine ext5_4 h358 rfl rfl fun a359 h359 => ?_
             refine stb h359 hg2 rfl rfl _ rfl Try.sizeOf32 (by first | exact hd_one _ | exact nd_one _ | exact nd_one Pl.Nd.none | (simp [Value.oneCell']; done)) _ (by first | (simp [hdCells]; done) | (simp [ndCells]; done) | simp) rfl fun w44 hg2' hk44 => ?_
             replace hB := Kept.but hB hk44 (by omega)
             replace hv := hv.but hk44 (by intro hs; have := hs.2; omega)
             clear hg2; have hg2 := hg2'; clear hg2'
             refine asg h359 rfl rfl fun a360 h360 => ?_
             refine asg h360 rfl rfl fun a361 h361 => ?_
             refine asg h361 rfl rfl fun a362 h362 => ?_
             refine asg h362 rfl rfl fun a363 h363 => ?_
             clear hK34 h352 h353 h354 h355 h356 h357 h358 h359 h360 h361 h362 K34 a353 a354 a355 a356 a357 a358 a359 a360 a361 a362
             refine wpL_nil (hK35 _ _ ?_)
             refine rtn (leave h363 (res5 h363 rfl (rva (ndCells Pl.Nd.none) hg2 rfl Try.isAgg32 Try.sizeOf32 rfl) (rvt rfl) (rvt rfl) (rvt rfl) (rvt rfl)) ?_)
             first | exact ⟨_, rfl, by rw [Pl.cg_no1 hno0]; rfl, hB⟩ | exact ⟨_, rfl, by rw [Pl.cg_b1 hok0 ht76 (by omega)]; rfl, hB⟩ | exact ⟨_, rfl, by rw [Pl.cg_b2 hok0 ht76 hbb1 (by rw [hq10]; omega)]; rfl, hB⟩ | exact ⟨_, rfl, by rw [Pl.cg_b3 hok0 ht76 hbb1 hnc hno2]; rfl, hB⟩ | exact ⟨_, rfl, by rw [hcg, Pl.ce_no (fun e => by have hq9 := congrArg UInt8.toNat e; simp at hq9; omega)]; rfl, hB⟩ | exact ⟨_, rfl, by rw [hce, if_neg (by rintro ⟨h1, -⟩; rw [Pl.contOk_eq] at h1; simp only [hb1, hb2, hb3, (bunf hb4), hb5, hb6, (bunf hb7), (bunf hb8), hb9, hb10, hb11, hb12, Bool.true_and, Bool.false_and, Bool.false_eq_true] at h1; done)]; rfl, hB⟩
           ·
            refine goff h197 (d := 106) rfl rfl hb11 rfl fun a364 h364 => ?_
            refine goff h364 (d := 106) rfl rfl hb11 rfl fun a365 h365 => ?_
            refine goff h365 (d := 106) rfl rfl hb11 rfl fun a366 h366 => ?_
            refine pkf h366 rfl hb11 rfl rfl fun a367 h367 => ?_
            refine mv h367 rfl rfl fun a368 h368 => ?_
            refine goff h368 (d := 111) rfl rfl rfl rfl fun a369 h369 => ?_
            refine goff h369 (d := 111) rfl rfl rfl rfl fun a370 h370 => ?_
            refine goff h370 (d := 111) rfl rfl rfl rfl fun a371 h371 => ?_
            refine goff h371 (d := 111) rfl rfl rfl rfl fun a372 h372 => ?_
            refine goff h372 (d := 111) rfl rfl rfl rfl fun a373 h373 => ?_
            refine pkf h373 rfl rfl rfl rfl fun a374 h374 => ?_
            refine mv h374 rfl rfl fun a375 h375 => ?_
            refine goff h375 (d := 118) rfl rfl rfl rfl fun a376 h376 => ?_
            refine goff h376 (d := 118) rfl rfl rfl rfl fun a377 h377 => ?_
            refine goff h377 (d := 118) rfl rfl rfl rfl fun a378 h378 => ?_
            refine goff h378 (d := 118) rfl rfl rfl rfl fun a379 h379 => ?_
            refine pkf h379 rfl rfl rfl rfl fun a380 h380 => ?_
            refine asg h380 rfl rfl fun a381 h381 => ?_
            clear hK23 h190 h191 h192 h193 h194 h195 h196 h197 h364 h365 h366 h367 h368 h369 h370 h371 h372 h373 h374 h375 h376 h377 h378 h379 h380 K23 a190 a191 a192 a193 a194 a195 a196 a197 a364 a365 a366 a367 a368 a369 a370 a371 a372 a373 a374 a375 a376 a377 a378 a379 a380
            refine wpL_nil (hK24 _ _ ?_)
            refine sq fun K36 hK36 => ?_
            refine sq fun K37 hK37 => ?_
            clear hK24 K24
            refine drw h381 [some 124, some 125, some 126, some 127, some 128, some 129, some 130, some 131, some 132, some 133, some 134, some 135, some 136, some 137, some 138] rfl [Fx (.bool false), Fx (.bool (!false)), Fx (.bool (!false)), Fx (undef), Fx (undef), Fx (undef), Fx (undef), Fx (undef), Fx (undef), Fx (undef), Fx (undef), Fx (undef), Fx (undef), Fx (undef), Fx ((.bool true))] Kept rfl rfl rfl rfl (drewKept _) keptT (mcons mfx (mcons mfx (mcons mfx (mcons mfx (mcons mfx (mcons mfx (mcons mfx (mcons mfx (mcons mfx (mcons mfx (mcons mfx (mcons mfx (mcons mfx (mcons mfx (mcons mfx mnil))))))))))))))) ⟨?_, ?_, ?_, ?_, ?_, ?_, ?_, ?_, ?_, ?_, ?_, ?_, ?_, ?_, ?_, trivial⟩ ?_
            ·
             intro L a w_ hH hb hR hd ho
             have hl14 := hb 14 _ rfl
             refine mv hH hl14 rfl fun a382 h382 => ?_
             exact wpL_nil ⟨_, h382, Kept.refl _, rfl⟩
            ·
             intro L a w_ hH hb hR hd ho
             obtain ⟨_, hl124, rfl⟩ := hd 0 rfl
             refine unot hH hl124 rfl fun a383 h383 => ?_
             exact wpL_nil ⟨_, h383, Kept.refl _, rfl⟩
            ·
             intro L a w_ hH hb hR hd ho
             obtain ⟨_, hl125, rfl⟩ := hd 1 rfl
             refine mv hH hl125 rfl fun a384 h384 => ?_
             exact wpL_nil ⟨_, h384, Kept.refl _, rfl⟩
            ·
             intro L a w_ hH hb hR hd ho
             have hl13 := hb 13 _ rfl
             obtain ⟨_, hl126, rfl⟩ := hd 2 rfl
             refine goff hH rfl hl126 (bnf rfl) rfl fun a385 h385 => ?_
             exact wpL_nil ⟨_, h385, Kept.refl _, rfl⟩
            ·
             intro L a w_ hH hb hR hd ho
             have hl11 := hb 11 _ rfl
             obtain ⟨_, hl126, rfl⟩ := hd 2 rfl
             refine goff hH rfl hl126 (bnf rfl) rfl fun a386 h386 => ?_
             exact wpL_nil ⟨_, h386, Kept.refl _, rfl⟩
            ·
             intro L a w_ hH hb hR hd ho
             obtain ⟨_, hl128, rfl⟩ := hd 4 rfl
             obtain ⟨_, hl126, rfl⟩ := hd 2 rfl
             refine goff hH rfl hl126 (bnf rfl) rfl fun a387 h387 => ?_
             exact wpL_nil ⟨_, h387, Kept.refl _, rfl⟩
            ·
             intro L a w_ hH hb hR hd ho
             have hl11 := hb 11 _ rfl
             obtain ⟨_, hl126, rfl⟩ := hd 2 rfl
             refine goff hH rfl hl126 (bnf rfl) rfl fun a388 h388 => ?_
             exact wpL_nil ⟨_, h388, Kept.refl _, rfl⟩
            ·
             intro L a w_ hH hb hR hd ho
             obtain ⟨_, hl130, rfl⟩ := hd 6 rfl
             obtain ⟨_, hl126, rfl⟩ := hd 2 rfl
             refine goff hH rfl hl126 (bnf rfl) rfl fun a389 h389 => ?_
             exact wpL_nil ⟨_, h389, Kept.refl _, rfl⟩
            ·
             intro L a w_ hH hb hR hd ho
             obtain ⟨_, hl127, rfl⟩ := hd 3 rfl
             obtain ⟨_, hl129, rfl⟩ := hd 5 rfl
             obtain ⟨_, hl131, rfl⟩ := hd 7 rfl
             obtain ⟨_, hl126, rfl⟩ := hd 2 rfl
             refine goff hH rfl hl126 (bnf rfl) rfl fun a390 h390 => ?_
             exact wpL_nil ⟨_, h390, Kept.refl _, rfl⟩
            ·
             intro L a w_ hH hb hR hd ho
             have hl1 := hb 1 _ rfl
             obtain ⟨_, hl126, rfl⟩ := hd 2 rfl
             refine goff hH rfl hl126 (bnf rfl) rfl fun a391 h391 => ?_
             exact wpL_nil ⟨_, h391, Kept.refl _, rfl⟩
            ·
             intro L a w_ hH hb hR hd ho
             have hl9 := hb 9 _ rfl
             obtain ⟨_, hl126, rfl⟩ := hd 2 rfl
             refine goff hH rfl hl126 (bnf rfl) rfl fun a392 h392 => ?_
             exact wpL_nil ⟨_, h392, Kept.refl _, rfl⟩
            ·
             intro L a w_ hH hb hR hd ho
             obtain ⟨_, hl133, rfl⟩ := hd 9 rfl
             obtain ⟨_, hl134, rfl⟩ := hd 10 rfl
             obtain ⟨_, hl126, rfl⟩ := hd 2 rfl
             refine goff hH rfl hl126 (bnf rfl) rfl fun a393 h393 => ?_
             exact wpL_nil ⟨_, h393, Kept.refl _, rfl⟩
            ·
             intro L a w_ hH hb hR hd ho
             obtain ⟨_, hl132, rfl⟩ := hd 8 rfl
             obtain ⟨_, hl135, rfl⟩ := hd 11 rfl
             obtain ⟨_, hl126, rfl⟩ := hd 2 rfl
             refine goff hH rfl hl126 (bnf rfl) rfl fun a394 h394 => ?_
             exact wpL_nil ⟨_, h394, Kept.refl _, rfl⟩
            ·
             intro L a w_ hH hb hR hd ho
             obtain ⟨_, hl136, rfl⟩ := hd 12 rfl
             obtain ⟨_, hl126, rfl⟩ := hd 2 rfl
             refine goff hH rfl hl126 (bnf rfl) rfl fun a395 h395 => ?_
             exact wpL_nil ⟨_, h395, Kept.refl _, rfl⟩
            ·
             intro L a w_ hH hb hR hd ho
             obtain ⟨_, hl126, rfl⟩ := hd 2 rfl
             obtain ⟨_, hl137, rfl⟩ := hd 13 rfl
             refine pkt hH hl126 (bnf rfl) rfl rfl fun a396 h396 => ?_
             exact wpL_nil ⟨_, h396, Kept.refl _, rfl⟩
            intro L45 a397 w45 h397 hbh397 hRh397 hdh397
            obtain ⟨_, hl124, rfl⟩ := hdh397 0 (by decide)
            obtain ⟨_, hl125, rfl⟩ := hdh397 1 (by decide)
            obtain ⟨_, hl126, rfl⟩ := hdh397 2 (by decide)
            obtain ⟨_, hl127, rfl⟩ := hdh397 3 (by decide)
            obtain ⟨_, hl128, rfl⟩ := hdh397 4 (by decide)
            obtain ⟨_, hl129, rfl⟩ := hdh397 5 (by decide)
            obtain ⟨_, hl130, rfl⟩ := hdh397 6 (by decide)
            obtain ⟨_, hl131, rfl⟩ := hdh397 7 (by decide)
            obtain ⟨_, hl132, rfl⟩ := hdh397 8 (by decide)
            obtain ⟨_, hl133, rfl⟩ := hdh397 9 (by decide)
            obtain ⟨_, hl134, rfl⟩ := hdh397 10 (by decide)
            obtain ⟨_, hl135, rfl⟩ := hdh397 11 (by decide)
            obtain ⟨_, hl136, rfl⟩ := hdh397 12 (by decide)
            obtain ⟨_, hl137, rfl⟩ := hdh397 13 (by decide)
            obtain ⟨_, hl138, rfl⟩ := hdh397 14 (by decide)
            have h398 := Has.under h397 hbh397
            have h399 := (h397.add hl138 (h397.add hl137 (h397.add hl136 (h397.add hl135 (h397.add hl134 (h397.add hl133 (h397.add hl132 (h397.add hl131 (h397.add hl130 (h397.add hl129 (h397.add hl128 (h397.add hl127 (h397.add hl126 (h397.add hl125 (h397.add hl124 h398)))))))))))))))
            clear h398 hl124 hl125 hl126 hl127 hl128 hl129 hl130 hl131 hl132 hl133 hl134 hl135 hl136 hl137 hl138 hbh397 hdh397
            replace hB := Kept.trans hB hRh397
            replace hv := hv.kept hRh397
            replace hg2 := hg2.kept hRh397
            refine hK37 _ _ ?_
            refine cdt h399 rfl rfl ?_
            refine sq fun K38 hK38 => ?_
            refine reg [some 139, some 140, some 141, some 142, some 143, some 144, some 145, none, some 3, some 4, some 5, some 6] rfl ?_
            refine mv h399 rfl rfl fun a400 h400 => ?_
            refine clv h400 rfl Try.call105 rfl _ rfl (c_cno _) rfl ?_
            rintro v46 w46 a401 ⟨rfl, hk46⟩ h401
            replace hB := Kept.trans hB hk46
            replace hv := hv.kept hk46
            replace hg2 := hg2.kept hk46
            refine ext5_0 h401 rfl rfl fun a402 h402 => ?_
            refine ext5_1 h402 rfl rfl fun a403 h403 => ?_
            refine ext5_2 h403 rfl rfl fun a404 h404 => ?_
            refine ext5_3 h404 rfl rfl fun a405 h405 => ?_
            refine ext5_4 h405 rfl rfl fun a406 h406 => ?_
            refine stb h406 hg2 rfl rfl _ rfl Try.sizeOf32 (by first | exact hd_one _ | exact nd_one _ | exact nd_one Pl.Nd.none | (simp [Value.oneCell']; done)) _ (by first | (simp [hdCells]; done) | (simp [ndCells]; done) | simp) rfl fun w47 hg2' hk47 => ?_
            replace hB := Kept.but hB hk47 (by omega)
            replace hv := hv.but hk47 (by intro hs; have := hs.2; omega)
            clear hg2; have hg2 := hg2'; clear hg2'
            refine asg h406 rfl rfl fun a407 h407 => ?_
            refine asg h407 rfl rfl fun a408 h408 => ?_
            refine asg h408 rfl rfl fun a409 h409 => ?_
            refine asg h409 rfl rfl fun a410 h410 => ?_
            clear hK37 h399 h400 h401 h402 h403 h404 h405 h406 h407 h408 h409 K37 a400 a401 a402 a403 a404 a405 a406 a407 a408 a409
            refine wpL_nil (hK38 _ _ ?_)
            refine rtn (leave h410 (res5 h410 rfl (rva (ndCells Pl.Nd.none) hg2 rfl Try.isAgg32 Try.sizeOf32 rfl) (rvt rfl) (rvt rfl) (rvt rfl) (rvt rfl)) ?_)
            first | exact ⟨_, rfl, by rw [Pl.cg_no1 hno0]; rfl, hB⟩ | exact ⟨_, rfl, by rw [Pl.cg_b1 hok0 ht76 (by omega)]; rfl, hB⟩ | exact ⟨_, rfl, by rw [Pl.cg_b2 hok0 ht76 hbb1 (by rw [hq10]; omega)]; rfl, hB⟩ | exact ⟨_, rfl, by rw [Pl.cg_b3 hok0 ht76 hbb1 hnc hno2]; rfl, hB⟩ | exact ⟨_, rfl, by rw [hcg, Pl.ce_no (fun e => by have hq9 := congrArg UInt8.toNat e; simp at hq9; omega)]; rfl, hB⟩ | exact ⟨_, rfl, by rw [hce, if_neg (by rintro ⟨h1, -⟩; rw [Pl.contOk_eq] at h1; simp only [hb1, hb2, hb3, (bunf hb4), hb5, hb6, (bunf hb7), (bunf hb8), hb9, hb10, hb11, Bool.true_and, Bool.false_and, Bool.false_eq_true] at h1; done)]; rfl, hB⟩
          ·
           refine goff h193 (d := 102) rfl rfl hb10 rfl fun a411 h411 => ?_
           refine goff h411 (d := 102) rfl rfl hb10 rfl fun a412 h412 => ?_
           refine pkf h412 rfl hb10 rfl rfl fun a413 h413 => ?_
           refine mv h413 rfl rfl fun a414 h414 => ?_
           refine goff h414 (d := 106) rfl rfl rfl rfl fun a415 h415 => ?_
           refine goff h415 (d := 106) rfl rfl rfl rfl fun a416 h416 => ?_
           refine goff h416 (d := 106) rfl rfl rfl rfl fun a417 h417 => ?_
           refine pkf h417 rfl rfl rfl rfl fun a418 h418 => ?_
           refine mv h418 rfl rfl fun a419 h419 => ?_
           refine goff h419 (d := 111) rfl rfl rfl rfl fun a420 h420 => ?_
           refine goff h420 (d := 111) rfl rfl rfl rfl fun a421 h421 => ?_
           refine goff h421 (d := 111) rfl rfl rfl rfl fun a422 h422 => ?_
           refine goff h422 (d := 111) rfl rfl rfl rfl fun a423 h423 => ?_
           refine goff h423 (d := 111) rfl rfl rfl rfl fun a424 h424 => ?_
           refine pkf h424 rfl rfl rfl rfl fun a425 h425 => ?_
           refine mv h425 rfl rfl fun a426 h426 => ?_
           refine goff h426 (d := 118) rfl rfl rfl rfl fun a427 h427 => ?_
           refine goff h427 (d := 118) rfl rfl rfl rfl fun a428 h428 => ?_
           refine goff h428 (d := 118) rfl rfl rfl rfl fun a429 h429 => ?_
           refine goff h429 (d := 118) rfl rfl rfl rfl fun a430 h430 => ?_
           refine pkf h430 rfl rfl rfl rfl fun a431 h431 => ?_
           refine asg h431 rfl rfl fun a432 h432 => ?_
           clear hK23 h190 h191 h192 h193 h411 h412 h413 h414 h415 h416 h417 h418 h419 h420 h421 h422 h423 h424 h425 h426 h427 h428 h429 h430 h431 K23 a190 a191 a192 a193 a411 a412 a413 a414 a415 a416 a417 a418 a419 a420 a421 a422 a423 a424 a425 a426 a427 a428 a429 a430 a431
           refine wpL_nil (hK24 _ _ ?_)
           refine sq fun K39 hK39 => ?_
           refine sq fun K40 hK40 => ?_
           clear hK24 K24
           refine drw h432 [some 124, some 125, some 126, some 127, some 128, some 129, some 130, some 131, some 132, some 133, some 134, some 135, some 136, some 137, some 138] rfl [Fx (.bool false), Fx (.bool (!false)), Fx (.bool (!false)), Fx (undef), Fx (undef), Fx (undef), Fx (undef), Fx (undef), Fx (undef), Fx (undef), Fx (undef), Fx (undef), Fx (undef), Fx (undef), Fx ((.bool true))] Kept rfl rfl rfl rfl (drewKept _) keptT (mcons mfx (mcons mfx (mcons mfx (mcons mfx (mcons mfx (mcons mfx (mcons mfx (mcons mfx (mcons mfx (mcons mfx (mcons mfx (mcons mfx (mcons mfx (mcons mfx (mcons mfx mnil))))))))))))))) ⟨?_, ?_, ?_, ?_, ?_, ?_, ?_, ?_, ?_, ?_, ?_, ?_, ?_, ?_, ?_, trivial⟩ ?_
           ·
            intro L a w_ hH hb hR hd ho
            have hl14 := hb 14 _ rfl
            refine mv hH hl14 rfl fun a433 h433 => ?_
            exact wpL_nil ⟨_, h433, Kept.refl _, rfl⟩
           ·
            intro L a w_ hH hb hR hd ho
            obtain ⟨_, hl124, rfl⟩ := hd 0 rfl
            refine unot hH hl124 rfl fun a434 h434 => ?_
            exact wpL_nil ⟨_, h434, Kept.refl _, rfl⟩
           ·
            intro L a w_ hH hb hR hd ho
            obtain ⟨_, hl125, rfl⟩ := hd 1 rfl
            refine mv hH hl125 rfl fun a435 h435 => ?_
            exact wpL_nil ⟨_, h435, Kept.refl _, rfl⟩
           ·
            intro L a w_ hH hb hR hd ho
            have hl13 := hb 13 _ rfl
            obtain ⟨_, hl126, rfl⟩ := hd 2 rfl
            refine goff hH rfl hl126 (bnf rfl) rfl fun a436 h436 => ?_
            exact wpL_nil ⟨_, h436, Kept.refl _, rfl⟩
           ·
            intro L a w_ hH hb hR hd ho
            have hl11 := hb 11 _ rfl
            obtain ⟨_, hl126, rfl⟩ := hd 2 rfl
            refine goff hH rfl hl126 (bnf rfl) rfl fun a437 h437 => ?_
            exact wpL_nil ⟨_, h437, Kept.refl _, rfl⟩
           ·
            intro L a w_ hH hb hR hd ho
            obtain ⟨_, hl128, rfl⟩ := hd 4 rfl
            obtain ⟨_, hl126, rfl⟩ := hd 2 rfl
            refine goff hH rfl hl126 (bnf rfl) rfl fun a438 h438 => ?_
            exact wpL_nil ⟨_, h438, Kept.refl _, rfl⟩
           ·
            intro L a w_ hH hb hR hd ho
            have hl11 := hb 11 _ rfl
            obtain ⟨_, hl126, rfl⟩ := hd 2 rfl
            refine goff hH rfl hl126 (bnf rfl) rfl fun a439 h439 => ?_
            exact wpL_nil ⟨_, h439, Kept.refl _, rfl⟩
           ·
            intro L a w_ hH hb hR hd ho
            obtain ⟨_, hl130, rfl⟩ := hd 6 rfl
            obtain ⟨_, hl126, rfl⟩ := hd 2 rfl
            refine goff hH rfl hl126 (bnf rfl) rfl fun a440 h440 => ?_
            exact wpL_nil ⟨_, h440, Kept.refl _, rfl⟩
           ·
            intro L a w_ hH hb hR hd ho
            obtain ⟨_, hl127, rfl⟩ := hd 3 rfl
            obtain ⟨_, hl129, rfl⟩ := hd 5 rfl
            obtain ⟨_, hl131, rfl⟩ := hd 7 rfl
            obtain ⟨_, hl126, rfl⟩ := hd 2 rfl
            refine goff hH rfl hl126 (bnf rfl) rfl fun a441 h441 => ?_
            exact wpL_nil ⟨_, h441, Kept.refl _, rfl⟩
           ·
            intro L a w_ hH hb hR hd ho
            have hl1 := hb 1 _ rfl
            obtain ⟨_, hl126, rfl⟩ := hd 2 rfl
            refine goff hH rfl hl126 (bnf rfl) rfl fun a442 h442 => ?_
            exact wpL_nil ⟨_, h442, Kept.refl _, rfl⟩
           ·
            intro L a w_ hH hb hR hd ho
            have hl9 := hb 9 _ rfl
            obtain ⟨_, hl126, rfl⟩ := hd 2 rfl
            refine goff hH rfl hl126 (bnf rfl) rfl fun a443 h443 => ?_
            exact wpL_nil ⟨_, h443, Kept.refl _, rfl⟩
           ·
            intro L a w_ hH hb hR hd ho
            obtain ⟨_, hl133, rfl⟩ := hd 9 rfl
            obtain ⟨_, hl134, rfl⟩ := hd 10 rfl
            obtain ⟨_, hl126, rfl⟩ := hd 2 rfl
            refine goff hH rfl hl126 (bnf rfl) rfl fun a444 h444 => ?_
            exact wpL_nil ⟨_, h444, Kept.refl _, rfl⟩
           ·
            intro L a w_ hH hb hR hd ho
            obtain ⟨_, hl132, rfl⟩ := hd 8 rfl
            obtain ⟨_, hl135, rfl⟩ := hd 11 rfl
            obtain ⟨_, hl126, rfl⟩ := hd 2 rfl
            refine goff hH rfl hl126 (bnf rfl) rfl fun a445 h445 => ?_
            exact wpL_nil ⟨_, h445, Kept.refl _, rfl⟩
           ·
            intro L a w_ hH hb hR hd ho
            obtain ⟨_, hl136, rfl⟩ := hd 12 rfl
            obtain ⟨_, hl126, rfl⟩ := hd 2 rfl
            refine goff hH rfl hl126 (bnf rfl) rfl fun a446 h446 => ?_
            exact wpL_nil ⟨_, h446, Kept.refl _, rfl⟩
           ·
            intro L a w_ hH hb hR hd ho
            obtain ⟨_, hl126, rfl⟩ := hd 2 rfl
            obtain ⟨_, hl137, rfl⟩ := hd 13 rfl
            refine pkt hH hl126 (bnf rfl) rfl rfl fun a447 h447 => ?_
            exact wpL_nil ⟨_, h447, Kept.refl _, rfl⟩
           intro L48 a448 w48 h448 hbh448 hRh448 hdh448
           obtain ⟨_, hl124, rfl⟩ := hdh448 0 (by decide)
           obtain ⟨_, hl125, rfl⟩ := hdh448 1 (by decide)
           obtain ⟨_, hl126, rfl⟩ := hdh448 2 (by decide)
           obtain ⟨_, hl127, rfl⟩ := hdh448 3 (by decide)
           obtain ⟨_, hl128, rfl⟩ := hdh448 4 (by decide)
           obtain ⟨_, hl129, rfl⟩ := hdh448 5 (by decide)
           obtain ⟨_, hl130, rfl⟩ := hdh448 6 (by decide)
           obtain ⟨_, hl131, rfl⟩ := hdh448 7 (by decide)
           obtain ⟨_, hl132, rfl⟩ := hdh448 8 (by decide)
           obtain ⟨_, hl133, rfl⟩ := hdh448 9 (by decide)
           obtain ⟨_, hl134, rfl⟩ := hdh448 10 (by decide)
           obtain ⟨_, hl135, rfl⟩ := hdh448 11 (by decide)
           obtain ⟨_, hl136, rfl⟩ := hdh448 12 (by decide)
           obtain ⟨_, hl137, rfl⟩ := hdh448 13 (by decide)
           obtain ⟨_, hl138, rfl⟩ := hdh448 14 (by decide)
           have h449 := Has.under h448 hbh448
           have h450 := (h448.add hl138 (h448.add hl137 (h448.add hl136 (h448.add hl135 (h448.add hl134 (h448.add hl133 (h448.add hl132 (h448.add hl131 (h448.add hl130 (h448.add hl129 (h448.add hl128 (h448.add hl127 (h448.add hl126 (h448.add hl125 (h448.add hl124 h449)))))))))))))))
           clear h449 hl124 hl125 hl126 hl127 hl128 hl129 hl130 hl131 hl132 hl133 hl134 hl135 hl136 hl137 hl138 hbh448 hdh448
           replace hB := Kept.trans hB hRh448
           replace hv := hv.kept hRh448
           replace hg2 := hg2.kept hRh448
           refine hK40 _ _ ?_
           refine cdt h450 rfl rfl ?_
           refine sq fun K41 hK41 => ?_
           refine reg [some 139, some 140, some 141, some 142, some 143, some 144, some 145, none, some 3, some 4, some 5, some 6] rfl ?_
           refine mv h450 rfl rfl fun a451 h451 => ?_
           refine clv h451 rfl Try.call105 rfl _ rfl (c_cno _) rfl ?_
           rintro v49 w49 a452 ⟨rfl, hk49⟩ h452
           replace hB := Kept.trans hB hk49
           replace hv := hv.kept hk49
           replace hg2 := hg2.kept hk49
           refine ext5_0 h452 rfl rfl fun a453 h453 => ?_
           refine ext5_1 h453 rfl rfl fun a454 h454 => ?_
           refine ext5_2 h454 rfl rfl fun a455 h455 => ?_
           refine ext5_3 h455 rfl rfl fun a456 h456 => ?_
           refine ext5_4 h456 rfl rfl fun a457 h457 => ?_
           refine stb h457 hg2 rfl rfl _ rfl Try.sizeOf32 (by first | exact hd_one _ | exact nd_one _ | exact nd_one Pl.Nd.none | (simp [Value.oneCell']; done)) _ (by first | (simp [hdCells]; done) | (simp [ndCells]; done) | simp) rfl fun w50 hg2' hk50 => ?_
           replace hB := Kept.but hB hk50 (by omega)
           replace hv := hv.but hk50 (by intro hs; have := hs.2; omega)
           clear hg2; have hg2 := hg2'; clear hg2'
           refine asg h457 rfl rfl fun a458 h458 => ?_
           refine asg h458 rfl rfl fun a459 h459 => ?_
           refine asg h459 rfl rfl fun a460 h460 => ?_
           refine asg h460 rfl rfl fun a461 h461 => ?_
           clear hK40 h450 h451 h452 h453 h454 h455 h456 h457 h458 h459 h460 K40 a451 a452 a453 a454 a455 a456 a457 a458 a459 a460
           refine wpL_nil (hK41 _ _ ?_)
           refine rtn (leave h461 (res5 h461 rfl (rva (ndCells Pl.Nd.none) hg2 rfl Try.isAgg32 Try.sizeOf32 rfl) (rvt rfl) (rvt rfl) (rvt rfl) (rvt rfl)) ?_)
           first | exact ⟨_, rfl, by rw [Pl.cg_no1 hno0]; rfl, hB⟩ | exact ⟨_, rfl, by rw [Pl.cg_b1 hok0 ht76 (by omega)]; rfl, hB⟩ | exact ⟨_, rfl, by rw [Pl.cg_b2 hok0 ht76 hbb1 (by rw [hq10]; omega)]; rfl, hB⟩ | exact ⟨_, rfl, by rw [Pl.cg_b3 hok0 ht76 hbb1 hnc hno2]; rfl, hB⟩ | exact ⟨_, rfl, by rw [hcg, Pl.ce_no (fun e => by have hq9 := congrArg UInt8.toNat e; simp at hq9; omega)]; rfl, hB⟩ | exact ⟨_, rfl, by rw [hce, if_neg (by rintro ⟨h1, -⟩; rw [Pl.contOk_eq] at h1; simp only [hb1, hb2, hb3, (bunf hb4), hb5, hb6, (bunf hb7), (bunf hb8), hb9, hb10, Bool.true_and, Bool.false_and, Bool.false_eq_true] at h1; done)]; rfl, hB⟩
         ·
          have hp9 := of_decide_eq_false hb9
          have hce := hcg.trans (Pl.ce_eq (UInt8.toNat_inj.1 (show hh.typ.toNat = 77 by omega)) (Pl.trimZ (b1.take (Pl.getH b0).1.size.toNat)) (if_neg (of_decide_eq_false hb9)))
          have hnl : (Pl.trimZ (b1.take (Pl.getH b0).1.size.toNat)).length ≤ 1000 := by have h1 := trimZ_len (b1.take (Pl.getH b0).1.size.toNat); rw [List.length_take] at h1; omega
          refine cdf h176 rfl hb9 ?_
          refine skp (hK21 _ _ ?_)
          refine sq fun K42 hK42 => ?_
          refine reg [some 90, some 91, some 92, some 93, some 94, some 95, some 96, some 97, some 98, some 99, some 13, none] rfl ?_
          refine mv h176 rfl rfl fun a462 h462 => ?_
          refine fab h462 rfl Try.underlying41 rfl Try.sizeOf3 rfl 3 rfl rfl fun a463 h463 => ?_
          refine ldb h463 hg11 rfl Try.isAgg3 rfl rfl fun a464 h464 => ?_
          refine fab h464 rfl Try.underlying41 rfl Try.sizeOf3 rfl 4 rfl rfl fun a465 h465 => ?_
          refine ldb h465 hg11 rfl Try.isAgg3 rfl rfl fun a466 h466 => ?_
          refine fab h466 rfl Try.underlying41 rfl Try.sizeOf3 rfl 5 rfl rfl fun a467 h467 => ?_
          refine ldb h467 hg11 rfl Try.isAgg3 rfl rfl fun a468 h468 => ?_
          refine fab h468 rfl Try.underlying41 rfl Try.sizeOf3 rfl 7 rfl rfl fun a469 h469 => ?_
          refine ldb h469 hg11 rfl Try.isAgg3 rfl rfl fun a470 h470 => ?_
          refine bld h470 rfl (bld32_0_2_3_4_5_6 _ _ _ _ _ _) rfl fun a471 h471 => ?_
          refine alc h471 Try.zeroValue32 rfl rfl fun a472 w51 g13 h472 hk51 hz13 hg13 => ?_
          have hleg13 := Nat.le_trans hB.size hz13
          have hneg1g13 := Nat.lt_of_lt_of_le hg1.lt hz13
          have hneg2g13 := Nat.lt_of_lt_of_le hg2.lt hz13
          have hneg9g13 := Nat.lt_of_lt_of_le hg9.lt hz13
          have hneg11g13 := Nat.lt_of_lt_of_le hg11.lt hz13
          replace hB := Kept.trans hB hk51
          replace hv := hv.kept hk51
          replace hg1 := hg1.kept hk51
          replace hg2 := hg2.kept hk51
          replace hg9 := hg9.kept hk51
          replace hg11 := hg11.kept hk51
          refine stb h472 hg13 rfl rfl _ rfl Try.sizeOf32 (by first | exact hd_one _ | exact nd_one _ | exact nd_one Pl.Nd.none | (simp [Value.oneCell']; done)) _ (by first | (simp [hdCells]; done) | (simp [ndCells]; done) | simp) rfl fun w52 hg13' hk52 => ?_
          replace hB := Kept.but hB hk52 (by omega)
          replace hv := hv.but hk52 (by intro hs; have := hs.2; omega)
          replace hg1 := hg1.but hk52 (by omega)
          replace hg2 := hg2.but hk52 (by omega)
          replace hg9 := hg9.but hk52 (by omega)
          replace hg11 := hg11.but hk52 (by omega)
          clear hg13; have hg13 := hg13'; clear hg13'
          replace hg13 : Blk w52 g13 32 (ndCells (Pl.contNode (Pl.trimZ (b1.take (Pl.getH b0).1.size.toNat)) hh)) := hg13
          clear hK22 hK21 h176 h462 h463 h464 h465 h466 h467 h468 h469 h470 h471 K22 K21 a176 a462 a463 a464 a465 a466 a467 a468 a469 a470 a471
          refine wpL_nil (hK42 _ _ ?_)
          refine sq fun K43 hK43 => ?_
          refine reg [some 100, some 101, some 102, some 103, some 104, some 105, some 106, some 107, some 108, some 109, some 110, some 111, some 112, some 113, some 114, some 115, some 116, some 117, some 118, some 119, some 120, some 121, some 122, some 123, some 14] rfl ?_
          refine mv h472 rfl rfl fun a473 h473 => ?_
          refine cal h473 Try.call61 rfl (c_pathMay _ _ (by omega)) rfl ?_
          rintro v53 w53 a474 ⟨rfl, hk53⟩ h474
          replace hB := Kept.trans hB hk53
          replace hv := hv.kept hk53
          replace hg1 := hg1.kept hk53
          replace hg2 := hg2.kept hk53
          replace hg9 := hg9.kept hk53
          replace hg11 := hg11.kept hk53
          replace hg13 := hg13.kept hk53
          refine mv h474 rfl rfl fun a475 h475 => ?_
          refine spl h475 (d := 102) rfl (fun hb386 => ?_) (fun hb386 => ?_)
          ·
           refine gon h475 (d := 102) rfl rfl hb386 ?_
           refine ldbn h475 hg13 (ndCells (Pl.contNode (Pl.trimZ (b1.take (Pl.getH b0).1.size.toNat)) hh)) rfl Try.isAgg32 Try.sizeOf32 rfl rfl fun a476 h476 => ?_
           refine gon h476 (d := 102) rfl rfl hb386 ?_
           refine cal h476 Try.call108 rfl (c_cfile _ _ (cnode_L (by omega))) rfl ?_
           rintro v54 w54 a477 ⟨rfl, hk54⟩ h477
           replace hB := Kept.trans hB hk54
           replace hv := hv.kept hk54
           replace hg1 := hg1.kept hk54
           replace hg2 := hg2.kept hk54
           replace hg9 := hg9.kept hk54
           replace hg11 := hg11.kept hk54
           replace hg13 := hg13.kept hk54
           refine pkt h477 rfl hb386 rfl rfl fun a478 h478 => ?_
           refine mv h478 rfl rfl fun a479 h479 => ?_
           refine spl h479 (d := 106) rfl (fun hb387 => ?_) (fun hb387 => ?_)
           ·
            have hone := isFile_one hb387
            refine gon h479 (d := 106) rfl rfl hb387 ?_
            refine fab h479 rfl Try.underlying41 rfl Try.sizeOf3 rfl 10 rfl rfl fun a480 h480 => ?_
            refine gon h480 (d := 106) rfl rfl hb387 ?_
            refine ldb h480 hg11 rfl Try.isAgg3 rfl rfl fun a481 h481 => ?_
            refine gon h481 (d := 106) rfl rfl hb387 ?_
            refine leq h481 rfl rfl rfl fun a482 h482 => ?_
            refine pkt h482 rfl hb387 rfl rfl fun a483 h483 => ?_
            refine mv h483 rfl rfl fun a484 h484 => ?_
            refine spl h484 (d := 111) rfl (fun hb388 => ?_) (fun hb388 => ?_)
            ·
             have hp388 := of_decide_eq_true hb388
             refine gon h484 (d := 111) rfl rfl hb388 ?_
             refine fab h484 rfl Try.underlying41 rfl Try.sizeOf3 rfl 9 rfl rfl fun a485 h485 => ?_
             refine gon h485 (d := 111) rfl rfl hb388 ?_
             refine ldb h485 hg11 rfl Try.isAgg3 rfl rfl fun a486 h486 => ?_
             refine gon h486 (d := 111) rfl rfl hb388 ?_
             refine fab h486 rfl Try.underlying41 rfl Try.sizeOf3 rfl 10 rfl rfl fun a487 h487 => ?_
             refine gon h487 (d := 111) rfl rfl hb388 ?_
             refine ldb h487 hg11 rfl Try.isAgg3 rfl rfl fun a488 h488 => ?_
             refine gon h488 (d := 111) rfl rfl hb388 ?_
             refine lss h488 rfl rfl rfl fun a489 h489 => ?_
             refine pkt h489 rfl hb388 rfl rfl fun a490 h490 => ?_
             refine mv h490 rfl rfl fun a491 h491 => ?_
             refine spl h491 (d := 118) rfl (fun hb389 => ?_) (fun hb389 => ?_)
             ·
              have hp389 := of_decide_eq_true hb389
              refine gon h491 (d := 118) rfl rfl hb389 ?_
              refine fab h491 rfl Try.underlying41 rfl Try.sizeOf3 rfl 9 rfl rfl fun a492 h492 => ?_
              refine gon h492 (d := 118) rfl rfl hb389 ?_
              refine ldb h492 hg11 rfl Try.isAgg3 rfl rfl fun a493 h493 => ?_
              refine gon h493 (d := 118) rfl rfl hb389 ?_
              refine rem h493 rfl rfl rfl (by omega) fun a494 h494 => ?_
              refine gon h494 (d := 118) rfl rfl hb389 ?_
              refine ieq h494 rfl rfl rfl fun a495 h495 => ?_
              refine pkt h495 rfl hb389 rfl rfl fun a496 h496 => ?_
              refine asg h496 rfl rfl fun a497 h497 => ?_
              clear hK42 h472 h473 h474 h475 h476 h477 h478 h479 h480 h481 h482 h483 h484 h485 h486 h487 h488 h489 h490 h491 h492 h493 h494 h495 h496 K42 a472 a473 a474 a475 a476 a477 a478 a479 a480 a481 a482 a483 a484 a485 a486 a487 a488 a489 a490 a491 a492 a493 a494 a495 a496
              refine wpL_nil (hK43 _ _ ?_)
              refine sq fun K44 hK44 => ?_
              refine sq fun K45 hK45 => ?_
              refine spl h497 (d := 14) rfl (fun hb390 => ?_) (fun hb390 => ?_)
              ·
               have hp390 := of_decide_eq_true hb390
               clear hK43 K43
               refine drw h497 [some 124, some 125, some 126, some 127, some 128, some 129, some 130, some 131, some 132, some 133, some 134, some 135, some 136, some 137, some 138] rfl [Fx (.bool (decide (hh.off % 512 = 0))), Fx (.bool (!(decide (hh.off % 512 = 0)))), Fx (.bool (!(decide (hh.off % 512 = 0)))), Fx (ndV (Pl.contNode (Pl.trimZ (b1.take (Pl.getH b0).1.size.toNat)) hh)), Fx (.pointer (some ⟨g11, 9, none⟩)), Fx (.int .i64 hh.off), Fx (.pointer (some ⟨g11, 10, none⟩)), Fx (.int .i64 hh.real), fun v w' => ∃ S0 : Nat → Prop, Rws S0 w' v (Pl.contRaw (Pl.contNode (Pl.trimZ (b1.take (Pl.getH b0).1.size.toNat)) hh) hh.off hh.real), Fx (.slice (some adv) l.length cl), Fx (.int .i64 (kk : Int)), fun v w' => ∃ S0 : Nat → Prop, Rws S0 w' v ((l.take kk).drop 0), Fx (.bool (decide ((Pl.contRaw (Pl.contNode (Pl.trimZ (b1.take (Pl.getH b0).1.size.toNat)) hh) hh.off hh.real) = l.take kk))), Fx (.bool (!(decide ((Pl.contRaw (Pl.contNode (Pl.trimZ (b1.take (Pl.getH b0).1.size.toNat)) hh) hh.off hh.real) = l.take kk)))), Fx (.bool (!(decide ((Pl.contRaw (Pl.contNode (Pl.trimZ (b1.take (Pl.getH b0).1.size.toNat)) hh) hh.off hh.real) = l.take kk))))] Kept rfl rfl rfl rfl (drewKept _) keptT (mcons mfx (mcons mfx (mcons mfx (mcons mfx (mcons mfx (mcons mfx (mcons mfx (mcons mfx (mcons (fun v w w' hk h => ⟨_, h.choose_spec.kept hk⟩) (mcons mfx (mcons mfx (mcons (fun v w w' hk h => ⟨_, h.choose_spec.kept hk⟩) (mcons mfx (mcons mfx (mcons mfx mnil))))))))))))))) ⟨?_, ?_, ?_, ?_, ?_, ?_, ?_, ?_, ?_, ?_, ?_, ?_, ?_, ?_, ?_, trivial⟩ ?_
               ·
                intro L a w_ hH hb hR hd ho
                have hl14 := hb 14 _ rfl
                refine mv hH hl14 rfl fun a498 h498 => ?_
                exact wpL_nil ⟨_, h498, Kept.refl _, rfl⟩
               ·
                intro L a w_ hH hb hR hd ho
                obtain ⟨_, hl124, rfl⟩ := hd 0 rfl
                refine unot hH hl124 rfl fun a499 h499 => ?_
                exact wpL_nil ⟨_, h499, Kept.refl _, rfl⟩
               ·
                intro L a w_ hH hb hR hd ho
                obtain ⟨_, hl125, rfl⟩ := hd 1 rfl
                refine mv hH hl125 rfl fun a500 h500 => ?_
                exact wpL_nil ⟨_, h500, Kept.refl _, rfl⟩
               ·
                intro L a w_ hH hb hR hd ho
                have hl13 := hb 13 _ rfl
                obtain ⟨_, hl126, rfl⟩ := hd 2 rfl
                replace hg13 := hg13.kept hR
                refine gon hH rfl hl126 (bnt hb390) ?_
                refine ldbn hH hg13 ([str (Pl.trimZ (b1.take (Pl.getH b0).1.size.toNat)), str [], u8 48, .int .i64 hh.mode, .int .i64 hh.uid, .int .i64 hh.gid, .int .i64 hh.mtime, str []]) hl13 Try.isAgg32 Try.sizeOf32 rfl rfl fun a501 h501 => ?_
                exact wpL_nil ⟨_, h501, Kept.refl _, rfl⟩
               ·
                intro L a w_ hH hb hR hd ho
                have hl11 := hb 11 _ rfl
                obtain ⟨_, hl126, rfl⟩ := hd 2 rfl
                refine gon hH rfl hl126 (bnt hb390) ?_
                refine fab hH hl11 Try.underlying41 rfl Try.sizeOf3 rfl 9 rfl rfl fun a502 h502 => ?_
                exact wpL_nil ⟨_, h502, Kept.refl _, rfl⟩
               ·
                intro L a w_ hH hb hR hd ho
                obtain ⟨_, hl128, rfl⟩ := hd 4 rfl
                obtain ⟨_, hl126, rfl⟩ := hd 2 rfl
                replace hg11 := hg11.kept hR
                refine gon hH rfl hl126 (bnt hb390) ?_
                refine ldb hH hg11 hl128 Try.isAgg3 rfl rfl fun a503 h503 => ?_
                exact wpL_nil ⟨_, h503, Kept.refl _, rfl⟩
               ·
                intro L a w_ hH hb hR hd ho
                have hl11 := hb 11 _ rfl
                obtain ⟨_, hl126, rfl⟩ := hd 2 rfl
                refine gon hH rfl hl126 (bnt hb390) ?_
                refine fab hH hl11 Try.underlying41 rfl Try.sizeOf3 rfl 10 rfl rfl fun a504 h504 => ?_
                exact wpL_nil ⟨_, h504, Kept.refl _, rfl⟩
               ·
                intro L a w_ hH hb hR hd ho
                obtain ⟨_, hl130, rfl⟩ := hd 6 rfl
                obtain ⟨_, hl126, rfl⟩ := hd 2 rfl
                replace hg11 := hg11.kept hR
                refine gon hH rfl hl126 (bnt hb390) ?_
                refine ldb hH hg11 hl130 Try.isAgg3 rfl rfl fun a505 h505 => ?_
                exact wpL_nil ⟨_, h505, Kept.refl _, rfl⟩
               ·
                intro L a w_ hH hb hR hd ho
                obtain ⟨_, hl127, rfl⟩ := hd 3 rfl
                obtain ⟨_, hl129, rfl⟩ := hd 5 rfl
                obtain ⟨_, hl131, rfl⟩ := hd 7 rfl
                obtain ⟨_, hl126, rfl⟩ := hd 2 rfl
                refine gon hH rfl hl126 (bnt hb390) ?_
                refine cal hH Try.call102 (evs3 hl127 hl129 hl131) (c_cput (Pl.contNode (Pl.trimZ (b1.take (Pl.getH b0).1.size.toNat)) hh) hh.off hh.real _ (cnode_L (by omega)) (one_R64 hone) ⟨by omega, by omega⟩ ⟨by omega, by omega⟩) rfl ?_
                rintro v55 w55 a506 ⟨hA55, hk55⟩ h506
                exact wpL_nil ⟨_, h506, hk55, ⟨_, hA55⟩⟩
               ·
                intro L a w_ hH hb hR hd ho
                have hl1 := hb 1 _ rfl
                obtain ⟨_, hl126, rfl⟩ := hd 2 rfl
                replace hg1 := hg1.kept hR
                refine gon hH rfl hl126 (bnt hb390) ?_
                refine ldb hH hg1 hl1 Try.isAgg25 rfl rfl fun a507 h507 => ?_
                exact wpL_nil ⟨_, h507, Kept.refl _, rfl⟩
               ·
                intro L a w_ hH hb hR hd ho
                have hl9 := hb 9 _ rfl
                obtain ⟨_, hl126, rfl⟩ := hd 2 rfl
                replace hg9 := hg9.kept hR
                refine gon hH rfl hl126 (bnt hb390) ?_
                refine ldb hH hg9 hl9 Try.isAgg3 rfl rfl fun a508 h508 => ?_
                exact wpL_nil ⟨_, h508, Kept.refl _, rfl⟩
               ·
                intro L a w_ hH hb hR hd ho
                obtain ⟨_, hl133, rfl⟩ := hd 9 rfl
                obtain ⟨_, hl134, rfl⟩ := hd 10 rfl
                obtain ⟨_, hl126, rfl⟩ := hd 2 rfl
                replace hv := hv.kept hR
                refine gon hH rfl hl126 (bnt hb390) ?_
                refine slR (0) (kk) hv hH Try.underlying25 hl133 Try.sizeOf35 rfl ⟨_, hl134, by first | omega | (simp; omega)⟩ (by omega) (by omega) rfl fun a509 v135' h509 hs135 => ?_
                exact wpL_nil ⟨_, h509, Kept.refl _, ⟨_, hs135⟩⟩
               ·
                intro L a w_ hH hb hR hd ho
                obtain ⟨v132, hl132, hf132⟩ := hd 8 rfl
                obtain ⟨v135, hl135, hf135⟩ := hd 11 rfl
                obtain ⟨_, hl126, rfl⟩ := hd 2 rfl
                refine gon hH rfl hl126 (bnt hb390) ?_
                obtain ⟨_, hb132⟩ := hf132
                obtain ⟨_, hb135⟩ := hf135
                refine cal hH Try.call109 (evs2 hl132 hl135) (c_bsame _ _ _ _ _ hb132 hb135) rfl ?_
                rintro v56 w56 a510 ⟨rfl, hk56⟩ h510
                exact wpL_nil ⟨_, h510, hk56, (by rw [List.drop_zero]; exact rfl)⟩
               ·
                intro L a w_ hH hb hR hd ho
                obtain ⟨_, hl136, rfl⟩ := hd 12 rfl
                obtain ⟨_, hl126, rfl⟩ := hd 2 rfl
                refine gon hH rfl hl126 (bnt hb390) ?_
                refine unot hH hl136 rfl fun a511 h511 => ?_
                exact wpL_nil ⟨_, h511, Kept.refl _, rfl⟩
               ·
                intro L a w_ hH hb hR hd ho
                obtain ⟨_, hl126, rfl⟩ := hd 2 rfl
                obtain ⟨_, hl137, rfl⟩ := hd 13 rfl
                refine pkf hH hl126 (bnt hb390) hl137 rfl fun a512 h512 => ?_
                exact wpL_nil ⟨_, h512, Kept.refl _, rfl⟩
               intro L57 a513 w57 h513 hbh513 hRh513 hdh513
               obtain ⟨_, hl124, rfl⟩ := hdh513 0 (by decide)
               obtain ⟨_, hl125, rfl⟩ := hdh513 1 (by decide)
               obtain ⟨_, hl126, rfl⟩ := hdh513 2 (by decide)
               obtain ⟨_, hl127, rfl⟩ := hdh513 3 (by decide)
               obtain ⟨_, hl128, rfl⟩ := hdh513 4 (by decide)
               obtain ⟨_, hl129, rfl⟩ := hdh513 5 (by decide)
               obtain ⟨_, hl130, rfl⟩ := hdh513 6 (by decide)
               obtain ⟨_, hl131, rfl⟩ := hdh513 7 (by decide)
               obtain ⟨v132, hl132, hf132⟩ := hdh513 8 (by decide)
               obtain ⟨_, hl133, rfl⟩ := hdh513 9 (by decide)
               obtain ⟨_, hl134, rfl⟩ := hdh513 10 (by decide)
               obtain ⟨v135, hl135, hf135⟩ := hdh513 11 (by decide)
               obtain ⟨_, hl136, rfl⟩ := hdh513 12 (by decide)
               obtain ⟨_, hl137, rfl⟩ := hdh513 13 (by decide)
               obtain ⟨_, hl138, rfl⟩ := hdh513 14 (by decide)
               have h514 := Has.under h513 hbh513
               have h515 := (h513.add hl138 (h513.add hl137 (h513.add hl136 (h513.add hl135 (h513.add hl134 (h513.add hl133 (h513.add hl132 (h513.add hl131 (h513.add hl130 (h513.add hl129 (h513.add hl128 (h513.add hl127 (h513.add hl126 (h513.add hl125 (h513.add hl124 h514)))))))))))))))
               clear h514 hl124 hl125 hl126 hl127 hl128 hl129 hl130 hl131 hl132 hl133 hl134 hl135 hl136 hl137 hl138 hbh513 hdh513
               replace hB := Kept.trans hB hRh513
               replace hv := hv.kept hRh513
               replace hg2 := hg2.kept hRh513
               replace hg9 := hg9.kept hRh513
               replace hg11 := hg11.kept hRh513
               replace hg13 := hg13.kept hRh513
               refine hK45 _ _ ?_
               refine spl h515 (d := 138) rfl (fun hb9005 => ?_) (fun hb9005 => ?_)
               ·
                refine cdt h515 rfl (bnf (bunt hb9005)) ?_
                refine sq fun K46 hK46 => ?_
                refine reg [some 139, some 140, some 141, some 142, some 143, some 144, some 145, none, some 3, some 4, some 5, some 6] rfl ?_
                refine mv h515 rfl rfl fun a516 h516 => ?_
                refine clv h516 rfl Try.call105 rfl _ rfl (c_cno _) rfl ?_
                rintro v58 w58 a517 ⟨rfl, hk58⟩ h517
                replace hB := Kept.trans hB hk58
                replace hv := hv.kept hk58
                replace hg2 := hg2.kept hk58
                refine ext5_0 h517 rfl rfl fun a518 h518 => ?_
                refine ext5_1 h518 rfl rfl fun a519 h519 => ?_
                refine ext5_2 h519 rfl rfl fun a520 h520 => ?_
                refine ext5_3 h520 rfl rfl fun a521 h521 => ?_
                refine ext5_4 h521 rfl rfl fun a522 h522 => ?_
                refine stb h522 hg2 rfl rfl _ rfl Try.sizeOf32 (by first | exact hd_one _ | exact nd_one _ | exact nd_one Pl.Nd.none | (simp [Value.oneCell']; done)) _ (by first | (simp [hdCells]; done) | (simp [ndCells]; done) | simp) rfl fun w59 hg2' hk59 => ?_
                replace hB := Kept.but hB hk59 (by omega)
                replace hv := hv.but hk59 (by intro hs; have := hs.2; omega)
                clear hg2; have hg2 := hg2'; clear hg2'
                refine asg h522 rfl rfl fun a523 h523 => ?_
                refine asg h523 rfl rfl fun a524 h524 => ?_
                refine asg h524 rfl rfl fun a525 h525 => ?_
                refine asg h525 rfl rfl fun a526 h526 => ?_
                clear hK45 h515 h516 h517 h518 h519 h520 h521 h522 h523 h524 h525 K45 a516 a517 a518 a519 a520 a521 a522 a523 a524 a525
                refine wpL_nil (hK46 _ _ ?_)
                refine rtn (leave h526 (res5 h526 rfl (rva (ndCells Pl.Nd.none) hg2 rfl Try.isAgg32 Try.sizeOf32 rfl) (rvt rfl) (rvt rfl) (rvt rfl) (rvt rfl)) ?_)
                first | exact ⟨_, rfl, by rw [hce, if_neg (by rintro ⟨-, h1⟩; exact absurd h1 (of_decide_eq_false (bunt hb9005)))]; rfl, hB⟩
               ·
                refine cdf h515 rfl (bnt (bunf hb9005)) ?_
                refine skp (hK44 _ _ ?_)
                refine sq fun K47 hK47 => ?_
                clear hK45 hK44 K45 K44
                refine drwL h515 [some 146, some 147, some 148, some 149, some 150, some 151, none, some 3, some 4, some 5, some 6] rfl [Fx (ndV (Pl.contNode (Pl.trimZ (b1.take (Pl.getH b0).1.size.toNat)) hh)), Fx (.pointer (some ⟨g11, 9, none⟩)), Fx (.int .i64 hh.off), Fx (.pointer (some ⟨g11, 10, none⟩)), Fx (.int .i64 hh.real), Fx (.int .i64 (kk : Int)), fun _ w' => Blk w' g2 32 (ndCells (Pl.contNode (Pl.trimZ (b1.take (Pl.getH b0).1.size.toNat)) hh)), Fx (.int .i64 hh.off), Fx (.int .i64 hh.real), Fx (.int .i64 (kk : Int)), Fx ((.bool true))] Kept (But g2) 6 [true, false, false, false, false, false, true, false, false, false, false] rfl rfl rfl rfl rfl rfl (drewKept _) keptT (fun _ _ _ h k => But.trans (Kept.toBut h _) k) (fun _ _ _ h k => But.trans h (Kept.toBut k _)) (fun _ _ h => Kept.toBut h _) ((mcons mfx (mcons mfx (mcons mfx (mcons mfx (mcons mfx (mcons mfx (mcons (fun v w w' hk h => h.kept hk) (mcons mfx (mcons mfx (mcons mfx (mcons mfx mnil)))))))))))) (MonoX.all (mconsX (fun _ => mfx) (mconsX (fun _ => mfx) (mconsX (fun _ => mfx) (mconsX (fun _ => mfx) (mconsX (fun _ => mfx) (mconsX (fun _ => mfx) (mconsX (fun h => absurd rfl h) (mconsX (fun _ => mfx) (mconsX (fun _ => mfx) (mconsX (fun _ => mfx) (mconsX (fun _ => mfx) mnilX)))))))))))) ⟨?_, ?_, ?_, ?_, ?_, ?_, ?_, ?_, ?_, ?_, ?_, trivial⟩ ?_
                ·
                 intro L a w_ hH hb hR hd ho
                 have hl13 := hb 13 _ rfl
                 replace hR : Kept w57 w_ := hR
                 replace hg13 := hg13.kept hR
                 refine ldbn hH hg13 ([str (Pl.trimZ (b1.take (Pl.getH b0).1.size.toNat)), str [], u8 48, .int .i64 hh.mode, .int .i64 hh.uid, .int .i64 hh.gid, .int .i64 hh.mtime, str []]) hl13 Try.isAgg32 Try.sizeOf32 rfl rfl fun a527 h527 => ?_
                 exact wpL_nil ⟨_, h527, Kept.refl _, rfl⟩
                ·
                 intro L a w_ hH hb hR hd ho
                 have hl11 := hb 11 _ rfl
                 replace hR : But g2 w57 w_ := hR
                 refine fab hH hl11 Try.underlying41 rfl Try.sizeOf3 rfl 9 rfl rfl fun a528 h528 => ?_
                 exact wpL_nil ⟨_, h528, Kept.refl _, rfl⟩
                ·
                 intro L a w_ hH hb hR hd ho
                 obtain ⟨_, hl147, rfl⟩ := hd 1 rfl
                 replace hR : But g2 w57 w_ := hR
                 replace hg11 := hg11.but hR (by omega)
                 refine ldb hH hg11 hl147 Try.isAgg3 rfl rfl fun a529 h529 => ?_
                 exact wpL_nil ⟨_, h529, Kept.refl _, rfl⟩
                ·
                 intro L a w_ hH hb hR hd ho
                 have hl11 := hb 11 _ rfl
                 replace hR : But g2 w57 w_ := hR
                 refine fab hH hl11 Try.underlying41 rfl Try.sizeOf3 rfl 10 rfl rfl fun a530 h530 => ?_
                 exact wpL_nil ⟨_, h530, Kept.refl _, rfl⟩
                ·
                 intro L a w_ hH hb hR hd ho
                 obtain ⟨_, hl149, rfl⟩ := hd 3 rfl
                 replace hR : But g2 w57 w_ := hR
                 replace hg11 := hg11.but hR (by omega)
                 refine ldb hH hg11 hl149 Try.isAgg3 rfl rfl fun a531 h531 => ?_
                 exact wpL_nil ⟨_, h531, Kept.refl _, rfl⟩
                ·
                 intro L a w_ hH hb hR hd ho
                 have hl9 := hb 9 _ rfl
                 replace hR : But g2 w57 w_ := hR
                 replace hg9 := hg9.but hR (by omega)
                 refine ldb hH hg9 hl9 Try.isAgg3 rfl rfl fun a532 h532 => ?_
                 exact wpL_nil ⟨_, h532, Kept.refl _, rfl⟩
                ·
                 intro L a w_ hH hb hR hd ho
                 have hl2 := hb 2 _ rfl
                 obtain ⟨_, hl146, rfl⟩ := hd 0 rfl
                 replace hR : Kept w57 w_ := hR
                 replace hg2 := hg2.kept hR
                 refine stb hH hg2 hl2 hl146 _ rfl Try.sizeOf32 (nd_one _) _ (by simp [ndCells]) rfl fun w60 hg2' hk60 => ?_
                 exact wpL_nil ⟨undef, hH, hk60, hg2'⟩
                ·
                 intro L a w_ hH hb hR hd ho
                 obtain ⟨_, hl148, rfl⟩ := hd 2 rfl
                 replace hR : But g2 w57 w_ := hR
                 refine asg hH hl148 rfl fun a533 h533 => ?_
                 exact wpL_nil ⟨_, h533, Kept.refl _, rfl⟩
                ·
                 intro L a w_ hH hb hR hd ho
                 obtain ⟨_, hl150, rfl⟩ := hd 4 rfl
                 replace hR : But g2 w57 w_ := hR
                 refine asg hH hl150 rfl fun a534 h534 => ?_
                 exact wpL_nil ⟨_, h534, Kept.refl _, rfl⟩
                ·
                 intro L a w_ hH hb hR hd ho
                 obtain ⟨_, hl151, rfl⟩ := hd 5 rfl
                 replace hR : But g2 w57 w_ := hR
                 refine asg hH hl151 rfl fun a535 h535 => ?_
                 exact wpL_nil ⟨_, h535, Kept.refl _, rfl⟩
                ·
                 intro L a w_ hH hb hR hd ho
                 replace hR : But g2 w57 w_ := hR
                 refine asg hH rfl rfl fun a536 h536 => ?_
                 exact wpL_nil ⟨_, h536, Kept.refl _, rfl⟩
                intro L61 a537 w61 h537 hbh537 hRh537 hdh537
                obtain ⟨_, hl146, rfl⟩ := hdh537 0 (by decide)
                obtain ⟨_, hl147, rfl⟩ := hdh537 1 (by decide)
                obtain ⟨_, hl148, rfl⟩ := hdh537 2 (by decide)
                obtain ⟨_, hl149, rfl⟩ := hdh537 3 (by decide)
                obtain ⟨_, hl150, rfl⟩ := hdh537 4 (by decide)
                obtain ⟨_, hl151, rfl⟩ := hdh537 5 (by decide)
                obtain ⟨_, hl3, rfl⟩ := hdh537 7 (by decide)
                obtain ⟨_, hl4, rfl⟩ := hdh537 8 (by decide)
                obtain ⟨_, hl5, rfl⟩ := hdh537 9 (by decide)
                obtain ⟨_, hl6, rfl⟩ := hdh537 10 (by decide)
                have hs6 := hdh537 6 (by decide)
                have h538 := Has.under h537 hbh537
                have h539 := (h537.add hl6 (h537.add hl5 (h537.add hl4 (h537.add hl3 (h537.add hl151 (h537.add hl150 (h537.add hl149 (h537.add hl148 (h537.add hl147 (h537.add hl146 h538))))))))))
                clear h538 hl146 hl147 hl148 hl149 hl150 hl151 hl3 hl4 hl5 hl6 hbh537 hdh537
                have hg2' := hs6
                replace hB := Kept.but hB hRh537 (by omega)
                replace hv := hv.but hRh537 (by intro hs; have := hs.2; omega)
                clear hg2; have hg2 := hg2'; clear hg2'
                refine hK47 _ _ ?_
                refine rtn (leave h539 (res5 h539 rfl (rva (ndCells (Pl.contNode (Pl.trimZ (b1.take (Pl.getH b0).1.size.toNat)) hh)) hg2 rfl Try.isAgg32 Try.sizeOf32 rfl) (rvt rfl) (rvt rfl) (rvt rfl) (rvt rfl)) ?_)
                first | exact ⟨_, rfl, by rw [hce, if_pos ⟨by rw [Pl.contOk_eq]; simp only [hb1, hb2, hb3, (bunf hb4), hb5, hb6, (bunf hb7), (bunf hb8), hb9, hb386, hb387, hb388, hb389, hb390, (bunf hb9005), Bool.true_and], of_decide_eq_true (bunf hb9005)⟩]; rfl, hB⟩
              ·
               have hp390 := of_decide_eq_false hb390
               clear hK43 K43
               refine drw h497 [some 124, some 125, some 126, some 127, some 128, some 129, some 130, some 131, some 132, some 133, some 134, some 135, some 136, some 137, some 138] rfl [Fx (.bool (decide (hh.off % 512 = 0))), Fx (.bool (!(decide (hh.off % 512 = 0)))), Fx (.bool (!(decide (hh.off % 512 = 0)))), Fx (undef), Fx (undef), Fx (undef), Fx (undef), Fx (undef), Fx (undef), Fx (undef), Fx (undef), Fx (undef), Fx (undef), Fx (undef), Fx ((.bool true))] Kept rfl rfl rfl rfl (drewKept _) keptT (mcons mfx (mcons mfx (mcons mfx (mcons mfx (mcons mfx (mcons mfx (mcons mfx (mcons mfx (mcons mfx (mcons mfx (mcons mfx (mcons mfx (mcons mfx (mcons mfx (mcons mfx mnil))))))))))))))) ⟨?_, ?_, ?_, ?_, ?_, ?_, ?_, ?_, ?_, ?_, ?_, ?_, ?_, ?_, ?_, trivial⟩ ?_
               ·
                intro L a w_ hH hb hR hd ho
                have hl14 := hb 14 _ rfl
                refine mv hH hl14 rfl fun a540 h540 => ?_
                exact wpL_nil ⟨_, h540, Kept.refl _, rfl⟩
               ·
                intro L a w_ hH hb hR hd ho
                obtain ⟨_, hl124, rfl⟩ := hd 0 rfl
                refine unot hH hl124 rfl fun a541 h541 => ?_
                exact wpL_nil ⟨_, h541, Kept.refl _, rfl⟩
               ·
                intro L a w_ hH hb hR hd ho
                obtain ⟨_, hl125, rfl⟩ := hd 1 rfl
                refine mv hH hl125 rfl fun a542 h542 => ?_
                exact wpL_nil ⟨_, h542, Kept.refl _, rfl⟩
               ·
                intro L a w_ hH hb hR hd ho
                have hl13 := hb 13 _ rfl
                obtain ⟨_, hl126, rfl⟩ := hd 2 rfl
                refine goff hH rfl hl126 (bnf hb390) rfl fun a543 h543 => ?_
                exact wpL_nil ⟨_, h543, Kept.refl _, rfl⟩
               ·
                intro L a w_ hH hb hR hd ho
                have hl11 := hb 11 _ rfl
                obtain ⟨_, hl126, rfl⟩ := hd 2 rfl
                refine goff hH rfl hl126 (bnf hb390) rfl fun a544 h544 => ?_
                exact wpL_nil ⟨_, h544, Kept.refl _, rfl⟩
               ·
                intro L a w_ hH hb hR hd ho
                obtain ⟨_, hl128, rfl⟩ := hd 4 rfl
                obtain ⟨_, hl126, rfl⟩ := hd 2 rfl
                refine goff hH rfl hl126 (bnf hb390) rfl fun a545 h545 => ?_
                exact wpL_nil ⟨_, h545, Kept.refl _, rfl⟩
               ·
                intro L a w_ hH hb hR hd ho
                have hl11 := hb 11 _ rfl
                obtain ⟨_, hl126, rfl⟩ := hd 2 rfl
                refine goff hH rfl hl126 (bnf hb390) rfl fun a546 h546 => ?_
                exact wpL_nil ⟨_, h546, Kept.refl _, rfl⟩
               ·
                intro L a w_ hH hb hR hd ho
                obtain ⟨_, hl130, rfl⟩ := hd 6 rfl
                obtain ⟨_, hl126, rfl⟩ := hd 2 rfl
                refine goff hH rfl hl126 (bnf hb390) rfl fun a547 h547 => ?_
                exact wpL_nil ⟨_, h547, Kept.refl _, rfl⟩
               ·
                intro L a w_ hH hb hR hd ho
                obtain ⟨_, hl127, rfl⟩ := hd 3 rfl
                obtain ⟨_, hl129, rfl⟩ := hd 5 rfl
                obtain ⟨_, hl131, rfl⟩ := hd 7 rfl
                obtain ⟨_, hl126, rfl⟩ := hd 2 rfl
                refine goff hH rfl hl126 (bnf hb390) rfl fun a548 h548 => ?_
                exact wpL_nil ⟨_, h548, Kept.refl _, rfl⟩
               ·
                intro L a w_ hH hb hR hd ho
                have hl1 := hb 1 _ rfl
                obtain ⟨_, hl126, rfl⟩ := hd 2 rfl
                refine goff hH rfl hl126 (bnf hb390) rfl fun a549 h549 => ?_
                exact wpL_nil ⟨_, h549, Kept.refl _, rfl⟩
               ·
                intro L a w_ hH hb hR hd ho
                have hl9 := hb 9 _ rfl
                obtain ⟨_, hl126, rfl⟩ := hd 2 rfl
                refine goff hH rfl hl126 (bnf hb390) rfl fun a550 h550 => ?_
                exact wpL_nil ⟨_, h550, Kept.refl _, rfl⟩
               ·
                intro L a w_ hH hb hR hd ho
                obtain ⟨_, hl133, rfl⟩ := hd 9 rfl
                obtain ⟨_, hl134, rfl⟩ := hd 10 rfl
                obtain ⟨_, hl126, rfl⟩ := hd 2 rfl
                refine goff hH rfl hl126 (bnf hb390) rfl fun a551 h551 => ?_
                exact wpL_nil ⟨_, h551, Kept.refl _, rfl⟩
               ·
                intro L a w_ hH hb hR hd ho
                obtain ⟨_, hl132, rfl⟩ := hd 8 rfl
                obtain ⟨_, hl135, rfl⟩ := hd 11 rfl
                obtain ⟨_, hl126, rfl⟩ := hd 2 rfl
                refine goff hH rfl hl126 (bnf hb390) rfl fun a552 h552 => ?_
                exact wpL_nil ⟨_, h552, Kept.refl _, rfl⟩
               ·
                intro L a w_ hH hb hR hd ho
                obtain ⟨_, hl136, rfl⟩ := hd 12 rfl
                obtain ⟨_, hl126, rfl⟩ := hd 2 rfl
                refine goff hH rfl hl126 (bnf hb390) rfl fun a553 h553 => ?_
                exact wpL_nil ⟨_, h553, Kept.refl _, rfl⟩
               ·
                intro L a w_ hH hb hR hd ho
                obtain ⟨_, hl126, rfl⟩ := hd 2 rfl
                obtain ⟨_, hl137, rfl⟩ := hd 13 rfl
                refine pkt hH hl126 (bnf hb390) rfl rfl fun a554 h554 => ?_
                exact wpL_nil ⟨_, h554, Kept.refl _, rfl⟩
               intro L62 a555 w62 h555 hbh555 hRh555 hdh555
               obtain ⟨_, hl124, rfl⟩ := hdh555 0 (by decide)
               obtain ⟨_, hl125, rfl⟩ := hdh555 1 (by decide)
               obtain ⟨_, hl126, rfl⟩ := hdh555 2 (by decide)
               obtain ⟨_, hl127, rfl⟩ := hdh555 3 (by decide)
               obtain ⟨_, hl128, rfl⟩ := hdh555 4 (by decide)
               obtain ⟨_, hl129, rfl⟩ := hdh555 5 (by decide)
               obtain ⟨_, hl130, rfl⟩ := hdh555 6 (by decide)
               obtain ⟨_, hl131, rfl⟩ := hdh555 7 (by decide)
               obtain ⟨_, hl132, rfl⟩ := hdh555 8 (by decide)
               obtain ⟨_, hl133, rfl⟩ := hdh555 9 (by decide)
               obtain ⟨_, hl134, rfl⟩ := hdh555 10 (by decide)
               obtain ⟨_, hl135, rfl⟩ := hdh555 11 (by decide)
               obtain ⟨_, hl136, rfl⟩ := hdh555 12 (by decide)
               obtain ⟨_, hl137, rfl⟩ := hdh555 13 (by decide)
               obtain ⟨_, hl138, rfl⟩ := hdh555 14 (by decide)
               have h556 := Has.under h555 hbh555
               have h557 := (h555.add hl138 (h555.add hl137 (h555.add hl136 (h555.add hl135 (h555.add hl134 (h555.add hl133 (h555.add hl132 (h555.add hl131 (h555.add hl130 (h555.add hl129 (h555.add hl128 (h555.add hl127 (h555.add hl126 (h555.add hl125 (h555.add hl124 h556)))))))))))))))
               clear h556 hl124 hl125 hl126 hl127 hl128 hl129 hl130 hl131 hl132 hl133 hl134 hl135 hl136 hl137 hl138 hbh555 hdh555
               replace hB := Kept.trans hB hRh555
               replace hv := hv.kept hRh555
               replace hg2 := hg2.kept hRh555
               refine hK45 _ _ ?_
               refine cdt h557 rfl rfl ?_
               refine sq fun K48 hK48 => ?_
               refine reg [some 139, some 140, some 141, some 142, some 143, some 144, some 145, none, some 3, some 4, some 5, some 6] rfl ?_
               refine mv h557 rfl rfl fun a558 h558 => ?_
               refine clv h558 rfl Try.call105 rfl _ rfl (c_cno _) rfl ?_
               rintro v63 w63 a559 ⟨rfl, hk63⟩ h559
               replace hB := Kept.trans hB hk63
               replace hv := hv.kept hk63
               replace hg2 := hg2.kept hk63
               refine ext5_0 h559 rfl rfl fun a560 h560 => ?_
               refine ext5_1 h560 rfl rfl fun a561 h561 => ?_
               refine ext5_2 h561 rfl rfl fun a562 h562 => ?_
               refine ext5_3 h562 rfl rfl fun a563 h563 => ?_
               refine ext5_4 h563 rfl rfl fun a564 h564 => ?_
               refine stb h564 hg2 rfl rfl _ rfl Try.sizeOf32 (by first | exact hd_one _ | exact nd_one _ | exact nd_one Pl.Nd.none | (simp [Value.oneCell']; done)) _ (by first | (simp [hdCells]; done) | (simp [ndCells]; done) | simp) rfl fun w64 hg2' hk64 => ?_
               replace hB := Kept.but hB hk64 (by omega)
               replace hv := hv.but hk64 (by intro hs; have := hs.2; omega)
               clear hg2; have hg2 := hg2'; clear hg2'
               refine asg h564 rfl rfl fun a565 h565 => ?_
               refine asg h565 rfl rfl fun a566 h566 => ?_
               refine asg h566 rfl rfl fun a567 h567 => ?_
               refine asg h567 rfl rfl fun a568 h568 => ?_
               clear hK45 h557 h558 h559 h560 h561 h562 h563 h564 h565 h566 h567 K45 a558 a559 a560 a561 a562 a563 a564 a565 a566 a567
               refine wpL_nil (hK48 _ _ ?_)
               refine rtn (leave h568 (res5 h568 rfl (rva (ndCells Pl.Nd.none) hg2 rfl Try.isAgg32 Try.sizeOf32 rfl) (rvt rfl) (rvt rfl) (rvt rfl) (rvt rfl)) ?_)
               first | exact ⟨_, rfl, by rw [Pl.cg_no1 hno0]; rfl, hB⟩ | exact ⟨_, rfl, by rw [Pl.cg_b1 hok0 ht76 (by omega)]; rfl, hB⟩ | exact ⟨_, rfl, by rw [Pl.cg_b2 hok0 ht76 hbb1 (by rw [hq10]; omega)]; rfl, hB⟩ | exact ⟨_, rfl, by rw [Pl.cg_b3 hok0 ht76 hbb1 hnc hno2]; rfl, hB⟩ | exact ⟨_, rfl, by rw [hcg, Pl.ce_no (fun e => by have hq9 := congrArg UInt8.toNat e; simp at hq9; omega)]; rfl, hB⟩ | exact ⟨_, rfl, by rw [hce, if_neg (by rintro ⟨h1, -⟩; rw [Pl.contOk_eq] at h1; simp only [hb1, hb2, hb3, (bunf hb4), hb5, hb6, (bunf hb7), (bunf hb8), hb9, hb386, hb387, hb388, hb389, hb390, Bool.true_and, Bool.false_and, Bool.false_eq_true] at h1; done)]; rfl, hB⟩
             ·
              have hp389 := of_decide_eq_false hb389
              refine goff h491 (d := 118) rfl rfl hb389 rfl fun a569 h569 => ?_
              refine goff h569 (d := 118) rfl rfl hb389 rfl fun a570 h570 => ?_
              refine goff h570 (d := 118) rfl rfl hb389 rfl fun a571 h571 => ?_
              refine goff h571 (d := 118) rfl rfl hb389 rfl fun a572 h572 => ?_
              refine pkf h572 rfl hb389 rfl rfl fun a573 h573 => ?_
              refine asg h573 rfl rfl fun a574 h574 => ?_
              clear hK42 h472 h473 h474 h475 h476 h477 h478 h479 h480 h481 h482 h483 h484 h485 h486 h487 h488 h489 h490 h491 h569 h570 h571 h572 h573 K42 a472 a473 a474 a475 a476 a477 a478 a479 a480 a481 a482 a483 a484 a485 a486 a487 a488 a489 a490 a491 a569 a570 a571 a572 a573
              refine wpL_nil (hK43 _ _ ?_)
              refine sq fun K49 hK49 => ?_
              refine sq fun K50 hK50 => ?_
              clear hK43 K43
              refine drw h574 [some 124, some 125, some 126, some 127, some 128, some 129, some 130, some 131, some 132, some 133, some 134, some 135, some 136, some 137, some 138] rfl [Fx (.bool false), Fx (.bool (!false)), Fx (.bool (!false)), Fx (undef), Fx (undef), Fx (undef), Fx (undef), Fx (undef), Fx (undef), Fx (undef), Fx (undef), Fx (undef), Fx (undef), Fx (undef), Fx ((.bool true))] Kept rfl rfl rfl rfl (drewKept _) keptT (mcons mfx (mcons mfx (mcons mfx (mcons mfx (mcons mfx (mcons mfx (mcons mfx (mcons mfx (mcons mfx (mcons mfx (mcons mfx (mcons mfx (mcons mfx (mcons mfx (mcons mfx mnil))))))))))))))) ⟨?_, ?_, ?_, ?_, ?_, ?_, ?_, ?_, ?_, ?_, ?_, ?_, ?_, ?_, ?_, trivial⟩ ?_
              ·
               intro L a w_ hH hb hR hd ho
               have hl14 := hb 14 _ rfl
               refine mv hH hl14 rfl fun a575 h575 => ?_
               exact wpL_nil ⟨_, h575, Kept.refl _, rfl⟩
              ·
               intro L a w_ hH hb hR hd ho
               obtain ⟨_, hl124, rfl⟩ := hd 0 rfl
               refine unot hH hl124 rfl fun a576 h576 => ?_
               exact wpL_nil ⟨_, h576, Kept.refl _, rfl⟩
              ·
               intro L a w_ hH hb hR hd ho
               obtain ⟨_, hl125, rfl⟩ := hd 1 rfl
               refine mv hH hl125 rfl fun a577 h577 => ?_
               exact wpL_nil ⟨_, h577, Kept.refl _, rfl⟩
              ·
               intro L a w_ hH hb hR hd ho
               have hl13 := hb 13 _ rfl
               obtain ⟨_, hl126, rfl⟩ := hd 2 rfl
               refine goff hH rfl hl126 (bnf rfl) rfl fun a578 h578 => ?_
               exact wpL_nil ⟨_, h578, Kept.refl _, rfl⟩
              ·
               intro L a w_ hH hb hR hd ho
               have hl11 := hb 11 _ rfl
               obtain ⟨_, hl126, rfl⟩ := hd 2 rfl
               refine goff hH rfl hl126 (bnf rfl) rfl fun a579 h579 => ?_
               exact wpL_nil ⟨_, h579, Kept.refl _, rfl⟩
              ·
               intro L a w_ hH hb hR hd ho
               obtain ⟨_, hl128, rfl⟩ := hd 4 rfl
               obtain ⟨_, hl126, rfl⟩ := hd 2 rfl
               refine goff hH rfl hl126 (bnf rfl) rfl fun a580 h580 => ?_
               exact wpL_nil ⟨_, h580, Kept.refl _, rfl⟩
              ·
               intro L a w_ hH hb hR hd ho
               have hl11 := hb 11 _ rfl
               obtain ⟨_, hl126, rfl⟩ := hd 2 rfl
               refine goff hH rfl hl126 (bnf rfl) rfl fun a581 h581 => ?_
               exact wpL_nil ⟨_, h581, Kept.refl _, rfl⟩
              ·
               intro L a w_ hH hb hR hd ho
               obtain ⟨_, hl130, rfl⟩ := hd 6 rfl
               obtain ⟨_, hl126, rfl⟩ := hd 2 rfl
               refine goff hH rfl hl126 (bnf rfl) rfl fun a582 h582 => ?_
               exact wpL_nil ⟨_, h582, Kept.refl _, rfl⟩
              ·
               intro L a w_ hH hb hR hd ho
               obtain ⟨_, hl127, rfl⟩ := hd 3 rfl
               obtain ⟨_, hl129, rfl⟩ := hd 5 rfl
               obtain ⟨_, hl131, rfl⟩ := hd 7 rfl
               obtain ⟨_, hl126, rfl⟩ := hd 2 rfl
               refine goff hH rfl hl126 (bnf rfl) rfl fun a583 h583 => ?_
               exact wpL_nil ⟨_, h583, Kept.refl _, rfl⟩
              ·
               intro L a w_ hH hb hR hd ho
               have hl1 := hb 1 _ rfl
               obtain ⟨_, hl126, rfl⟩ := hd 2 rfl
               refine goff hH rfl hl126 (bnf rfl) rfl fun a584 h584 => ?_
               exact wpL_nil ⟨_, h584, Kept.refl _, rfl⟩
              ·
               intro L a w_ hH hb hR hd ho
               have hl9 := hb 9 _ rfl
               obtain ⟨_, hl126, rfl⟩ := hd 2 rfl
               refine goff hH rfl hl126 (bnf rfl) rfl fun a585 h585 => ?_
               exact wpL_nil ⟨_, h585, Kept.refl _, rfl⟩
              ·
               intro L a w_ hH hb hR hd ho
               obtain ⟨_, hl133, rfl⟩ := hd 9 rfl
               obtain ⟨_, hl134, rfl⟩ := hd 10 rfl
               obtain ⟨_, hl126, rfl⟩ := hd 2 rfl
               refine goff hH rfl hl126 (bnf rfl) rfl fun a586 h586 => ?_
               exact wpL_nil ⟨_, h586, Kept.refl _, rfl⟩
              ·
               intro L a w_ hH hb hR hd ho
               obtain ⟨_, hl132, rfl⟩ := hd 8 rfl
               obtain ⟨_, hl135, rfl⟩ := hd 11 rfl
               obtain ⟨_, hl126, rfl⟩ := hd 2 rfl
               refine goff hH rfl hl126 (bnf rfl) rfl fun a587 h587 => ?_
               exact wpL_nil ⟨_, h587, Kept.refl _, rfl⟩
              ·
               intro L a w_ hH hb hR hd ho
               obtain ⟨_, hl136, rfl⟩ := hd 12 rfl
               obtain ⟨_, hl126, rfl⟩ := hd 2 rfl
               refine goff hH rfl hl126 (bnf rfl) rfl fun a588 h588 => ?_
               exact wpL_nil ⟨_, h588, Kept.refl _, rfl⟩
              ·
               intro L a w_ hH hb hR hd ho
               obtain ⟨_, hl126, rfl⟩ := hd 2 rfl
               obtain ⟨_, hl137, rfl⟩ := hd 13 rfl
               refine pkt hH hl126 (bnf rfl) rfl rfl fun a589 h589 => ?_
               exact wpL_nil ⟨_, h589, Kept.refl _, rfl⟩
              intro L65 a590 w65 h590 hbh590 hRh590 hdh590
              obtain ⟨_, hl124, rfl⟩ := hdh590 0 (by decide)
              obtain ⟨_, hl125, rfl⟩ := hdh590 1 (by decide)
              obtain ⟨_, hl126, rfl⟩ := hdh590 2 (by decide)
              obtain ⟨_, hl127, rfl⟩ := hdh590 3 (by decide)
              obtain ⟨_, hl128, rfl⟩ := hdh590 4 (by decide)
              obtain ⟨_, hl129, rfl⟩ := hdh590 5 (by decide)
              obtain ⟨_, hl130, rfl⟩ := hdh590 6 (by decide)
              obtain ⟨_, hl131, rfl⟩ := hdh590 7 (by decide)
              obtain ⟨_, hl132, rfl⟩ := hdh590 8 (by decide)
              obtain ⟨_, hl133, rfl⟩ := hdh590 9 (by decide)
              obtain ⟨_, hl134, rfl⟩ := hdh590 10 (by decide)
              obtain ⟨_, hl135, rfl⟩ := hdh590 11 (by decide)
              obtain ⟨_, hl136, rfl⟩ := hdh590 12 (by decide)
              obtain ⟨_, hl137, rfl⟩ := hdh590 13 (by decide)
              obtain ⟨_, hl138, rfl⟩ := hdh590 14 (by decide)
              have h591 := Has.under h590 hbh590
              have h592 := (h590.add hl138 (h590.add hl137 (h590.add hl136 (h590.add hl135 (h590.add hl134 (h590.add hl133 (h590.add hl132 (h590.add hl131 (h590.add hl130 (h590.add hl129 (h590.add hl128 (h590.add hl127 (h590.add hl126 (h590.add hl125 (h590.add hl124 h591)))))))))))))))
              clear h591 hl124 hl125 hl126 hl127 hl128 hl129 hl130 hl131 hl132 hl133 hl134 hl135 hl136 hl137 hl138 hbh590 hdh590
              replace hB := Kept.trans hB hRh590
              replace hv := hv.kept hRh590
              replace hg2 := hg2.kept hRh590
              refine hK50 _ _ ?_
              refine cdt h592 rfl rfl ?_
              refine sq fun K51 hK51 => ?_
              refine reg [some 139, some 140, some 141, some 142, some 143, some 144, some 145, none, some 3, some 4, some 5, some 6] rfl ?_
              refine mv h592 rfl rfl fun a593 h593 => ?_
              refine clv h593 rfl Try.call105 rfl _ rfl (c_cno _) rfl ?_
              rintro v66 w66 a594 ⟨rfl, hk66⟩ h594
              replace hB := Kept.trans hB hk66
              replace hv := hv.kept hk66
              replace hg2 := hg2.kept hk66
              refine ext5_0 h594 rfl rfl fun a595 h595 => ?_
              refine ext5_1 h595 rfl rfl fun a596 h596 => ?_
              refine ext5_2 h596 rfl rfl fun a597 h597 => ?_
              refine ext5_3 h597 rfl rfl fun a598 h598 => ?_
              refine ext5_4 h598 rfl rfl fun a599 h599 => ?_
              refine stb h599 hg2 rfl rfl _ rfl Try.sizeOf32 (by first | exact hd_one _ | exact nd_one _ | exact nd_one Pl.Nd.none | (simp [Value.oneCell']; done)) _ (by first | (simp [hdCells]; done) | (simp [ndCells]; done) | simp) rfl fun w67 hg2' hk67 => ?_
              replace hB := Kept.but hB hk67 (by omega)
              replace hv := hv.but hk67 (by intro hs; have := hs.2; omega)
              clear hg2; have hg2 := hg2'; clear hg2'
              refine asg h599 rfl rfl fun a600 h600 => ?_
              refine asg h600 rfl rfl fun a601 h601 => ?_
              refine asg h601 rfl rfl fun a602 h602 => ?_
              refine asg h602 rfl rfl fun a603 h603 => ?_
              clear hK50 h592 h593 h594 h595 h596 h597 h598 h599 h600 h601 h602 K50 a593 a594 a595 a596 a597 a598 a599 a600 a601 a602
              refine wpL_nil (hK51 _ _ ?_)
              refine rtn (leave h603 (res5 h603 rfl (rva (ndCells Pl.Nd.none) hg2 rfl Try.isAgg32 Try.sizeOf32 rfl) (rvt rfl) (rvt rfl) (rvt rfl) (rvt rfl)) ?_)
              first | exact ⟨_, rfl, by rw [Pl.cg_no1 hno0]; rfl, hB⟩ | exact ⟨_, rfl, by rw [Pl.cg_b1 hok0 ht76 (by omega)]; rfl, hB⟩ | exact ⟨_, rfl, by rw [Pl.cg_b2 hok0 ht76 hbb1 (by rw [hq10]; omega)]; rfl, hB⟩ | exact ⟨_, rfl, by rw [Pl.cg_b3 hok0 ht76 hbb1 hnc hno2]; rfl, hB⟩ | exact ⟨_, rfl, by rw [hcg, Pl.ce_no (fun e => by have hq9 := congrArg UInt8.toNat e; simp at hq9; omega)]; rfl, hB⟩ | exact ⟨_, rfl, by rw [hce, if_neg (by rintro ⟨h1, -⟩; rw [Pl.contOk_eq] at h1; simp only [hb1, hb2, hb3, (bunf hb4), hb5, hb6, (bunf hb7), (bunf hb8), hb9, hb386, hb387, hb388, hb389, Bool.true_and, Bool.false_and, Bool.false_eq_true] at h1; done)]; rfl, hB⟩
            ·
             have hp388 := of_decide_eq_false hb388
             refine goff h484 (d := 111) rfl rfl hb388 rfl fun a604 h604 => ?_
             refine goff h604 (d := 111) rfl rfl hb388 rfl fun a605 h605 => ?_
             refine goff h605 (d := 111) rfl rfl hb388 rfl fun a606 h606 => ?_
             refine goff h606 (d := 111) rfl rfl hb388 rfl fun a607 h607 => ?_
             refine goff h607 (d := 111) rfl rfl hb388 rfl fun a608 h608 => ?_
             refine pkf h608 rfl hb388 rfl rfl fun a609 h609 => ?_
             refine mv h609 rfl rfl fun a610 h610 => ?_
             refine goff h610 (d := 118) rfl rfl rfl rfl fun a611 h611 => ?_
             refine goff h611 (d := 118) rfl rfl rfl rfl fun a612 h612 => ?_
             refine goff h612 (d := 118) rfl rfl rfl rfl fun a613 h613 => ?_
             refine goff h613 (d := 118) rfl rfl rfl rfl fun a614 h614 => ?_
             refine pkf h614 rfl rfl rfl rfl fun a615 h615 => ?_
             refine asg h615 rfl rfl fun a616 h616 => ?_
             clear hK42 h472 h473 h474 h475 h476 h477 h478 h479 h480 h481 h482 h483 h484 h604 h605 h606 h607 h608 h609 h610 h611 h612 h613 h614 h615 K42 a472 a473 a474 a475 a476 a477 a478 a479 a480 a481 a482 a483 a484 a604 a605 a606 a607 a608 a609 a610 a611 a612 a613 a614 a615
             refine wpL_nil (hK43 _ _ ?_)
             refine sq fun K52 hK52 => ?_
             refine sq fun K53 hK53 => ?_
             clear hK43 K43
             refine drw h616 [some 124, some 125, some 126, some 127, some 128, some 129, some 130, some 131, some 132, some 133, some 134, some 135, some 136, some 137, some 138] rfl [Fx (.bool false), Fx (.bool (!false)), Fx (.bool (!false)), Fx (undef), Fx (undef), Fx (undef), Fx (undef), Fx (undef), Fx (undef), Fx (undef), Fx (undef), Fx (undef), Fx (undef), Fx (undef), Fx ((.bool true))] Kept rfl rfl rfl rfl (drewKept _) keptT (mcons mfx (mcons mfx (mcons mfx (mcons mfx (mcons mfx (mcons mfx (mcons mfx (mcons mfx (mcons mfx (mcons mfx (mcons mfx (mcons mfx (mcons mfx (mcons mfx (mcons mfx mnil))))))))))))))) ⟨?_, ?_, ?_, ?_, ?_, ?_, ?_, ?_, ?_, ?_, ?_, ?_, ?_, ?_, ?_, trivial⟩ ?_
             ·
              intro L a w_ hH hb hR hd ho
              have hl14 := hb 14 _ rfl
              refine mv hH hl14 rfl fun a617 h617 => ?_
              exact wpL_nil ⟨_, h617, Kept.refl _, rfl⟩
             ·
              intro L a w_ hH hb hR hd ho
              obtain ⟨_, hl124, rfl⟩ := hd 0 rfl
              refine unot hH hl124 rfl fun a618 h618 => ?_
              exact wpL_nil ⟨_, h618, Kept.refl _, rfl⟩
             ·
              intro L a w_ hH hb hR hd ho
              obtain ⟨_, hl125, rfl⟩ := hd 1 rfl
              refine mv hH hl125 rfl fun a619 h619 => ?_
              exact wpL_nil ⟨_, h619, Kept.refl _, rfl⟩
             ·
              intro L a w_ hH hb hR hd ho
              have hl13 := hb 13 _ rfl
              obtain ⟨_, hl126, rfl⟩ := hd 2 rfl
              refine goff hH rfl hl126 (bnf rfl) rfl fun a620 h620 => ?_
              exact wpL_nil ⟨_, h620, Kept.refl _, rfl⟩
             ·
              intro L a w_ hH hb hR hd ho
              have hl11 := hb 11 _ rfl
              obtain ⟨_, hl126, rfl⟩ := hd 2 rfl
              refine goff hH rfl hl126 (bnf rfl) rfl fun a621 h621 => ?_
              exact wpL_nil ⟨_, h621, Kept.refl _, rfl⟩
             ·
              intro L a w_ hH hb hR hd ho
              obtain ⟨_, hl128, rfl⟩ := hd 4 rfl
              obtain ⟨_, hl126, rfl⟩ := hd 2 rfl
              refine goff hH rfl hl126 (bnf rfl) rfl fun a622 h622 => ?_
              exact wpL_nil ⟨_, h622, Kept.refl _, rfl⟩
             ·
              intro L a w_ hH hb hR hd ho
              have hl11 := hb 11 _ rfl
              obtain ⟨_, hl126, rfl⟩ := hd 2 rfl
              refine goff hH rfl hl126 (bnf rfl) rfl fun a623 h623 => ?_
              exact wpL_nil ⟨_, h623, Kept.refl _, rfl⟩
             ·
              intro L a w_ hH hb hR hd ho
              obtain ⟨_, hl130, rfl⟩ := hd 6 rfl
              obtain ⟨_, hl126, rfl⟩ := hd 2 rfl
              refine goff hH rfl hl126 (bnf rfl) rfl fun a624 h624 => ?_
              exact wpL_nil ⟨_, h624, Kept.refl _, rfl⟩
             ·
              intro L a w_ hH hb hR hd ho
              obtain ⟨_, hl127, rfl⟩ := hd 3 rfl
              obtain ⟨_, hl129, rfl⟩ := hd 5 rfl
              obtain ⟨_, hl131, rfl⟩ := hd 7 rfl
              obtain ⟨_, hl126, rfl⟩ := hd 2 rfl
              refine goff hH rfl hl126 (bnf rfl) rfl fun a625 h625 => ?_
              exact wpL_nil ⟨_, h625, Kept.refl _, rfl⟩
             ·
              intro L a w_ hH hb hR hd ho
              have hl1 := hb 1 _ rfl
              obtain ⟨_, hl126, rfl⟩ := hd 2 rfl
              refine goff hH rfl hl126 (bnf rfl) rfl fun a626 h626 => ?_
              exact wpL_nil ⟨_, h626, Kept.refl _, rfl⟩
             ·
              intro L a w_ hH hb hR hd ho
              have hl9 := hb 9 _ rfl
              obtain ⟨_, hl126, rfl⟩ := hd 2 rfl
              refine goff hH rfl hl126 (bnf rfl) rfl fun a627 h627 => ?_
              exact wpL_nil ⟨_, h627, Kept.refl _, rfl⟩
             ·
              intro L a w_ hH hb hR hd ho
              obtain ⟨_, hl133, rfl⟩ := hd 9 rfl
              obtain ⟨_, hl134, rfl⟩ := hd 10 rfl
              obtain ⟨_, hl126, rfl⟩ := hd 2 rfl
              refine goff hH rfl hl126 (bnf rfl) rfl fun a628 h628 => ?_
              exact wpL_nil ⟨_, h628, Kept.refl _, rfl⟩
             ·
              intro L a w_ hH hb hR hd ho
              obtain ⟨_, hl132, rfl⟩ := hd 8 rfl
              obtain ⟨_, hl135, rfl⟩ := hd 11 rfl
              obtain ⟨_, hl126, rfl⟩ := hd 2 rfl
              refine goff hH rfl hl126 (bnf rfl) rfl fun a629 h629 => ?_
              exact wpL_nil ⟨_, h629, Kept.refl _, rfl⟩
             ·
              intro L a w_ hH hb hR hd ho
              obtain ⟨_, hl136, rfl⟩ := hd 12 rfl
              obtain ⟨_, hl126, rfl⟩ := hd 2 rfl
              refine goff hH rfl hl126 (bnf rfl) rfl fun a630 h630 => ?_
              exact wpL_nil ⟨_, h630, Kept.refl _, rfl⟩
             ·
              intro L a w_ hH hb hR hd ho
              obtain ⟨_, hl126, rfl⟩ := hd 2 rfl
              obtain ⟨_, hl137, rfl⟩ := hd 13 rfl
              refine pkt hH hl126 (bnf rfl) rfl rfl fun a631 h631 => ?_
              exact wpL_nil ⟨_, h631, Kept.refl _, rfl⟩
             intro L68 a632 w68 h632 hbh632 hRh632 hdh632
             obtain ⟨_, hl124, rfl⟩ := hdh632 0 (by decide)
             obtain ⟨_, hl125, rfl⟩ := hdh632 1 (by decide)
             obtain ⟨_, hl126, rfl⟩ := hdh632 2 (by decide)
             obtain ⟨_, hl127, rfl⟩ := hdh632 3 (by decide)
             obtain ⟨_, hl128, rfl⟩ := hdh632 4 (by decide)
             obtain ⟨_, hl129, rfl⟩ := hdh632 5 (by decide)
             obtain ⟨_, hl130, rfl⟩ := hdh632 6 (by decide)
             obtain ⟨_, hl131, rfl⟩ := hdh632 7 (by decide)
             obtain ⟨_, hl132, rfl⟩ := hdh632 8 (by decide)
             obtain ⟨_, hl133, rfl⟩ := hdh632 9 (by decide)
             obtain ⟨_, hl134, rfl⟩ := hdh632 10 (by decide)
             obtain ⟨_, hl135, rfl⟩ := hdh632 11 (by decide)
             obtain ⟨_, hl136, rfl⟩ := hdh632 12 (by decide)
             obtain ⟨_, hl137, rfl⟩ := hdh632 13 (by decide)
             obtain ⟨_, hl138, rfl⟩ := hdh632 14 (by decide)
             have h633 := Has.under h632 hbh632
             have h634 := (h632.add hl138 (h632.add hl137 (h632.add hl136 (h632.add hl135 (h632.add hl134 (h632.add hl133 (h632.add hl132 (h632.add hl131 (h632.add hl130 (h632.add hl129 (h632.add hl128 (h632.add hl127 (h632.add hl126 (h632.add hl125 (h632.add hl124 h633)))))))))))))))
             clear h633 hl124 hl125 hl126 hl127 hl128 hl129 hl130 hl131 hl132 hl133 hl134 hl135 hl136 hl137 hl138 hbh632 hdh632
             replace hB := Kept.trans hB hRh632
             replace hv := hv.kept hRh632
             replace hg2 := hg2.kept hRh632
             refine hK53 _ _ ?_
             refine cdt h634 rfl rfl ?_
             refine sq fun K54 hK54 => ?_
             refine reg [some 139, some 140, some 141, some 142, some 143, some 144, some 145, none, some 3, some 4, some 5, some 6] rfl ?_
             refine mv h634 rfl rfl fun a635 h635 => ?_
             refine clv h635 rfl Try.call105 rfl _ rfl (c_cno _) rfl ?_
             rintro v69 w69 a636 ⟨rfl, hk69⟩ h636
             replace hB := Kept.trans hB hk69
             replace hv := hv.kept hk69
             replace hg2 := hg2.kept hk69
             refine ext5_0 h636 rfl rfl fun a637 h637 => ?_
             refine ext5_1 h637 rfl rfl fun a638 h638 => ?_
             refine ext5_2 h638 rfl rfl fun a639 h639 => ?_
             refine ext5_3 h639 rfl rfl fun a640 h640 => ?_
             refine ext5_4 h640 rfl rfl fun a641 h641 => ?_
             refine stb h641 hg2 rfl rfl _ rfl Try.sizeOf32 (by first | exact hd_one _ | exact nd_one _ | exact nd_one Pl.Nd.none | (simp [Value.oneCell']; done)) _ (by first | (simp [hdCells]; done) | (simp [ndCells]; done) | simp) rfl fun w70 hg2' hk70 => ?_
             replace hB := Kept.but hB hk70 (by omega)
             replace hv := hv.but hk70 (by intro hs; have := hs.2; omega)
             clear hg2; have hg2 := hg2'; clear hg2'
             refine asg h641 rfl rfl fun a642 h642 => ?_
             refine asg h642 rfl rfl fun a643 h643 => ?_
             refine asg h643 rfl rfl fun a644 h644 => ?_
             refine asg h644 rfl rfl fun a645 h645 => ?_
             clear hK53 h634 h635 h636 h637 h638 h639 h640 h641 h642 h643 h644 K53 a635 a636 a637 a638 a639 a640 a641 a642 a643 a644
             refine wpL_nil (hK54 _ _ ?_)
             refine rtn (leave h645 (res5 h645 rfl (rva (ndCells Pl.Nd.none) hg2 rfl Try.isAgg32 Try.sizeOf32 rfl) (rvt rfl) (rvt rfl) (rvt rfl) (rvt rfl)) ?_)
             first | exact ⟨_, rfl, by rw [Pl.cg_no1 hno0]; rfl, hB⟩ | exact ⟨_, rfl, by rw [Pl.cg_b1 hok0 ht76 (by omega)]; rfl, hB⟩ | exact ⟨_, rfl, by rw [Pl.cg_b2 hok0 ht76 hbb1 (by rw [hq10]; omega)]; rfl, hB⟩ | exact ⟨_, rfl, by rw [Pl.cg_b3 hok0 ht76 hbb1 hnc hno2]; rfl, hB⟩ | exact ⟨_, rfl, by rw [hcg, Pl.ce_no (fun e => by have hq9 := congrArg UInt8.toNat e; simp at hq9; omega)]; rfl, hB⟩ | exact ⟨_, rfl, by rw [hce, if_neg (by rintro ⟨h1, -⟩; rw [Pl.contOk_eq] at h1; simp only [hb1, hb2, hb3, (bunf hb4), hb5, hb6, (bunf hb7), (bunf hb8), hb9, hb386, hb387, hb388, Bool.true_and, Bool.false_and, Bool.false_eq_true] at h1; done)]; rfl, hB⟩
           ·
            refine goff h479 (d := 106) rfl rfl hb387 rfl fun a646 h646 => ?_
            refine goff h646 (d := 106) rfl rfl hb387 rfl fun a647 h647 => ?_
            refine goff h647 (d := 106) rfl rfl hb387 rfl fun a648 h648 => ?_
            refine pkf h648 rfl hb387 rfl rfl fun a649 h649 => ?_
            refine mv h649 rfl rfl fun a650 h650 => ?_
            refine goff h650 (d := 111) rfl rfl rfl rfl fun a651 h651 => ?_
            refine goff h651 (d := 111) rfl rfl rfl rfl fun a652 h652 => ?_
            refine goff h652 (d := 111) rfl rfl rfl rfl fun a653 h653 => ?_
            refine goff h653 (d := 111) rfl rfl rfl rfl fun a654 h654 => ?_
            refine goff h654 (d := 111) rfl rfl rfl rfl fun a655 h655 => ?_
            refine pkf h655 rfl rfl rfl rfl fun a656 h656 => ?_
            refine mv h656 rfl rfl fun a657 h657 => ?_
            refine goff h657 (d := 118) rfl rfl rfl rfl fun a658 h658 => ?_
            refine goff h658 (d := 118) rfl rfl rfl rfl fun a659 h659 => ?_
            refine goff h659 (d := 118) rfl rfl rfl rfl fun a660 h660 => ?_
            refine goff h660 (d := 118) rfl rfl rfl rfl fun a661 h661 => ?_
            refine pkf h661 rfl rfl rfl rfl fun a662 h662 => ?_
            refine asg h662 rfl rfl fun a663 h663 => ?_
            clear hK42 h472 h473 h474 h475 h476 h477 h478 h479 h646 h647 h648 h649 h650 h651 h652 h653 h654 h655 h656 h657 h658 h659 h660 h661 h662 K42 a472 a473 a474 a475 a476 a477 a478 a479 a646 a647 a648 a649 a650 a651 a652 a653 a654 a655 a656 a657 a658 a659 a660 a661 a662
            refine wpL_nil (hK43 _ _ ?_)
            refine sq fun K55 hK55 => ?_
            refine sq fun K56 hK56 => ?_
            clear hK43 K43
            refine drw h663 [some 124, some 125, some 126, some 127, some 128, some 129, some 130, some 131, some 132, some 133, some 134, some 135, some 136, some 137, some 138] rfl [Fx (.bool false), Fx (.bool (!false)), Fx (.bool (!false)), Fx (undef), Fx (undef), Fx (undef), Fx (undef), Fx (undef), Fx (undef), Fx (undef), Fx (undef), Fx (undef), Fx (undef), Fx (undef), Fx ((.bool true))] Kept rfl rfl rfl rfl (drewKept _) keptT (mcons mfx (mcons mfx (mcons mfx (mcons mfx (mcons mfx (mcons mfx (mcons mfx (mcons mfx (mcons mfx (mcons mfx (mcons mfx (mcons mfx (mcons mfx (mcons mfx (mcons mfx mnil))))))))))))))) ⟨?_, ?_, ?_, ?_, ?_, ?_, ?_, ?_, ?_, ?_, ?_, ?_, ?_, ?_, ?_, trivial⟩ ?_
            ·
             intro L a w_ hH hb hR hd ho
             have hl14 := hb 14 _ rfl
             refine mv hH hl14 rfl fun a664 h664 => ?_
             exact wpL_nil ⟨_, h664, Kept.refl _, rfl⟩
            ·
             intro L a w_ hH hb hR hd ho
             obtain ⟨_, hl124, rfl⟩ := hd 0 rfl
             refine unot hH hl124 rfl fun a665 h665 => ?_
             exact wpL_nil ⟨_, h665, Kept.refl _, rfl⟩
            ·
             intro L a w_ hH hb hR hd ho
             obtain ⟨_, hl125, rfl⟩ := hd 1 rfl
             refine mv hH hl125 rfl fun a666 h666 => ?_
             exact wpL_nil ⟨_, h666, Kept.refl _, rfl⟩
            ·
             intro L a w_ hH hb hR hd ho
             have hl13 := hb 13 _ rfl
             obtain ⟨_, hl126, rfl⟩ := hd 2 rfl
             refine goff hH rfl hl126 (bnf rfl) rfl fun a667 h667 => ?_
             exact wpL_nil ⟨_, h667, Kept.refl _, rfl⟩
            ·
             intro L a w_ hH hb hR hd ho
             have hl11 := hb 11 _ rfl
             obtain ⟨_, hl126, rfl⟩ := hd 2 rfl
             refine goff hH rfl hl126 (bnf rfl) rfl fun a668 h668 => ?_
             exact wpL_nil ⟨_, h668, Kept.refl _, rfl⟩
            ·
             intro L a w_ hH hb hR hd ho
             obtain ⟨_, hl128, rfl⟩ := hd 4 rfl
             obtain ⟨_, hl126, rfl⟩ := hd 2 rfl
             refine goff hH rfl hl126 (bnf rfl) rfl fun a669 h669 => ?_
             exact wpL_nil ⟨_, h669, Kept.refl _, rfl⟩
            ·
             intro L a w_ hH hb hR hd ho
             have hl11 := hb 11 _ rfl
             obtain ⟨_, hl126, rfl⟩ := hd 2 rfl
             refine goff hH rfl hl126 (bnf rfl) rfl fun a670 h670 => ?_
             exact wpL_nil ⟨_, h670, Kept.refl _, rfl⟩
            ·
             intro L a w_ hH hb hR hd ho
             obtain ⟨_, hl130, rfl⟩ := hd 6 rfl
             obtain ⟨_, hl126, rfl⟩ := hd 2 rfl
             refine goff hH rfl hl126 (bnf rfl) rfl fun a671 h671 => ?_
             exact wpL_nil ⟨_, h671, Kept.refl _, rfl⟩
            ·
             intro L a w_ hH hb hR hd ho
             obtain ⟨_, hl127, rfl⟩ := hd 3 rfl
             obtain ⟨_, hl129, rfl⟩ := hd 5 rfl
             obtain ⟨_, hl131, rfl⟩ := hd 7 rfl
             obtain ⟨_, hl126, rfl⟩ := hd 2 rfl
             refine goff hH rfl hl126 (bnf rfl) rfl fun a672 h672 => ?_
             exact wpL_nil ⟨_, h672, Kept.refl _, rfl⟩
            ·
             intro L a w_ hH hb hR hd ho
             have hl1 := hb 1 _ rfl
             obtain ⟨_, hl126, rfl⟩ := hd 2 rfl
             refine goff hH rfl hl126 (bnf rfl) rfl fun a673 h673 => ?_
             exact wpL_nil ⟨_, h673, Kept.refl _, rfl⟩
            ·
             intro L a w_ hH hb hR hd ho
             have hl9 := hb 9 _ rfl
             obtain ⟨_, hl126, rfl⟩ := hd 2 rfl
             refine goff hH rfl hl126 (bnf rfl) rfl fun a674 h674 => ?_
             exact wpL_nil ⟨_, h674, Kept.refl _, rfl⟩
            ·
             intro L a w_ hH hb hR hd ho
             obtain ⟨_, hl133, rfl⟩ := hd 9 rfl
             obtain ⟨_, hl134, rfl⟩ := hd 10 rfl
             obtain ⟨_, hl126, rfl⟩ := hd 2 rfl
             refine goff hH rfl hl126 (bnf rfl) rfl fun a675 h675 => ?_
             exact wpL_nil ⟨_, h675, Kept.refl _, rfl⟩
            ·
             intro L a w_ hH hb hR hd ho
             obtain ⟨_, hl132, rfl⟩ := hd 8 rfl
             obtain ⟨_, hl135, rfl⟩ := hd 11 rfl
             obtain ⟨_, hl126, rfl⟩ := hd 2 rfl
             refine goff hH rfl hl126 (bnf rfl) rfl fun a676 h676 => ?_
             exact wpL_nil ⟨_, h676, Kept.refl _, rfl⟩
            ·
             intro L a w_ hH hb hR hd ho
             obtain ⟨_, hl136, rfl⟩ := hd 12 rfl
             obtain ⟨_, hl126, rfl⟩ := hd 2 rfl
             refine goff hH rfl hl126 (bnf rfl) rfl fun a677 h677 => ?_
             exact wpL_nil ⟨_, h677, Kept.refl _, rfl⟩
            ·
             intro L a w_ hH hb hR hd ho
             obtain ⟨_, hl126, rfl⟩ := hd 2 rfl
             obtain ⟨_, hl137, rfl⟩ := hd 13 rfl
             refine pkt hH hl126 (bnf rfl) rfl rfl fun a678 h678 => ?_
             exact wpL_nil ⟨_, h678, Kept.refl _, rfl⟩
            intro L71 a679 w71 h679 hbh679 hRh679 hdh679
            obtain ⟨_, hl124, rfl⟩ := hdh679 0 (by decide)
            obtain ⟨_, hl125, rfl⟩ := hdh679 1 (by decide)
            obtain ⟨_, hl126, rfl⟩ := hdh679 2 (by decide)
            obtain ⟨_, hl127, rfl⟩ := hdh679 3 (by decide)
            obtain ⟨_, hl128, rfl⟩ := hdh679 4 (by decide)
            obtain ⟨_, hl129, rfl⟩ := hdh679 5 (by decide)
            obtain ⟨_, hl130, rfl⟩ := hdh679 6 (by decide)
            obtain ⟨_, hl131, rfl⟩ := hdh679 7 (by decide)
            obtain ⟨_, hl132, rfl⟩ := hdh679 8 (by decide)
            obtain ⟨_, hl133, rfl⟩ := hdh679 9 (by decide)
            obtain ⟨_, hl134, rfl⟩ := hdh679 10 (by decide)
            obtain ⟨_, hl135, rfl⟩ := hdh679 11 (by decide)
            obtain ⟨_, hl136, rfl⟩ := hdh679 12 (by decide)
            obtain ⟨_, hl137, rfl⟩ := hdh679 13 (by decide)
            obtain ⟨_, hl138, rfl⟩ := hdh679 14 (by decide)
            have h680 := Has.under h679 hbh679
            have h681 := (h679.add hl138 (h679.add hl137 (h679.add hl136 (h679.add hl135 (h679.add hl134 (h679.add hl133 (h679.add hl132 (h679.add hl131 (h679.add hl130 (h679.add hl129 (h679.add hl128 (h679.add hl127 (h679.add hl126 (h679.add hl125 (h679.add hl124 h680)))))))))))))))
            clear h680 hl124 hl125 hl126 hl127 hl128 hl129 hl130 hl131 hl132 hl133 hl134 hl135 hl136 hl137 hl138 hbh679 hdh679
            replace hB := Kept.trans hB hRh679
            replace hv := hv.kept hRh679
            replace hg2 := hg2.kept hRh679
            refine hK56 _ _ ?_
            refine cdt h681 rfl rfl ?_
            refine sq fun K57 hK57 => ?_
            refine reg [some 139, some 140, some 141, some 142, some 143, some 144, some 145, none, some 3, some 4, some 5, some 6] rfl ?_
            refine mv h681 rfl rfl fun a682 h682 => ?_
            refine clv h682 rfl Try.call105 rfl _ rfl (c_cno _) rfl ?_
            rintro v72 w72 a683 ⟨rfl, hk72⟩ h683
            replace hB := Kept.trans hB hk72
            replace hv := hv.kept hk72
            replace hg2 := hg2.kept hk72
            refine ext5_0 h683 rfl rfl fun a684 h684 => ?_
            refine ext5_1 h684 rfl rfl fun a685 h685 => ?_
            refine ext5_2 h685 rfl rfl fun a686 h686 => ?_
            refine ext5_3 h686 rfl rfl fun a687 h687 => ?_
            refine ext5_4 h687 rfl rfl fun a688 h688 => ?_
            refine stb h688 hg2 rfl rfl _ rfl Try.sizeOf32 (by first | exact hd_one _ | exact nd_one _ | exact nd_one Pl.Nd.none | (simp [Value.oneCell']; done)) _ (by first | (simp [hdCells]; done) | (simp [ndCells]; done) | simp) rfl fun w73 hg2' hk73 => ?_
            replace hB := Kept.but hB hk73 (by omega)
            replace hv := hv.but hk73 (by intro hs; have := hs.2; omega)
            clear hg2; have hg2 := hg2'; clear hg2'
            refine asg h688 rfl rfl fun a689 h689 => ?_
            refine asg h689 rfl rfl fun a690 h690 => ?_
            refine asg h690 rfl rfl fun a691 h691 => ?_
            refine asg h691 rfl rfl fun a692 h692 => ?_
            clear hK56 h681 h682 h683 h684 h685 h686 h687 h688 h689 h690 h691 K56 a682 a683 a684 a685 a686 a687 a688 a689 a690 a691
            refine wpL_nil (hK57 _ _ ?_)
            refine rtn (leave h692 (res5 h692 rfl (rva (ndCells Pl.Nd.none) hg2 rfl Try.isAgg32 Try.sizeOf32 rfl) (rvt rfl) (rvt rfl) (rvt rfl) (rvt rfl)) ?_)
            first | exact ⟨_, rfl, by rw [Pl.cg_no1 hno0]; rfl, hB⟩ | exact ⟨_, rfl, by rw [Pl.cg_b1 hok0 ht76 (by omega)]; rfl, hB⟩ | exact ⟨_, rfl, by rw [Pl.cg_b2 hok0 ht76 hbb1 (by rw [hq10]; omega)]; rfl, hB⟩ | exact ⟨_, rfl, by rw [Pl.cg_b3 hok0 ht76 hbb1 hnc hno2]; rfl, hB⟩ | exact ⟨_, rfl, by rw [hcg, Pl.ce_no (fun e => by have hq9 := congrArg UInt8.toNat e; simp at hq9; omega)]; rfl, hB⟩ | exact ⟨_, rfl, by rw [hce, if_neg (by rintro ⟨h1, -⟩; rw [Pl.contOk_eq] at h1; simp only [hb1, hb2, hb3, (bunf hb4), hb5, hb6, (bunf hb7), (bunf hb8), hb9, hb386, hb387, Bool.true_and, Bool.false_and, Bool.false_eq_true] at h1; done)]; rfl, hB⟩
          ·
           refine goff h475 (d := 102) rfl rfl hb386 rfl fun a693 h693 => ?_
           refine goff h693 (d := 102) rfl rfl hb386 rfl fun a694 h694 => ?_
           refine pkf h694 rfl hb386 rfl rfl fun a695 h695 => ?_
           refine mv h695 rfl rfl fun a696 h696 => ?_
           refine goff h696 (d := 106) rfl rfl rfl rfl fun a697 h697 => ?_
           refine goff h697 (d := 106) rfl rfl rfl rfl fun a698 h698 => ?_
           refine goff h698 (d := 106) rfl rfl rfl rfl fun a699 h699 => ?_
           refine pkf h699 rfl rfl rfl rfl fun a700 h700 => ?_
           refine mv h700 rfl rfl fun a701 h701 => ?_
           refine goff h701 (d := 111) rfl rfl rfl rfl fun a702 h702 => ?_
           refine goff h702 (d := 111) rfl rfl rfl rfl fun a703 h703 => ?_
           refine goff h703 (d := 111) rfl rfl rfl rfl fun a704 h704 => ?_
           refine goff h704 (d := 111) rfl rfl rfl rfl fun a705 h705 => ?_
           refine goff h705 (d := 111) rfl rfl rfl rfl fun a706 h706 => ?_
           refine pkf h706 rfl rfl rfl rfl fun a707 h707 => ?_
           refine mv h707 rfl rfl fun a708 h708 => ?_
           refine goff h708 (d := 118) rfl rfl rfl rfl fun a709 h709 => ?_
           refine goff h709 (d := 118) rfl rfl rfl rfl fun a710 h710 => ?_
           refine goff h710 (d := 118) rfl rfl rfl rfl fun a711 h711 => ?_
           refine goff h711 (d := 118) rfl rfl rfl rfl fun a712 h712 => ?_
           refine pkf h712 rfl rfl rfl rfl fun a713 h713 => ?_
           refine asg h713 rfl rfl fun a714 h714 => ?_
           clear hK42 h472 h473 h474 h475 h693 h694 h695 h696 h697 h698 h699 h700 h701 h702 h703 h704 h705 h706 h707 h708 h709 h710 h711 h712 h713 K42 a472 a473 a474 a475 a693 a694 a695 a696 a697 a698 a699 a700 a701 a702 a703 a704 a705 a706 a707 a708 a709 a710 a711 a712 a713
           refine wpL_nil (hK43 _ _ ?_)
           refine sq fun K58 hK58 => ?_
           refine sq fun K59 hK59 => ?_
           clear hK43 K43
           refine drw h714 [some 124, some 125, some 126, some 127, some 128, some 129, some 130, some 131, some 132, some 133, some 134, some 135, some 136, some 137, some 138] rfl [Fx (.bool false), Fx (.bool (!false)), Fx (.bool (!false)), Fx (undef), Fx (undef), Fx (undef), Fx (undef), Fx (undef), Fx (undef), Fx (undef), Fx (undef), Fx (undef), Fx (undef), Fx (undef), Fx ((.bool true))] Kept rfl rfl rfl rfl (drewKept _) keptT (mcons mfx (mcons mfx (mcons mfx (mcons mfx (mcons mfx (mcons mfx (mcons mfx (mcons mfx (mcons mfx (mcons mfx (mcons mfx (mcons mfx (mcons mfx (mcons mfx (mcons mfx mnil))))))))))))))) ⟨?_, ?_, ?_, ?_, ?_, ?_, ?_, ?_, ?_, ?_, ?_, ?_, ?_, ?_, ?_, trivial⟩ ?_
           ·
            intro L a w_ hH hb hR hd ho
            have hl14 := hb 14 _ rfl
            refine mv hH hl14 rfl fun a715 h715 => ?_
            exact wpL_nil ⟨_, h715, Kept.refl _, rfl⟩
           ·
            intro L a w_ hH hb hR hd ho
            obtain ⟨_, hl124, rfl⟩ := hd 0 rfl
            refine unot hH hl124 rfl fun a716 h716 => ?_
            exact wpL_nil ⟨_, h716, Kept.refl _, rfl⟩
           ·
            intro L a w_ hH hb hR hd ho
            obtain ⟨_, hl125, rfl⟩ := hd 1 rfl
            refine mv hH hl125 rfl fun a717 h717 => ?_
            exact wpL_nil ⟨_, h717, Kept.refl _, rfl⟩
           ·
            intro L a w_ hH hb hR hd ho
            have hl13 := hb 13 _ rfl
            obtain ⟨_, hl126, rfl⟩ := hd 2 rfl
            refine goff hH rfl hl126 (bnf rfl) rfl fun a718 h718 => ?_
            exact wpL_nil ⟨_, h718, Kept.refl _, rfl⟩
           ·
            intro L a w_ hH hb hR hd ho
            have hl11 := hb 11 _ rfl
            obtain ⟨_, hl126, rfl⟩ := hd 2 rfl
            refine goff hH rfl hl126 (bnf rfl) rfl fun a719 h719 => ?_
            exact wpL_nil ⟨_, h719, Kept.refl _, rfl⟩
           ·
            intro L a w_ hH hb hR hd ho
            obtain ⟨_, hl128, rfl⟩ := hd 4 rfl
            obtain ⟨_, hl126, rfl⟩ := hd 2 rfl
            refine goff hH rfl hl126 (bnf rfl) rfl fun a720 h720 => ?_
            exact wpL_nil ⟨_, h720, Kept.refl _, rfl⟩
           ·
            intro L a w_ hH hb hR hd ho
            have hl11 := hb 11 _ rfl
            obtain ⟨_, hl126, rfl⟩ := hd 2 rfl
            refine goff hH rfl hl126 (bnf rfl) rfl fun a721 h721 => ?_
            exact wpL_nil ⟨_, h721, Kept.refl _, rfl⟩
           ·
            intro L a w_ hH hb hR hd ho
            obtain ⟨_, hl130, rfl⟩ := hd 6 rfl
            obtain ⟨_, hl126, rfl⟩ := hd 2 rfl
            refine goff hH rfl hl126 (bnf rfl) rfl fun a722 h722 => ?_
            exact wpL_nil ⟨_, h722, Kept.refl _, rfl⟩
           ·
            intro L a w_ hH hb hR hd ho
            obtain ⟨_, hl127, rfl⟩ := hd 3 rfl
            obtain ⟨_, hl129, rfl⟩ := hd 5 rfl
            obtain ⟨_, hl131, rfl⟩ := hd 7 rfl
            obtain ⟨_, hl126, rfl⟩ := hd 2 rfl
            refine goff hH rfl hl126 (bnf rfl) rfl fun a723 h723 => ?_
            exact wpL_nil ⟨_, h723, Kept.refl _, rfl⟩
           ·
            intro L a w_ hH hb hR hd ho
            have hl1 := hb 1 _ rfl
            obtain ⟨_, hl126, rfl⟩ := hd 2 rfl
            refine goff hH rfl hl126 (bnf rfl) rfl fun a724 h724 => ?_
            exact wpL_nil ⟨_, h724, Kept.refl _, rfl⟩
           ·
            intro L a w_ hH hb hR hd ho
            have hl9 := hb 9 _ rfl
            obtain ⟨_, hl126, rfl⟩ := hd 2 rfl
            refine goff hH rfl hl126 (bnf rfl) rfl fun a725 h725 => ?_
            exact wpL_nil ⟨_, h725, Kept.refl _, rfl⟩
           ·
            intro L a w_ hH hb hR hd ho
            obtain ⟨_, hl133, rfl⟩ := hd 9 rfl
            obtain ⟨_, hl134, rfl⟩ := hd 10 rfl
            obtain ⟨_, hl126, rfl⟩ := hd 2 rfl
            refine goff hH rfl hl126 (bnf rfl) rfl fun a726 h726 => ?_
            exact wpL_nil ⟨_, h726, Kept.refl _, rfl⟩
           ·
            intro L a w_ hH hb hR hd ho
            obtain ⟨_, hl132, rfl⟩ := hd 8 rfl
            obtain ⟨_, hl135, rfl⟩ := hd 11 rfl
            obtain ⟨_, hl126, rfl⟩ := hd 2 rfl
            refine goff hH rfl hl126 (bnf rfl) rfl fun a727 h727 => ?_
            exact wpL_nil ⟨_, h727, Kept.refl _, rfl⟩
           ·
            intro L a w_ hH hb hR hd ho
            obtain ⟨_, hl136, rfl⟩ := hd 12 rfl
            obtain ⟨_, hl126, rfl⟩ := hd 2 rfl
            refine goff hH rfl hl126 (bnf rfl) rfl fun a728 h728 => ?_
            exact wpL_nil ⟨_, h728, Kept.refl _, rfl⟩
           ·
            intro L a w_ hH hb hR hd ho
            obtain ⟨_, hl126, rfl⟩ := hd 2 rfl
            obtain ⟨_, hl137, rfl⟩ := hd 13 rfl
            refine pkt hH hl126 (bnf rfl) rfl rfl fun a729 h729 => ?_
            exact wpL_nil ⟨_, h729, Kept.refl _, rfl⟩
           intro L74 a730 w74 h730 hbh730 hRh730 hdh730
           obtain ⟨_, hl124, rfl⟩ := hdh730 0 (by decide)
           obtain ⟨_, hl125, rfl⟩ := hdh730 1 (by decide)
           obtain ⟨_, hl126, rfl⟩ := hdh730 2 (by decide)
           obtain ⟨_, hl127, rfl⟩ := hdh730 3 (by decide)
           obtain ⟨_, hl128, rfl⟩ := hdh730 4 (by decide)
           obtain ⟨_, hl129, rfl⟩ := hdh730 5 (by decide)
           obtain ⟨_, hl130, rfl⟩ := hdh730 6 (by decide)
           obtain ⟨_, hl131, rfl⟩ := hdh730 7 (by decide)
           obtain ⟨_, hl132, rfl⟩ := hdh730 8 (by decide)
           obtain ⟨_, hl133, rfl⟩ := hdh730 9 (by decide)
           obtain ⟨_, hl134, rfl⟩ := hdh730 10 (by decide)
           obtain ⟨_, hl135, rfl⟩ := hdh730 11 (by decide)
           obtain ⟨_, hl136, rfl⟩ := hdh730 12 (by decide)
           obtain ⟨_, hl137, rfl⟩ := hdh730 13 (by decide)
           obtain ⟨_, hl138, rfl⟩ := hdh730 14 (by decide)
           have h731 := Has.under h730 hbh730
           have h732 := (h730.add hl138 (h730.add hl137 (h730.add hl136 (h730.add hl135 (h730.add hl134 (h730.add hl133 (h730.add hl132 (h730.add hl131 (h730.add hl130 (h730.add hl129 (h730.add hl128 (h730.add hl127 (h730.add hl126 (h730.add hl125 (h730.add hl124 h731)))))))))))))))
           clear h731 hl124 hl125 hl126 hl127 hl128 hl129 hl130 hl131 hl132 hl133 hl134 hl135 hl136 hl137 hl138 hbh730 hdh730
           replace hB := Kept.trans hB hRh730
           replace hv := hv.kept hRh730
           replace hg2 := hg2.kept hRh730
           refine hK59 _ _ ?_
           refine cdt h732 rfl rfl ?_
           refine sq fun K60 hK60 => ?_
           refine reg [some 139, some 140, some 141, some 142, some 143, some 144, some 145, none, some 3, some 4, some 5, some 6] rfl ?_
           refine mv h732 rfl rfl fun a733 h733 => ?_
           refine clv h733 rfl Try.call105 rfl _ rfl (c_cno _) rfl ?_
           rintro v75 w75 a734 ⟨rfl, hk75⟩ h734
           replace hB := Kept.trans hB hk75
           replace hv := hv.kept hk75
           replace hg2 := hg2.kept hk75
           refine ext5_0 h734 rfl rfl fun a735 h735 => ?_
           refine ext5_1 h735 rfl rfl fun a736 h736 => ?_
           refine ext5_2 h736 rfl rfl fun a737 h737 => ?_
           refine ext5_3 h737 rfl rfl fun a738 h738 => ?_
           refine ext5_4 h738 rfl rfl fun a739 h739 => ?_
           refine stb h739 hg2 rfl rfl _ rfl Try.sizeOf32 (by first | exact hd_one _ | exact nd_one _ | exact nd_one Pl.Nd.none | (simp [Value.oneCell']; done)) _ (by first | (simp [hdCells]; done) | (simp [ndCells]; done) | simp) rfl fun w76 hg2' hk76 => ?_
           replace hB := Kept.but hB hk76 (by omega)
           replace hv := hv.but hk76 (by intro hs; have := hs.2; omega)
           clear hg2; have hg2 := hg2'; clear hg2'
           refine asg h739 rfl rfl fun a740 h740 => ?_
           refine asg h740 rfl rfl fun a741 h741 => ?_
           refine asg h741 rfl rfl fun a742 h742 => ?_
           refine asg h742 rfl rfl fun a743 h743 => ?_
           clear hK59 h732 h733 h734 h735 h736 h737 h738 h739 h740 h741 h742 K59 a733 a734 a735 a736 a737 a738 a739 a740 a741 a742
           refine wpL_nil (hK60 _ _ ?_)
           refine rtn (leave h743 (res5 h743 rfl (rva (ndCells Pl.Nd.none) hg2 rfl Try.isAgg32 Try.sizeOf32 rfl) (rvt rfl) (rvt rfl) (rvt rfl) (rvt rfl)) ?_)
           first | exact ⟨_, rfl, by rw [Pl.cg_no1 hno0]; rfl, hB⟩ | exact ⟨_, rfl, by rw [Pl.cg_b1 hok0 ht76 (by omega)]; rfl, hB⟩ | exact ⟨_, rfl, by rw [Pl.cg_b2 hok0 ht76 hbb1 (by rw [hq10]; omega)]; rfl, hB⟩ | exact ⟨_, rfl, by rw [Pl.cg_b3 hok0 ht76 hbb1 hnc hno2]; rfl, hB⟩ | exact ⟨_, rfl, by rw [hcg, Pl.ce_no (fun e => by have hq9 := congrArg UInt8.toNat e; simp at hq9; omega)]; rfl, hB⟩ | exact ⟨_, rfl, by rw [hce, if_neg (by rintro ⟨h1, -⟩; rw [Pl.contOk_eq] at h1; simp only [hb1, hb2, hb3, (bunf hb4), hb5, hb6, (bunf hb7), (bunf hb8), hb9, hb386, Bool.true_and, Bool.false_and, Bool.false_eq_true] at h1; done)]; rfl, hB⟩
  ·
   have hp2 := of_decide_eq_false hb2
   have hcg0 := Pl.cg_a hok0 (fun e => by rw [hq10] at e; have hq9 := congrArg UInt8.toNat e; simp at hq9; omega)
   rw [hq10] at hcg0
   obtain ⟨hh, kk, hcg, hg11', hg9', hmm, hkk⟩ : ∃ (hh : Pl.Hd) (kk : Nat), Pl.contGet l = Pl.contEnd l kk [] hh ∧ Blk w7 g11 41 (hdCells hh) ∧ Blk w7 g9 3 [.int .i64 (kk : Int)] ∧ Pl.mayH hh = true ∧ kk ≤ l.length := ⟨(Pl.getH b0).1, 1, hcg0, hg11, (by have hX := hg9; simpa using hX), hm0, by omega⟩
   replace hg11 := hg11'; replace hg9 := hg9'; clear hg11' hg9'
   have hnn := Pl.mayH_nonneg hmm
   have hmn := Pl.mayH_name hmm
   refine cdf h24 rfl hb2 ?_
   refine skp (hK7 _ _ ?_)
   refine sq fun K61 hK61 => ?_
   refine sq fun K62 hK62 => ?_
   refine reg [some 72, some 73, some 74, some 75, some 76, some 77, some 78] rfl ?_
   refine mv h24 rfl rfl fun a744 h744 => ?_
   refine unot h744 rfl rfl fun a745 h745 => ?_
   refine mv h745 rfl rfl fun a746 h746 => ?_
   refine gon h746 (d := 74) rfl rfl (bnt hb1) ?_
   refine fab h746 rfl Try.underlying41 rfl Try.sizeOf5 rfl 8 rfl rfl fun a747 h747 => ?_
   refine gon h747 (d := 74) rfl rfl (bnt hb1) ?_
   refine ldb h747 hg11 rfl Try.isAgg5 rfl rfl fun a748 h748 => ?_
   refine gon h748 (d := 74) rfl rfl (bnt hb1) ?_
   refine ineq h748 rfl rfl rfl fun a749 h749 => ?_
   refine pkf h749 rfl (bnt hb1) rfl rfl fun a750 h750 => ?_
   clear hK8 hK7 h24 h744 h745 h746 h747 h748 h749 K8 K7 a24 a744 a745 a746 a747 a748 a749
   refine wpL_nil (hK62 _ _ ?_)
   refine spl h750 (d := 78) rfl (fun hb762 => ?_) (fun hb762 => ?_)
   ·
    have hp762 := of_decide_eq_false (bunt hb762)
    refine cdt h750 rfl (bnf (bunt hb762)) ?_
    refine sq fun K63 hK63 => ?_
    refine reg [some 79, some 80, some 81, some 82, some 83, some 84, some 85, none, some 3, some 4, some 5, some 6] rfl ?_
    refine mv h750 rfl rfl fun a751 h751 => ?_
    refine clv h751 rfl Try.call105 rfl _ rfl (c_cno _) rfl ?_
    rintro v77 w77 a752 ⟨rfl, hk77⟩ h752
    replace hB := Kept.trans hB hk77
    replace hv := hv.kept hk77
    replace hg2 := hg2.kept hk77
    refine ext5_0 h752 rfl rfl fun a753 h753 => ?_
    refine ext5_1 h753 rfl rfl fun a754 h754 => ?_
    refine ext5_2 h754 rfl rfl fun a755 h755 => ?_
    refine ext5_3 h755 rfl rfl fun a756 h756 => ?_
    refine ext5_4 h756 rfl rfl fun a757 h757 => ?_
    refine stb h757 hg2 rfl rfl _ rfl Try.sizeOf32 (by first | exact hd_one _ | exact nd_one _ | exact nd_one Pl.Nd.none | (simp [Value.oneCell']; done)) _ (by first | (simp [hdCells]; done) | (simp [ndCells]; done) | simp) rfl fun w78 hg2' hk78 => ?_
    replace hB := Kept.but hB hk78 (by omega)
    replace hv := hv.but hk78 (by intro hs; have := hs.2; omega)
    clear hg2; have hg2 := hg2'; clear hg2'
    refine asg h757 rfl rfl fun a758 h758 => ?_
    refine asg h758 rfl rfl fun a759 h759 => ?_
    refine asg h759 rfl rfl fun a760 h760 => ?_
    refine asg h760 rfl rfl fun a761 h761 => ?_
    clear hK62 h750 h751 h752 h753 h754 h755 h756 h757 h758 h759 h760 K62 a750 a751 a752 a753 a754 a755 a756 a757 a758 a759 a760
    refine wpL_nil (hK63 _ _ ?_)
    refine rtn (leave h761 (res5 h761 rfl (rva (ndCells Pl.Nd.none) hg2 rfl Try.isAgg32 Try.sizeOf32 rfl) (rvt rfl) (rvt rfl) (rvt rfl) (rvt rfl)) ?_)
    first | exact ⟨_, rfl, by rw [Pl.cg_no1 hno0]; rfl, hB⟩ | exact ⟨_, rfl, by rw [Pl.cg_b1 hok0 ht76 (by omega)]; rfl, hB⟩ | exact ⟨_, rfl, by rw [Pl.cg_b2 hok0 ht76 hbb1 (by rw [hq10]; omega)]; rfl, hB⟩ | exact ⟨_, rfl, by rw [Pl.cg_b3 hok0 ht76 hbb1 hnc hno2]; rfl, hB⟩ | exact ⟨_, rfl, by rw [hcg, Pl.ce_no (fun e => by have hq9 := congrArg UInt8.toNat e; simp at hq9; omega)]; rfl, hB⟩ | exact ⟨_, rfl, by rw [hce, if_neg (by rintro ⟨h1, -⟩; rw [Pl.contOk_eq] at h1; simp only [hb1, hb2, (bunt hb762), Bool.true_and, Bool.false_and, Bool.false_eq_true] at h1; done)]; rfl, hB⟩
   ·
    have hp762 := of_decide_eq_true (bunf hb762)
    refine cdf h750 rfl (bnt (bunf hb762)) ?_
    refine skp (hK61 _ _ ?_)
    refine sq fun K64 hK64 => ?_
    refine sq fun K65 hK65 => ?_
    refine reg [some 86, some 87] rfl ?_
    refine mv h750 rfl rfl fun a762 h762 => ?_
    refine seq h762 rfl rfl rfl fun a763 h763 => ?_
    clear hK62 hK61 h750 h762 K62 K61 a750 a762
    refine wpL_nil (hK65 _ _ ?_)
    refine knownT h763 (d := 87) rfl (decide_eq_true rfl) fun hb763 => ?_
    have hp763 := of_decide_eq_true hb763
    have hce := hcg.trans (Pl.ce_eq (UInt8.toNat_inj.1 (show hh.typ.toNat = 77 by omega)) hh.name (if_pos (of_decide_eq_true hb763)))
    have hnl : hh.name.length ≤ 1000 := by omega
    refine cdt h763 rfl hb763 ?_
    refine reg [some 88, some 89, some 8] rfl ?_
    refine fab h763 rfl Try.underlying41 rfl Try.sizeOf9 rfl 0 rfl rfl fun a764 h764 => ?_
    refine ldb h764 hg11 rfl Try.isAgg9 rfl rfl fun a765 h765 => ?_
    refine asg h765 rfl rfl fun a766 h766 => ?_
    clear hK65 h763 h764 h765 K65 a763 a764 a765
    refine wpL_nil (hK64 _ _ ?_)
    refine sq fun K66 hK66 => ?_
    refine reg [some 90, some 91, some 92, some 93, some 94, some 95, some 96, some 97, some 98, some 99, some 13, none] rfl ?_
    refine mv h766 rfl rfl fun a767 h767 => ?_
    refine fab h767 rfl Try.underlying41 rfl Try.sizeOf3 rfl 3 rfl rfl fun a768 h768 => ?_
    refine ldb h768 hg11 rfl Try.isAgg3 rfl rfl fun a769 h769 => ?_
    refine fab h769 rfl Try.underlying41 rfl Try.sizeOf3 rfl 4 rfl rfl fun a770 h770 => ?_
    refine ldb h770 hg11 rfl Try.isAgg3 rfl rfl fun a771 h771 => ?_
    refine fab h771 rfl Try.underlying41 rfl Try.sizeOf3 rfl 5 rfl rfl fun a772 h772 => ?_
    refine ldb h772 hg11 rfl Try.isAgg3 rfl rfl fun a773 h773 => ?_
    refine fab h773 rfl Try.underlying41 rfl Try.sizeOf3 rfl 7 rfl rfl fun a774 h774 => ?_
    refine ldb h774 hg11 rfl Try.isAgg3 rfl rfl fun a775 h775 => ?_
    refine bld h775 rfl (bld32_0_2_3_4_5_6 _ _ _ _ _ _) rfl fun a776 h776 => ?_
    refine alc h776 Try.zeroValue32 rfl rfl fun a777 w79 g13 h777 hk79 hz13 hg13 => ?_
    have hleg13 := Nat.le_trans hB.size hz13
    have hneg1g13 := Nat.lt_of_lt_of_le hg1.lt hz13
    have hneg2g13 := Nat.lt_of_lt_of_le hg2.lt hz13
    have hneg9g13 := Nat.lt_of_lt_of_le hg9.lt hz13
    have hneg11g13 := Nat.lt_of_lt_of_le hg11.lt hz13
    replace hB := Kept.trans hB hk79
    replace hv := hv.kept hk79
    replace hg1 := hg1.kept hk79
    replace hg2 := hg2.kept hk79
    replace hg9 := hg9.kept hk79
    replace hg11 := hg11.kept hk79
    refine stb h777 hg13 rfl rfl _ rfl Try.sizeOf32 (by first | exact hd_one _ | exact nd_one _ | exact nd_one Pl.Nd.none | (simp [Value.oneCell']; done)) _ (by first | (simp [hdCells]; done) | (simp [ndCells]; done) | simp) rfl fun w80 hg13' hk80 => ?_
    replace hB := Kept.but hB hk80 (by omega)
    replace hv := hv.but hk80 (by intro hs; have := hs.2; omega)
    replace hg1 := hg1.but hk80 (by omega)
    replace hg2 := hg2.but hk80 (by omega)
    replace hg9 := hg9.but hk80 (by omega)
    replace hg11 := hg11.but hk80 (by omega)
    clear hg13; have hg13 := hg13'; clear hg13'
    replace hg13 : Blk w80 g13 32 (ndCells (Pl.contNode hh.name hh)) := hg13
    clear hK64 h766 h767 h768 h769 h770 h771 h772 h773 h774 h775 h776 K64 a766 a767 a768 a769 a770 a771 a772 a773 a774 a775 a776
    refine wpL_nil (hK66 _ _ ?_)
    refine sq fun K67 hK67 => ?_
    refine reg [some 100, some 101, some 102, some 103, some 104, some 105, some 106, some 107, some 108, some 109, some 110, some 111, some 112, some 113, some 114, some 115, some 116, some 117, some 118, some 119, some 120, some 121, some 122, some 123, some 14] rfl ?_
    refine mv h777 rfl rfl fun a778 h778 => ?_
    refine cal h778 Try.call61 rfl (c_pathMay _ _ (by omega)) rfl ?_
    rintro v81 w81 a779 ⟨rfl, hk81⟩ h779
    replace hB := Kept.trans hB hk81
    replace hv := hv.kept hk81
    replace hg1 := hg1.kept hk81
    replace hg2 := hg2.kept hk81
    replace hg9 := hg9.kept hk81
    replace hg11 := hg11.kept hk81
    replace hg13 := hg13.kept hk81
    refine mv h779 rfl rfl fun a780 h780 => ?_
    refine spl h780 (d := 102) rfl (fun hb764 => ?_) (fun hb764 => ?_)
    ·
     refine gon h780 (d := 102) rfl rfl hb764 ?_
     refine ldbn h780 hg13 (ndCells (Pl.contNode hh.name hh)) rfl Try.isAgg32 Try.sizeOf32 rfl rfl fun a781 h781 => ?_
     refine gon h781 (d := 102) rfl rfl hb764 ?_
     refine cal h781 Try.call108 rfl (c_cfile _ _ (cnode_L (by omega))) rfl ?_
     rintro v82 w82 a782 ⟨rfl, hk82⟩ h782
     replace hB := Kept.trans hB hk82
     replace hv := hv.kept hk82
     replace hg1 := hg1.kept hk82
     replace hg2 := hg2.kept hk82
     replace hg9 := hg9.kept hk82
     replace hg11 := hg11.kept hk82
     replace hg13 := hg13.kept hk82
     refine pkt h782 rfl hb764 rfl rfl fun a783 h783 => ?_
     refine mv h783 rfl rfl fun a784 h784 => ?_
     refine spl h784 (d := 106) rfl (fun hb765 => ?_) (fun hb765 => ?_)
     ·
      have hone := isFile_one hb765
      refine gon h784 (d := 106) rfl rfl hb765 ?_
      refine fab h784 rfl Try.underlying41 rfl Try.sizeOf3 rfl 10 rfl rfl fun a785 h785 => ?_
      refine gon h785 (d := 106) rfl rfl hb765 ?_
      refine ldb h785 hg11 rfl Try.isAgg3 rfl rfl fun a786 h786 => ?_
      refine gon h786 (d := 106) rfl rfl hb765 ?_
      refine leq h786 rfl rfl rfl fun a787 h787 => ?_
      refine pkt h787 rfl hb765 rfl rfl fun a788 h788 => ?_
      refine mv h788 rfl rfl fun a789 h789 => ?_
      refine spl h789 (d := 111) rfl (fun hb766 => ?_) (fun hb766 => ?_)
      ·
       have hp766 := of_decide_eq_true hb766
       refine gon h789 (d := 111) rfl rfl hb766 ?_
       refine fab h789 rfl Try.underlying41 rfl Try.sizeOf3 rfl 9 rfl rfl fun a790 h790 => ?_
       refine gon h790 (d := 111) rfl rfl hb766 ?_
       refine ldb h790 hg11 rfl Try.isAgg3 rfl rfl fun a791 h791 => ?_
       refine gon h791 (d := 111) rfl rfl hb766 ?_
       refine fab h791 rfl Try.underlying41 rfl Try.sizeOf3 rfl 10 rfl rfl fun a792 h792 => ?_
       refine gon h792 (d := 111) rfl rfl hb766 ?_
       refine ldb h792 hg11 rfl Try.isAgg3 rfl rfl fun a793 h793 => ?_
       refine gon h793 (d := 111) rfl rfl hb766 ?_
       refine lss h793 rfl rfl rfl fun a794 h794 => ?_
       refine pkt h794 rfl hb766 rfl rfl fun a795 h795 => ?_
       refine mv h795 rfl rfl fun a796 h796 => ?_
       refine spl h796 (d := 118) rfl (fun hb767 => ?_) (fun hb767 => ?_)
       ·
        have hp767 := of_decide_eq_true hb767
        refine gon h796 (d := 118) rfl rfl hb767 ?_
        refine fab h796 rfl Try.underlying41 rfl Try.sizeOf3 rfl 9 rfl rfl fun a797 h797 => ?_
        refine gon h797 (d := 118) rfl rfl hb767 ?_
        refine ldb h797 hg11 rfl Try.isAgg3 rfl rfl fun a798 h798 => ?_
        refine gon h798 (d := 118) rfl rfl hb767 ?_
        refine rem h798 rfl rfl rfl (by omega) fun a799 h799 => ?_
        refine gon h799 (d := 118) rfl rfl hb767 ?_
        refine ieq h799 rfl rfl rfl fun a800 h800 => ?_
        refine pkt h800 rfl hb767 rfl rfl fun a801 h801 => ?_
        refine asg h801 rfl rfl fun a802 h802 => ?_
        clear hK66 h777 h778 h779 h780 h781 h782 h783 h784 h785 h786 h787 h788 h789 h790 h791 h792 h793 h794 h795 h796 h797 h798 h799 h800 h801 K66 a777 a778 a779 a780 a781 a782 a783 a784 a785 a786 a787 a788 a789 a790 a791 a792 a793 a794 a795 a796 a797 a798 a799 a800 a801
        refine wpL_nil (hK67 _ _ ?_)
        refine sq fun K68 hK68 => ?_
        refine sq fun K69 hK69 => ?_
        refine spl h802 (d := 14) rfl (fun hb768 => ?_) (fun hb768 => ?_)
        ·
         have hp768 := of_decide_eq_true hb768
         clear hK67 K67
         refine drw h802 [some 124, some 125, some 126, some 127, some 128, some 129, some 130, some 131, some 132, some 133, some 134, some 135, some 136, some 137, some 138] rfl [Fx (.bool (decide (hh.off % 512 = 0))), Fx (.bool (!(decide (hh.off % 512 = 0)))), Fx (.bool (!(decide (hh.off % 512 = 0)))), Fx (ndV (Pl.contNode hh.name hh)), Fx (.pointer (some ⟨g11, 9, none⟩)), Fx (.int .i64 hh.off), Fx (.pointer (some ⟨g11, 10, none⟩)), Fx (.int .i64 hh.real), fun v w' => ∃ S0 : Nat → Prop, Rws S0 w' v (Pl.contRaw (Pl.contNode hh.name hh) hh.off hh.real), Fx (.slice Av l.length cv0), Fx (.int .i64 (kk : Int)), fun v w' => ∃ S0 : Nat → Prop, Rws S0 w' v ((l.take kk).drop 0), Fx (.bool (decide ((Pl.contRaw (Pl.contNode hh.name hh) hh.off hh.real) = l.take kk))), Fx (.bool (!(decide ((Pl.contRaw (Pl.contNode hh.name hh) hh.off hh.real) = l.take kk)))), Fx (.bool (!(decide ((Pl.contRaw (Pl.contNode hh.name hh) hh.off hh.real) = l.take kk))))] Kept rfl rfl rfl rfl (drewKept _) keptT (mcons mfx (mcons mfx (mcons mfx (mcons mfx (mcons mfx (mcons mfx (mcons mfx (mcons mfx (mcons (fun v w w' hk h => ⟨_, h.choose_spec.kept hk⟩) (mcons mfx (mcons mfx (mcons (fun v w w' hk h => ⟨_, h.choose_spec.kept hk⟩) (mcons mfx (mcons mfx (mcons mfx mnil))))))))))))))) ⟨?_, ?_, ?_, ?_, ?_, ?_, ?_, ?_, ?_, ?_, ?_, ?_, ?_, ?_, ?_, trivial⟩ ?_
         ·
          intro L a w_ hH hb hR hd ho
          have hl14 := hb 14 _ rfl
          refine mv hH hl14 rfl fun a803 h803 => ?_
          exact wpL_nil ⟨_, h803, Kept.refl _, rfl⟩
         ·
          intro L a w_ hH hb hR hd ho
          obtain ⟨_, hl124, rfl⟩ := hd 0 rfl
          refine unot hH hl124 rfl fun a804 h804 => ?_
          exact wpL_nil ⟨_, h804, Kept.refl _, rfl⟩
         ·
          intro L a w_ hH hb hR hd ho
          obtain ⟨_, hl125, rfl⟩ := hd 1 rfl
          refine mv hH hl125 rfl fun a805 h805 => ?_
          exact wpL_nil ⟨_, h805, Kept.refl _, rfl⟩
         ·
          intro L a w_ hH hb hR hd ho
          have hl13 := hb 13 _ rfl
          obtain ⟨_, hl126, rfl⟩ := hd 2 rfl
          replace hg13 := hg13.kept hR
          refine gon hH rfl hl126 (bnt hb768) ?_
          refine ldbn hH hg13 ([str hh.name, str [], u8 48, .int .i64 hh.mode, .int .i64 hh.uid, .int .i64 hh.gid, .int .i64 hh.mtime, str []]) hl13 Try.isAgg32 Try.sizeOf32 rfl rfl fun a806 h806 => ?_
          exact wpL_nil ⟨_, h806, Kept.refl _, rfl⟩
         ·
          intro L a w_ hH hb hR hd ho
          have hl11 := hb 11 _ rfl
          obtain ⟨_, hl126, rfl⟩ := hd 2 rfl
          refine gon hH rfl hl126 (bnt hb768) ?_
          refine fab hH hl11 Try.underlying41 rfl Try.sizeOf3 rfl 9 rfl rfl fun a807 h807 => ?_
          exact wpL_nil ⟨_, h807, Kept.refl _, rfl⟩
         ·
          intro L a w_ hH hb hR hd ho
          obtain ⟨_, hl128, rfl⟩ := hd 4 rfl
          obtain ⟨_, hl126, rfl⟩ := hd 2 rfl
          replace hg11 := hg11.kept hR
          refine gon hH rfl hl126 (bnt hb768) ?_
          refine ldb hH hg11 hl128 Try.isAgg3 rfl rfl fun a808 h808 => ?_
          exact wpL_nil ⟨_, h808, Kept.refl _, rfl⟩
         ·
          intro L a w_ hH hb hR hd ho
          have hl11 := hb 11 _ rfl
          obtain ⟨_, hl126, rfl⟩ := hd 2 rfl
          refine gon hH rfl hl126 (bnt hb768) ?_
          refine fab hH hl11 Try.underlying41 rfl Try.sizeOf3 rfl 10 rfl rfl fun a809 h809 => ?_
          exact wpL_nil ⟨_, h809, Kept.refl _, rfl⟩
         ·
          intro L a w_ hH hb hR hd ho
          obtain ⟨_, hl130, rfl⟩ := hd 6 rfl
          obtain ⟨_, hl126, rfl⟩ := hd 2 rfl
          replace hg11 := hg11.kept hR
          refine gon hH rfl hl126 (bnt hb768) ?_
          refine ldb hH hg11 hl130 Try.isAgg3 rfl rfl fun a810 h810 => ?_
          exact wpL_nil ⟨_, h810, Kept.refl _, rfl⟩
         ·
          intro L a w_ hH hb hR hd ho
          obtain ⟨_, hl127, rfl⟩ := hd 3 rfl
          obtain ⟨_, hl129, rfl⟩ := hd 5 rfl
          obtain ⟨_, hl131, rfl⟩ := hd 7 rfl
          obtain ⟨_, hl126, rfl⟩ := hd 2 rfl
          refine gon hH rfl hl126 (bnt hb768) ?_
          refine cal hH Try.call102 (evs3 hl127 hl129 hl131) (c_cput (Pl.contNode hh.name hh) hh.off hh.real _ (cnode_L (by omega)) (one_R64 hone) ⟨by omega, by omega⟩ ⟨by omega, by omega⟩) rfl ?_
          rintro v83 w83 a811 ⟨hA83, hk83⟩ h811
          exact wpL_nil ⟨_, h811, hk83, ⟨_, hA83⟩⟩
         ·
          intro L a w_ hH hb hR hd ho
          have hl1 := hb 1 _ rfl
          obtain ⟨_, hl126, rfl⟩ := hd 2 rfl
          replace hg1 := hg1.kept hR
          refine gon hH rfl hl126 (bnt hb768) ?_
          refine ldb hH hg1 hl1 Try.isAgg25 rfl rfl fun a812 h812 => ?_
          exact wpL_nil ⟨_, h812, Kept.refl _, rfl⟩
         ·
          intro L a w_ hH hb hR hd ho
          have hl9 := hb 9 _ rfl
          obtain ⟨_, hl126, rfl⟩ := hd 2 rfl
          replace hg9 := hg9.kept hR
          refine gon hH rfl hl126 (bnt hb768) ?_
          refine ldb hH hg9 hl9 Try.isAgg3 rfl rfl fun a813 h813 => ?_
          exact wpL_nil ⟨_, h813, Kept.refl _, rfl⟩
         ·
          intro L a w_ hH hb hR hd ho
          obtain ⟨_, hl133, rfl⟩ := hd 9 rfl
          obtain ⟨_, hl134, rfl⟩ := hd 10 rfl
          obtain ⟨_, hl126, rfl⟩ := hd 2 rfl
          replace hv := hv.kept hR
          refine gon hH rfl hl126 (bnt hb768) ?_
          refine slR (0) (kk) hv hH Try.underlying25 hl133 Try.sizeOf35 rfl ⟨_, hl134, by first | omega | (simp; omega)⟩ (by omega) (by omega) rfl fun a814 v135' h814 hs135 => ?_
          exact wpL_nil ⟨_, h814, Kept.refl _, ⟨_, hs135⟩⟩
         ·
          intro L a w_ hH hb hR hd ho
          obtain ⟨v132, hl132, hf132⟩ := hd 8 rfl
          obtain ⟨v135, hl135, hf135⟩ := hd 11 rfl
          obtain ⟨_, hl126, rfl⟩ := hd 2 rfl
          refine gon hH rfl hl126 (bnt hb768) ?_
          obtain ⟨_, hb132⟩ := hf132
          obtain ⟨_, hb135⟩ := hf135
          refine cal hH Try.call109 (evs2 hl132 hl135) (c_bsame _ _ _ _ _ hb132 hb135) rfl ?_
          rintro v84 w84 a815 ⟨rfl, hk84⟩ h815
          exact wpL_nil ⟨_, h815, hk84, (by rw [List.drop_zero]; exact rfl)⟩
         ·
          intro L a w_ hH hb hR hd ho
          obtain ⟨_, hl136, rfl⟩ := hd 12 rfl
          obtain ⟨_, hl126, rfl⟩ := hd 2 rfl
          refine gon hH rfl hl126 (bnt hb768) ?_
          refine unot hH hl136 rfl fun a816 h816 => ?_
          exact wpL_nil ⟨_, h816, Kept.refl _, rfl⟩
         ·
          intro L a w_ hH hb hR hd ho
          obtain ⟨_, hl126, rfl⟩ := hd 2 rfl
          obtain ⟨_, hl137, rfl⟩ := hd 13 rfl
          refine pkf hH hl126 (bnt hb768) hl137 rfl fun a817 h817 => ?_
          exact wpL_nil ⟨_, h817, Kept.refl _, rfl⟩
         intro L85 a818 w85 h818 hbh818 hRh818 hdh818
         obtain ⟨_, hl124, rfl⟩ := hdh818 0 (by decide)
         obtain ⟨_, hl125, rfl⟩ := hdh818 1 (by decide)
         obtain ⟨_, hl126, rfl⟩ := hdh818 2 (by decide)
         obtain ⟨_, hl127, rfl⟩ := hdh818 3 (by decide)
         obtain ⟨_, hl128, rfl⟩ := hdh818 4 (by decide)
         obtain ⟨_, hl129, rfl⟩ := hdh818 5 (by decide)
         obtain ⟨_, hl130, rfl⟩ := hdh818 6 (by decide)
         obtain ⟨_, hl131, rfl⟩ := hdh818 7 (by decide)
         obtain ⟨v132, hl132, hf132⟩ := hdh818 8 (by decide)
         obtain ⟨_, hl133, rfl⟩ := hdh818 9 (by decide)
         obtain ⟨_, hl134, rfl⟩ := hdh818 10 (by decide)
         obtain ⟨v135, hl135, hf135⟩ := hdh818 11 (by decide)
         obtain ⟨_, hl136, rfl⟩ := hdh818 12 (by decide)
         obtain ⟨_, hl137, rfl⟩ := hdh818 13 (by decide)
         obtain ⟨_, hl138, rfl⟩ := hdh818 14 (by decide)
         have h819 := Has.under h818 hbh818
         have h820 := (h818.add hl138 (h818.add hl137 (h818.add hl136 (h818.add hl135 (h818.add hl134 (h818.add hl133 (h818.add hl132 (h818.add hl131 (h818.add hl130 (h818.add hl129 (h818.add hl128 (h818.add hl127 (h818.add hl126 (h818.add hl125 (h818.add hl124 h819)))))))))))))))
         clear h819 hl124 hl125 hl126 hl127 hl128 hl129 hl130 hl131 hl132 hl133 hl134 hl135 hl136 hl137 hl138 hbh818 hdh818
         replace hB := Kept.trans hB hRh818
         replace hv := hv.kept hRh818
         replace hg2 := hg2.kept hRh818
         replace hg9 := hg9.kept hRh818
         replace hg11 := hg11.kept hRh818
         replace hg13 := hg13.kept hRh818
         refine hK69 _ _ ?_
         refine spl h820 (d := 138) rfl (fun hb9005 => ?_) (fun hb9005 => ?_)
         ·
          refine cdt h820 rfl (bnf (bunt hb9005)) ?_
          refine sq fun K70 hK70 => ?_
          refine reg [some 139, some 140, some 141, some 142, some 143, some 144, some 145, none, some 3, some 4, some 5, some 6] rfl ?_
          refine mv h820 rfl rfl fun a821 h821 => ?_
          refine clv h821 rfl Try.call105 rfl _ rfl (c_cno _) rfl ?_
          rintro v86 w86 a822 ⟨rfl, hk86⟩ h822
          replace hB := Kept.trans hB hk86
          replace hv := hv.kept hk86
          replace hg2 := hg2.kept hk86
          refine ext5_0 h822 rfl rfl fun a823 h823 => ?_
          refine ext5_1 h823 rfl rfl fun a824 h824 => ?_
          refine ext5_2 h824 rfl rfl fun a825 h825 => ?_
          refine ext5_3 h825 rfl rfl fun a826 h826 => ?_
          refine ext5_4 h826 rfl rfl fun a827 h827 => ?_
          refine stb h827 hg2 rfl rfl _ rfl Try.sizeOf32 (by first | exact hd_one _ | exact nd_one _ | exact nd_one Pl.Nd.none | (simp [Value.oneCell']; done)) _ (by first | (simp [hdCells]; done) | (simp [ndCells]; done) | simp) rfl fun w87 hg2' hk87 => ?_
          replace hB := Kept.but hB hk87 (by omega)
          replace hv := hv.but hk87 (by intro hs; have := hs.2; omega)
          clear hg2; have hg2 := hg2'; clear hg2'
          refine asg h827 rfl rfl fun a828 h828 => ?_
          refine asg h828 rfl rfl fun a829 h829 => ?_
          refine asg h829 rfl rfl fun a830 h830 => ?_
          refine asg h830 rfl rfl fun a831 h831 => ?_
          clear hK69 h820 h821 h822 h823 h824 h825 h826 h827 h828 h829 h830 K69 a821 a822 a823 a824 a825 a826 a827 a828 a829 a830
          refine wpL_nil (hK70 _ _ ?_)
          refine rtn (leave h831 (res5 h831 rfl (rva (ndCells Pl.Nd.none) hg2 rfl Try.isAgg32 Try.sizeOf32 rfl) (rvt rfl) (rvt rfl) (rvt rfl) (rvt rfl)) ?_)
          first | exact ⟨_, rfl, by rw [hce, if_neg (by rintro ⟨-, h1⟩; exact absurd h1 (of_decide_eq_false (bunt hb9005)))]; rfl, hB⟩
         ·
          refine cdf h820 rfl (bnt (bunf hb9005)) ?_
          refine skp (hK68 _ _ ?_)
          refine sq fun K71 hK71 => ?_
          clear hK69 hK68 K69 K68
          refine drwL h820 [some 146, some 147, some 148, some 149, some 150, some 151, none, some 3, some 4, some 5, some 6] rfl [Fx (ndV (Pl.contNode hh.name hh)), Fx (.pointer (some ⟨g11, 9, none⟩)), Fx (.int .i64 hh.off), Fx (.pointer (some ⟨g11, 10, none⟩)), Fx (.int .i64 hh.real), Fx (.int .i64 (kk : Int)), fun _ w' => Blk w' g2 32 (ndCells (Pl.contNode hh.name hh)), Fx (.int .i64 hh.off), Fx (.int .i64 hh.real), Fx (.int .i64 (kk : Int)), Fx ((.bool true))] Kept (But g2) 6 [true, false, false, false, false, false, true, false, false, false, false] rfl rfl rfl rfl rfl rfl (drewKept _) keptT (fun _ _ _ h k => But.trans (Kept.toBut h _) k) (fun _ _ _ h k => But.trans h (Kept.toBut k _)) (fun _ _ h => Kept.toBut h _) ((mcons mfx (mcons mfx (mcons mfx (mcons mfx (mcons mfx (mcons mfx (mcons (fun v w w' hk h => h.kept hk) (mcons mfx (mcons mfx (mcons mfx (mcons mfx mnil)))))))))))) (MonoX.all (mconsX (fun _ => mfx) (mconsX (fun _ => mfx) (mconsX (fun _ => mfx) (mconsX (fun _ => mfx) (mconsX (fun _ => mfx) (mconsX (fun _ => mfx) (mconsX (fun h => absurd rfl h) (mconsX (fun _ => mfx) (mconsX (fun _ => mfx) (mconsX (fun _ => mfx) (mconsX (fun _ => mfx) mnilX)))))))))))) ⟨?_, ?_, ?_, ?_, ?_, ?_, ?_, ?_, ?_, ?_, ?_, trivial⟩ ?_
          ·
           intro L a w_ hH hb hR hd ho
           have hl13 := hb 13 _ rfl
           replace hR : Kept w85 w_ := hR
           replace hg13 := hg13.kept hR
           refine ldbn hH hg13 ([str hh.name, str [], u8 48, .int .i64 hh.mode, .int .i64 hh.uid, .int .i64 hh.gid, .int .i64 hh.mtime, str []]) hl13 Try.isAgg32 Try.sizeOf32 rfl rfl fun a832 h832 => ?_
           exact wpL_nil ⟨_, h832, Kept.refl _, rfl⟩
          ·
           intro L a w_ hH hb hR hd ho
           have hl11 := hb 11 _ rfl
           replace hR : But g2 w85 w_ := hR
           refine fab hH hl11 Try.underlying41 rfl Try.sizeOf3 rfl 9 rfl rfl fun a833 h833 => ?_
           exact wpL_nil ⟨_, h833, Kept.refl _, rfl⟩
          ·
           intro L a w_ hH hb hR hd ho
           obtain ⟨_, hl147, rfl⟩ := hd 1 rfl
           replace hR : But g2 w85 w_ := hR
           replace hg11 := hg11.but hR (by omega)
           refine ldb hH hg11 hl147 Try.isAgg3 rfl rfl fun a834 h834 => ?_
           exact wpL_nil ⟨_, h834, Kept.refl _, rfl⟩
          ·
           intro L a w_ hH hb hR hd ho
           have hl11 := hb 11 _ rfl
           replace hR : But g2 w85 w_ := hR
           refine fab hH hl11 Try.underlying41 rfl Try.sizeOf3 rfl 10 rfl rfl fun a835 h835 => ?_
           exact wpL_nil ⟨_, h835, Kept.refl _, rfl⟩
          ·
           intro L a w_ hH hb hR hd ho
           obtain ⟨_, hl149, rfl⟩ := hd 3 rfl
           replace hR : But g2 w85 w_ := hR
           replace hg11 := hg11.but hR (by omega)
           refine ldb hH hg11 hl149 Try.isAgg3 rfl rfl fun a836 h836 => ?_
           exact wpL_nil ⟨_, h836, Kept.refl _, rfl⟩
          ·
           intro L a w_ hH hb hR hd ho
           have hl9 := hb 9 _ rfl
           replace hR : But g2 w85 w_ := hR
           replace hg9 := hg9.but hR (by omega)
           refine ldb hH hg9 hl9 Try.isAgg3 rfl rfl fun a837 h837 => ?_
           exact wpL_nil ⟨_, h837, Kept.refl _, rfl⟩
          ·
           intro L a w_ hH hb hR hd ho
           have hl2 := hb 2 _ rfl
           obtain ⟨_, hl146, rfl⟩ := hd 0 rfl
           replace hR : Kept w85 w_ := hR
           replace hg2 := hg2.kept hR
           refine stb hH hg2 hl2 hl146 _ rfl Try.sizeOf32 (nd_one _) _ (by simp [ndCells]) rfl fun w88 hg2' hk88 => ?_
           exact wpL_nil ⟨undef, hH, hk88, hg2'⟩
          ·
           intro L a w_ hH hb hR hd ho
           obtain ⟨_, hl148, rfl⟩ := hd 2 rfl
           replace hR : But g2 w85 w_ := hR
           refine asg hH hl148 rfl fun a838 h838 => ?_
           exact wpL_nil ⟨_, h838, Kept.refl _, rfl⟩
          ·
           intro L a w_ hH hb hR hd ho
           obtain ⟨_, hl150, rfl⟩ := hd 4 rfl
           replace hR : But g2 w85 w_ := hR
           refine asg hH hl150 rfl fun a839 h839 => ?_
           exact wpL_nil ⟨_, h839, Kept.refl _, rfl⟩
          ·
           intro L a w_ hH hb hR hd ho
           obtain ⟨_, hl151, rfl⟩ := hd 5 rfl
           replace hR : But g2 w85 w_ := hR
           refine asg hH hl151 rfl fun a840 h840 => ?_
           exact wpL_nil ⟨_, h840, Kept.refl _, rfl⟩
          ·
           intro L a w_ hH hb hR hd ho
           replace hR : But g2 w85 w_ := hR
           refine asg hH rfl rfl fun a841 h841 => ?_
           exact wpL_nil ⟨_, h841, Kept.refl _, rfl⟩
          intro L89 a842 w89 h842 hbh842 hRh842 hdh842
          obtain ⟨_, hl146, rfl⟩ := hdh842 0 (by decide)
          obtain ⟨_, hl147, rfl⟩ := hdh842 1 (by decide)
          obtain ⟨_, hl148, rfl⟩ := hdh842 2 (by decide)
          obtain ⟨_, hl149, rfl⟩ := hdh842 3 (by decide)
          obtain ⟨_, hl150, rfl⟩ := hdh842 4 (by decide)
          obtain ⟨_, hl151, rfl⟩ := hdh842 5 (by decide)
          obtain ⟨_, hl3, rfl⟩ := hdh842 7 (by decide)
          obtain ⟨_, hl4, rfl⟩ := hdh842 8 (by decide)
          obtain ⟨_, hl5, rfl⟩ := hdh842 9 (by decide)
          obtain ⟨_, hl6, rfl⟩ := hdh842 10 (by decide)
          have hs6 := hdh842 6 (by decide)
          have h843 := Has.under h842 hbh842
          have h844 := (h842.add hl6 (h842.add hl5 (h842.add hl4 (h842.add hl3 (h842.add hl151 (h842.add hl150 (h842.add hl149 (h842.add hl148 (h842.add hl147 (h842.add hl146 h843))))))))))
          clear h843 hl146 hl147 hl148 hl149 hl150 hl151 hl3 hl4 hl5 hl6 hbh842 hdh842
          have hg2' := hs6
          replace hB := Kept.but hB hRh842 (by omega)
          replace hv := hv.but hRh842 (by intro hs; have := hs.2; omega)
          clear hg2; have hg2 := hg2'; clear hg2'
          refine hK71 _ _ ?_
          refine rtn (leave h844 (res5 h844 rfl (rva (ndCells (Pl.contNode hh.name hh)) hg2 rfl Try.isAgg32 Try.sizeOf32 rfl) (rvt rfl) (rvt rfl) (rvt rfl) (rvt rfl)) ?_)
          first | exact ⟨_, rfl, by rw [hce, if_pos ⟨by rw [Pl.contOk_eq]; simp only [hb1, hb2, (bunf hb762), hb763, hb764, hb765, hb766, hb767, hb768, (bunf hb9005), Bool.true_and], of_decide_eq_true (bunf hb9005)⟩]; rfl, hB⟩
        ·
         have hp768 := of_decide_eq_false hb768
         clear hK67 K67
         refine drw h802 [some 124, some 125, some 126, some 127, some 128, some 129, some 130, some 131, some 132, some 133, some 134, some 135, some 136, some 137, some 138] rfl [Fx (.bool (decide (hh.off % 512 = 0))), Fx (.bool (!(decide (hh.off % 512 = 0)))), Fx (.bool (!(decide (hh.off % 512 = 0)))), Fx (undef), Fx (undef), Fx (undef), Fx (undef), Fx (undef), Fx (undef), Fx (undef), Fx (undef), Fx (undef), Fx (undef), Fx (undef), Fx ((.bool true))] Kept rfl rfl rfl rfl (drewKept _) keptT (mcons mfx (mcons mfx (mcons mfx (mcons mfx (mcons mfx (mcons mfx (mcons mfx (mcons mfx (mcons mfx (mcons mfx (mcons mfx (mcons mfx (mcons mfx (mcons mfx (mcons mfx mnil))))))))))))))) ⟨?_, ?_, ?_, ?_, ?_, ?_, ?_, ?_, ?_, ?_, ?_, ?_, ?_, ?_, ?_, trivial⟩ ?_
         ·
          intro L a w_ hH hb hR hd ho
          have hl14 := hb 14 _ rfl
          refine mv hH hl14 rfl fun a845 h845 => ?_
          exact wpL_nil ⟨_, h845, Kept.refl _, rfl⟩
         ·
          intro L a w_ hH hb hR hd ho
          obtain ⟨_, hl124, rfl⟩ := hd 0 rfl
          refine unot hH hl124 rfl fun a846 h846 => ?_
          exact wpL_nil ⟨_, h846, Kept.refl _, rfl⟩
         ·
          intro L a w_ hH hb hR hd ho
          obtain ⟨_, hl125, rfl⟩ := hd 1 rfl
          refine mv hH hl125 rfl fun a847 h847 => ?_
          exact wpL_nil ⟨_, h847, Kept.refl _, rfl⟩
         ·
          intro L a w_ hH hb hR hd ho
          have hl13 := hb 13 _ rfl
          obtain ⟨_, hl126, rfl⟩ := hd 2 rfl
          refine goff hH rfl hl126 (bnf hb768) rfl fun a848 h848 => ?_
          exact wpL_nil ⟨_, h848, Kept.refl _, rfl⟩
         ·
          intro L a w_ hH hb hR hd ho
          have hl11 := hb 11 _ rfl
          obtain ⟨_, hl126, rfl⟩ := hd 2 rfl
          refine goff hH rfl hl126 (bnf hb768) rfl fun a849 h849 => ?_
          exact wpL_nil ⟨_, h849, Kept.refl _, rfl⟩
         ·
          intro L a w_ hH hb hR hd ho
          obtain ⟨_, hl128, rfl⟩ := hd 4 rfl
          obtain ⟨_, hl126, rfl⟩ := hd 2 rfl
          refine goff hH rfl hl126 (bnf hb768) rfl fun a850 h850 => ?_
          exact wpL_nil ⟨_, h850, Kept.refl _, rfl⟩
         ·
          intro L a w_ hH hb hR hd ho
          have hl11 := hb 11 _ rfl
          obtain ⟨_, hl126, rfl⟩ := hd 2 rfl
          refine goff hH rfl hl126 (bnf hb768) rfl fun a851 h851 => ?_
          exact wpL_nil ⟨_, h851, Kept.refl _, rfl⟩
         ·
          intro L a w_ hH hb hR hd ho
          obtain ⟨_, hl130, rfl⟩ := hd 6 rfl
          obtain ⟨_, hl126, rfl⟩ := hd 2 rfl
          refine goff hH rfl hl126 (bnf hb768) rfl fun a852 h852 => ?_
          exact wpL_nil ⟨_, h852, Kept.refl _, rfl⟩
         ·
          intro L a w_ hH hb hR hd ho
          obtain ⟨_, hl127, rfl⟩ := hd 3 rfl
          obtain ⟨_, hl129, rfl⟩ := hd 5 rfl
          obtain ⟨_, hl131, rfl⟩ := hd 7 rfl
          obtain ⟨_, hl126, rfl⟩ := hd 2 rfl
          refine goff hH rfl hl126 (bnf hb768) rfl fun a853 h853 => ?_
          exact wpL_nil ⟨_, h853, Kept.refl _, rfl⟩
         ·
          intro L a w_ hH hb hR hd ho
          have hl1 := hb 1 _ rfl
          obtain ⟨_, hl126, rfl⟩ := hd 2 rfl
          refine goff hH rfl hl126 (bnf hb768) rfl fun a854 h854 => ?_
          exact wpL_nil ⟨_, h854, Kept.refl _, rfl⟩
         ·
          intro L a w_ hH hb hR hd ho
          have hl9 := hb 9 _ rfl
          obtain ⟨_, hl126, rfl⟩ := hd 2 rfl
          refine goff hH rfl hl126 (bnf hb768) rfl fun a855 h855 => ?_
          exact wpL_nil ⟨_, h855, Kept.refl _, rfl⟩
         ·
          intro L a w_ hH hb hR hd ho
          obtain ⟨_, hl133, rfl⟩ := hd 9 rfl
          obtain ⟨_, hl134, rfl⟩ := hd 10 rfl
          obtain ⟨_, hl126, rfl⟩ := hd 2 rfl
          refine goff hH rfl hl126 (bnf hb768) rfl fun a856 h856 => ?_
          exact wpL_nil ⟨_, h856, Kept.refl _, rfl⟩
         ·
          intro L a w_ hH hb hR hd ho
          obtain ⟨_, hl132, rfl⟩ := hd 8 rfl
          obtain ⟨_, hl135, rfl⟩ := hd 11 rfl
          obtain ⟨_, hl126, rfl⟩ := hd 2 rfl
          refine goff hH rfl hl126 (bnf hb768) rfl fun a857 h857 => ?_
          exact wpL_nil ⟨_, h857, Kept.refl _, rfl⟩
         ·
          intro L a w_ hH hb hR hd ho
          obtain ⟨_, hl136, rfl⟩ := hd 12 rfl
          obtain ⟨_, hl126, rfl⟩ := hd 2 rfl
          refine goff hH rfl hl126 (bnf hb768) rfl fun a858 h858 => ?_
          exact wpL_nil ⟨_, h858, Kept.refl _, rfl⟩
         ·
          intro L a w_ hH hb hR hd ho
          obtain ⟨_, hl126, rfl⟩ := hd 2 rfl
          obtain ⟨_, hl137, rfl⟩ := hd 13 rfl
          refine pkt hH hl126 (bnf hb768) rfl rfl fun a859 h859 => ?_
          exact wpL_nil ⟨_, h859, Kept.refl _, rfl⟩
         intro L90 a860 w90 h860 hbh860 hRh860 hdh860
         obtain ⟨_, hl124, rfl⟩ := hdh860 0 (by decide)
         obtain ⟨_, hl125, rfl⟩ := hdh860 1 (by decide)
         obtain ⟨_, hl126, rfl⟩ := hdh860 2 (by decide)
         obtain ⟨_, hl127, rfl⟩ := hdh860 3 (by decide)
         obtain ⟨_, hl128, rfl⟩ := hdh860 4 (by decide)
         obtain ⟨_, hl129, rfl⟩ := hdh860 5 (by decide)
         obtain ⟨_, hl130, rfl⟩ := hdh860 6 (by decide)
         obtain ⟨_, hl131, rfl⟩ := hdh860 7 (by decide)
         obtain ⟨_, hl132, rfl⟩ := hdh860 8 (by decide)
         obtain ⟨_, hl133, rfl⟩ := hdh860 9 (by decide)
         obtain ⟨_, hl134, rfl⟩ := hdh860 10 (by decide)
         obtain ⟨_, hl135, rfl⟩ := hdh860 11 (by decide)
         obtain ⟨_, hl136, rfl⟩ := hdh860 12 (by decide)
         obtain ⟨_, hl137, rfl⟩ := hdh860 13 (by decide)
         obtain ⟨_, hl138, rfl⟩ := hdh860 14 (by decide)
         have h861 := Has.under h860 hbh860
         have h862 := (h860.add hl138 (h860.add hl137 (h860.add hl136 (h860.add hl135 (h860.add hl134 (h860.add hl133 (h860.add hl132 (h860.add hl131 (h860.add hl130 (h860.add hl129 (h860.add hl128 (h860.add hl127 (h860.add hl126 (h860.add hl125 (h860.add hl124 h861)))))))))))))))
         clear h861 hl124 hl125 hl126 hl127 hl128 hl129 hl130 hl131 hl132 hl133 hl134 hl135 hl136 hl137 hl138 hbh860 hdh860
         replace hB := Kept.trans hB hRh860
         replace hv := hv.kept hRh860
         replace hg2 := hg2.kept hRh860
         refine hK69 _ _ ?_
         refine cdt h862 rfl rfl ?_
         refine sq fun K72 hK72 => ?_
         refine reg [some 139, some 140, some 141, some 142, some 143, some 144, some 145, none, some 3, some 4, some 5, some 6] rfl ?_
         refine mv h862 rfl rfl fun a863 h863 => ?_
         refine clv h863 rfl Try.call105 rfl _ rfl (c_cno _) rfl ?_
         rintro v91 w91 a864 ⟨rfl, hk91⟩ h864
         replace hB := Kept.trans hB hk91
         replace hv := hv.kept hk91
         replace hg2 := hg2.kept hk91
         refine ext5_0 h864 rfl rfl fun a865 h865 => ?_
         refine ext5_1 h865 rfl rfl fun a866 h866 => ?_
         refine ext5_2 h866 rfl rfl fun a867 h867 => ?_
         refine ext5_3 h867 rfl rfl fun a868 h868 => ?_
         refine ext5_4 h868 rfl rfl fun a869 h869 => ?_
         refine stb h869 hg2 rfl rfl _ rfl Try.sizeOf32 (by first | exact hd_one _ | exact nd_one _ | exact nd_one Pl.Nd.none | (simp [Value.oneCell']; done)) _ (by first | (simp [hdCells]; done) | (simp [ndCells]; done) | simp) rfl fun w92 hg2' hk92 => ?_
         replace hB := Kept.but hB hk92 (by omega)
         replace hv := hv.but hk92 (by intro hs; have := hs.2; omega)
         clear hg2; have hg2 := hg2'; clear hg2'
         refine asg h869 rfl rfl fun a870 h870 => ?_
         refine asg h870 rfl rfl fun a871 h871 => ?_
         refine asg h871 rfl rfl fun a872 h872 => ?_
         refine asg h872 rfl rfl fun a873 h873 => ?_
         clear hK69 h862 h863 h864 h865 h866 h867 h868 h869 h870 h871 h872 K69 a863 a864 a865 a866 a867 a868 a869 a870 a871 a872
         refine wpL_nil (hK72 _ _ ?_)
         refine rtn (leave h873 (res5 h873 rfl (rva (ndCells Pl.Nd.none) hg2 rfl Try.isAgg32 Try.sizeOf32 rfl) (rvt rfl) (rvt rfl) (rvt rfl) (rvt rfl)) ?_)
         first | exact ⟨_, rfl, by rw [Pl.cg_no1 hno0]; rfl, hB⟩ | exact ⟨_, rfl, by rw [Pl.cg_b1 hok0 ht76 (by omega)]; rfl, hB⟩ | exact ⟨_, rfl, by rw [Pl.cg_b2 hok0 ht76 hbb1 (by rw [hq10]; omega)]; rfl, hB⟩ | exact ⟨_, rfl, by rw [Pl.cg_b3 hok0 ht76 hbb1 hnc hno2]; rfl, hB⟩ | exact ⟨_, rfl, by rw [hcg, Pl.ce_no (fun e => by have hq9 := congrArg UInt8.toNat e; simp at hq9; omega)]; rfl, hB⟩ | exact ⟨_, rfl, by rw [hce, if_neg (by rintro ⟨h1, -⟩; rw [Pl.contOk_eq] at h1; simp only [hb1, hb2, (bunf hb762), hb763, hb764, hb765, hb766, hb767, hb768, Bool.true_and, Bool.false_and, Bool.false_eq_true] at h1; done)]; rfl, hB⟩
       ·
        have hp767 := of_decide_eq_false hb767
        refine goff h796 (d := 118) rfl rfl hb767 rfl fun a874 h874 => ?_
        refine goff h874 (d := 118) rfl rfl hb767 rfl fun a875 h875 => ?_
        refine goff h875 (d := 118) rfl rfl hb767 rfl fun a876 h876 => ?_
        refine goff h876 (d := 118) rfl rfl hb767 rfl fun a877 h877 => ?_
        refine pkf h877 rfl hb767 rfl rfl fun a878 h878 => ?_
        refine asg h878 rfl rfl fun a879 h879 => ?_
        clear hK66 h777 h778 h779 h780 h781 h782 h783 h784 h785 h786 h787 h788 h789 h790 h791 h792 h793 h794 h795 h796 h874 h875 h876 h877 h878 K66 a777 a778 a779 a780 a781 a782 a783 a784 a785 a786 a787 a788 a789 a790 a791 a792 a793 a794 a795 a796 a874 a875 a876 a877 a878
        refine wpL_nil (hK67 _ _ ?_)
        refine sq fun K73 hK73 => ?_
        refine sq fun K74 hK74 => ?_
        clear hK67 K67
        refine drw h879 [some 124, some 125, some 126, some 127, some 128, some 129, some 130, some 131, some 132, some 133, some 134, some 135, some 136, some 137, some 138] rfl [Fx (.bool false), Fx (.bool (!false)), Fx (.bool (!false)), Fx (undef), Fx (undef), Fx (undef), Fx (undef), Fx (undef), Fx (undef), Fx (undef), Fx (undef), Fx (undef), Fx (undef), Fx (undef), Fx ((.bool true))] Kept rfl rfl rfl rfl (drewKept _) keptT (mcons mfx (mcons mfx (mcons mfx (mcons mfx (mcons mfx (mcons mfx (mcons mfx (mcons mfx (mcons mfx (mcons mfx (mcons mfx (mcons mfx (mcons mfx (mcons mfx (mcons mfx mnil))))))))))))))) ⟨?_, ?_, ?_, ?_, ?_, ?_, ?_, ?_, ?_, ?_, ?_, ?_, ?_, ?_, ?_, trivial⟩ ?_
        ·
         intro L a w_ hH hb hR hd ho
         have hl14 := hb 14 _ rfl
         refine mv hH hl14 rfl fun a880 h880 => ?_
         exact wpL_nil ⟨_, h880, Kept.refl _, rfl⟩
        ·
         intro L a w_ hH hb hR hd ho
         obtain ⟨_, hl124, rfl⟩ := hd 0 rfl
         refine unot hH hl124 rfl fun a881 h881 => ?_
         exact wpL_nil ⟨_, h881, Kept.refl _, rfl⟩
        ·
         intro L a w_ hH hb hR hd ho
         obtain ⟨_, hl125, rfl⟩ := hd 1 rfl
         refine mv hH hl125 rfl fun a882 h882 => ?_
         exact wpL_nil ⟨_, h882, Kept.refl _, rfl⟩
        ·
         intro L a w_ hH hb hR hd ho
         have hl13 := hb 13 _ rfl
         obtain ⟨_, hl126, rfl⟩ := hd 2 rfl
         refine goff hH rfl hl126 (bnf rfl) rfl fun a883 h883 => ?_
         exact wpL_nil ⟨_, h883, Kept.refl _, rfl⟩
        ·
         intro L a w_ hH hb hR hd ho
         have hl11 := hb 11 _ rfl
         obtain ⟨_, hl126, rfl⟩ := hd 2 rfl
         refine goff hH rfl hl126 (bnf rfl) rfl fun a884 h884 => ?_
         exact wpL_nil ⟨_, h884, Kept.refl _, rfl⟩
        ·
         intro L a w_ hH hb hR hd ho
         obtain ⟨_, hl128, rfl⟩ := hd 4 rfl
         obtain ⟨_, hl126, rfl⟩ := hd 2 rfl
         refine goff hH rfl hl126 (bnf rfl) rfl fun a885 h885 => ?_
         exact wpL_nil ⟨_, h885, Kept.refl _, rfl⟩
        ·
         intro L a w_ hH hb hR hd ho
         have hl11 := hb 11 _ rfl
         obtain ⟨_, hl126, rfl⟩ := hd 2 rfl
         refine goff hH rfl hl126 (bnf rfl) rfl fun a886 h886 => ?_
         exact wpL_nil ⟨_, h886, Kept.refl _, rfl⟩
        ·
         intro L a w_ hH hb hR hd ho
         obtain ⟨_, hl130, rfl⟩ := hd 6 rfl
         obtain ⟨_, hl126, rfl⟩ := hd 2 rfl
         refine goff hH rfl hl126 (bnf rfl) rfl fun a887 h887 => ?_
         exact wpL_nil ⟨_, h887, Kept.refl _, rfl⟩
        ·
         intro L a w_ hH hb hR hd ho
         obtain ⟨_, hl127, rfl⟩ := hd 3 rfl
         obtain ⟨_, hl129, rfl⟩ := hd 5 rfl
         obtain ⟨_, hl131, rfl⟩ := hd 7 rfl
         obtain ⟨_, hl126, rfl⟩ := hd 2 rfl
         refine goff hH rfl hl126 (bnf rfl) rfl fun a888 h888 => ?_
         exact wpL_nil ⟨_, h888, Kept.refl _, rfl⟩
        ·
         intro L a w_ hH hb hR hd ho
         have hl1 := hb 1 _ rfl
         obtain ⟨_, hl126, rfl⟩ := hd 2 rfl
         refine goff hH rfl hl126 (bnf rfl) rfl fun a889 h889 => ?_
         exact wpL_nil ⟨_, h889, Kept.refl _, rfl⟩
        ·
         intro L a w_ hH hb hR hd ho
         have hl9 := hb 9 _ rfl
         obtain ⟨_, hl126, rfl⟩ := hd 2 rfl
         refine goff hH rfl hl126 (bnf rfl) rfl fun a890 h890 => ?_
         exact wpL_nil ⟨_, h890, Kept.refl _, rfl⟩
        ·
         intro L a w_ hH hb hR hd ho
         obtain ⟨_, hl133, rfl⟩ := hd 9 rfl
         obtain ⟨_, hl134, rfl⟩ := hd 10 rfl
         obtain ⟨_, hl126, rfl⟩ := hd 2 rfl
         refine goff hH rfl hl126 (bnf rfl) rfl fun a891 h891 => ?_
         exact wpL_nil ⟨_, h891, Kept.refl _, rfl⟩
        ·
         intro L a w_ hH hb hR hd ho
         obtain ⟨_, hl132, rfl⟩ := hd 8 rfl
         obtain ⟨_, hl135, rfl⟩ := hd 11 rfl
         obtain ⟨_, hl126, rfl⟩ := hd 2 rfl
         refine goff hH rfl hl126 (bnf rfl) rfl fun a892 h892 => ?_
         exact wpL_nil ⟨_, h892, Kept.refl _, rfl⟩
        ·
         intro L a w_ hH hb hR hd ho
         obtain ⟨_, hl136, rfl⟩ := hd 12 rfl
         obtain ⟨_, hl126, rfl⟩ := hd 2 rfl
         refine goff hH rfl hl126 (bnf rfl) rfl fun a893 h893 => ?_
         exact wpL_nil ⟨_, h893, Kept.refl _, rfl⟩
        ·
         intro L a w_ hH hb hR hd ho
         obtain ⟨_, hl126, rfl⟩ := hd 2 rfl
         obtain ⟨_, hl137, rfl⟩ := hd 13 rfl
         refine pkt hH hl126 (bnf rfl) rfl rfl fun a894 h894 => ?_
         exact wpL_nil ⟨_, h894, Kept.refl _, rfl⟩
        intro L93 a895 w93 h895 hbh895 hRh895 hdh895
        obtain ⟨_, hl124, rfl⟩ := hdh895 0 (by decide)
        obtain ⟨_, hl125, rfl⟩ := hdh895 1 (by decide)
        obtain ⟨_, hl126, rfl⟩ := hdh895 2 (by decide)
        obtain ⟨_, hl127, rfl⟩ := hdh895 3 (by decide)
        obtain ⟨_, hl128, rfl⟩ := hdh895 4 (by decide)
        obtain ⟨_, hl129, rfl⟩ := hdh895 5 (by decide)
        obtain ⟨_, hl130, rfl⟩ := hdh895 6 (by decide)
        obtain ⟨_, hl131, rfl⟩ := hdh895 7 (by decide)
        obtain ⟨_, hl132, rfl⟩ := hdh895 8 (by decide)
        obtain ⟨_, hl133, rfl⟩ := hdh895 9 (by decide)
        obtain ⟨_, hl134, rfl⟩ := hdh895 10 (by decide)
        obtain ⟨_, hl135, rfl⟩ := hdh895 11 (by decide)
        obtain ⟨_, hl136, rfl⟩ := hdh895 12 (by decide)
        obtain ⟨_, hl137, rfl⟩ := hdh895 13 (by decide)
        obtain ⟨_, hl138, rfl⟩ := hdh895 14 (by decide)
        have h896 := Has.under h895 hbh895
        have h897 := (h895.add hl138 (h895.add hl137 (h895.add hl136 (h895.add hl135 (h895.add hl134 (h895.add hl133 (h895.add hl132 (h895.add hl131 (h895.add hl130 (h895.add hl129 (h895.add hl128 (h895.add hl127 (h895.add hl126 (h895.add hl125 (h895.add hl124 h896)))))))))))))))
        clear h896 hl124 hl125 hl126 hl127 hl128 hl129 hl130 hl131 hl132 hl133 hl134 hl135 hl136 hl137 hl138 hbh895 hdh895
        replace hB := Kept.trans hB hRh895
        replace hv := hv.kept hRh895
        replace hg2 := hg2.kept hRh895
        refine hK74 _ _ ?_
        refine cdt h897 rfl rfl ?_
        refine sq fun K75 hK75 => ?_
        refine reg [some 139, some 140, some 141, some 142, some 143, some 144, some 145, none, some 3, some 4, some 5, some 6] rfl ?_
        refine mv h897 rfl rfl fun a898 h898 => ?_
        refine clv h898 rfl Try.call105 rfl _ rfl (c_cno _) rfl ?_
        rintro v94 w94 a899 ⟨rfl, hk94⟩ h899
        replace hB := Kept.trans hB hk94
        replace hv := hv.kept hk94
        replace hg2 := hg2.kept hk94
        refine ext5_0 h899 rfl rfl fun a900 h900 => ?_
        refine ext5_1 h900 rfl rfl fun a901 h901 => ?_
        refine ext5_2 h901 rfl rfl fun a902 h902 => ?_
        refine ext5_3 h902 rfl rfl fun a903 h903 => ?_
        refine ext5_4 h903 rfl rfl fun a904 h904 => ?_
        refine stb h904 hg2 rfl rfl _ rfl Try.sizeOf32 (by first | exact hd_one _ | exact nd_one _ | exact nd_one Pl.Nd.none | (simp [Value.oneCell']; done)) _ (by first | (simp [hdCells]; done) | (simp [ndCells]; done) | simp) rfl fun w95 hg2' hk95 => ?_
        replace hB := Kept.but hB hk95 (by omega)
        replace hv := hv.but hk95 (by intro hs; have := hs.2; omega)
        clear hg2; have hg2 := hg2'; clear hg2'
        refine asg h904 rfl rfl fun a905 h905 => ?_
        refine asg h905 rfl rfl fun a906 h906 => ?_
        refine asg h906 rfl rfl fun a907 h907 => ?_
        refine asg h907 rfl rfl fun a908 h908 => ?_
        clear hK74 h897 h898 h899 h900 h901 h902 h903 h904 h905 h906 h907 K74 a898 a899 a900 a901 a902 a903 a904 a905 a906 a907
        refine wpL_nil (hK75 _ _ ?_)
        refine rtn (leave h908 (res5 h908 rfl (rva (ndCells Pl.Nd.none) hg2 rfl Try.isAgg32 Try.sizeOf32 rfl) (rvt rfl) (rvt rfl) (rvt rfl) (rvt rfl)) ?_)
        first | exact ⟨_, rfl, by rw [Pl.cg_no1 hno0]; rfl, hB⟩ | exact ⟨_, rfl, by rw [Pl.cg_b1 hok0 ht76 (by omega)]; rfl, hB⟩ | exact ⟨_, rfl, by rw [Pl.cg_b2 hok0 ht76 hbb1 (by rw [hq10]; omega)]; rfl, hB⟩ | exact ⟨_, rfl, by rw [Pl.cg_b3 hok0 ht76 hbb1 hnc hno2]; rfl, hB⟩ | exact ⟨_, rfl, by rw [hcg, Pl.ce_no (fun e => by have hq9 := congrArg UInt8.toNat e; simp at hq9; omega)]; rfl, hB⟩ | exact ⟨_, rfl, by rw [hce, if_neg (by rintro ⟨h1, -⟩; rw [Pl.contOk_eq] at h1; simp only [hb1, hb2, (bunf hb762), hb763, hb764, hb765, hb766, hb767, Bool.true_and, Bool.false_and, Bool.false_eq_true] at h1; done)]; rfl, hB⟩
      ·
       have hp766 := of_decide_eq_false hb766
       refine goff h789 (d := 111) rfl rfl hb766 rfl fun a909 h909 => ?_
       refine goff h909 (d := 111) rfl rfl hb766 rfl fun a910 h910 => ?_
       refine goff h910 (d := 111) rfl rfl hb766 rfl fun a911 h911 => ?_
       refine goff h911 (d := 111) rfl rfl hb766 rfl fun a912 h912 => ?_
       refine goff h912 (d := 111) rfl rfl hb766 rfl fun a913 h913 => ?_
       refine pkf h913 rfl hb766 rfl rfl fun a914 h914 => ?_
       refine mv h914 rfl rfl fun a915 h915 => ?_
       refine goff h915 (d := 118) rfl rfl rfl rfl fun a916 h916 => ?_
       refine goff h916 (d := 118) rfl rfl rfl rfl fun a917 h917 => ?_
       refine goff h917 (d := 118) rfl rfl rfl rfl fun a918 h918 => ?_
       refine goff h918 (d := 118) rfl rfl rfl rfl fun a919 h919 => ?_
       refine pkf h919 rfl rfl rfl rfl fun a920 h920 => ?_
       refine asg h920 rfl rfl fun a921 h921 => ?_
       clear hK66 h777 h778 h779 h780 h781 h782 h783 h784 h785 h786 h787 h788 h789 h909 h910 h911 h912 h913 h914 h915 h916 h917 h918 h919 h920 K66 a777 a778 a779 a780 a781 a782 a783 a784 a785 a786 a787 a788 a789 a909 a910 a911 a912 a913 a914 a915 a916 a917 a918 a919 a920
       refine wpL_nil (hK67 _ _ ?_)
       refine sq fun K76 hK76 => ?_
       refine sq fun K77 hK77 => ?_
       clear hK67 K67
       refine drw h921 [some 124, some 125, some 126, some 127, some 128, some 129, some 130, some 131, some 132, some 133, some 134, some 135, some 136, some 137, some 138] rfl [Fx (.bool false), Fx (.bool (!false)), Fx (.bool (!false)), Fx (undef), Fx (undef), Fx (undef), Fx (undef), Fx (undef), Fx (undef), Fx (undef), Fx (undef), Fx (undef), Fx (undef), Fx (undef), Fx ((.bool true))] Kept rfl rfl rfl rfl (drewKept _) keptT (mcons mfx (mcons mfx (mcons mfx (mcons mfx (mcons mfx (mcons mfx (mcons mfx (mcons mfx (mcons mfx (mcons mfx (mcons mfx (mcons mfx (mcons mfx (mcons mfx (mcons mfx mnil))))))))))))))) ⟨?_, ?_, ?_, ?_, ?_, ?_, ?_, ?_, ?_, ?_, ?_, ?_, ?_, ?_, ?_, trivial⟩ ?_
       ·
        intro L a w_ hH hb hR hd ho
        have hl14 := hb 14 _ rfl
        refine mv hH hl14 rfl fun a922 h922 => ?_
        exact wpL_nil ⟨_, h922, Kept.refl _, rfl⟩
       ·
        intro L a w_ hH hb hR hd ho
        obtain ⟨_, hl124, rfl⟩ := hd 0 rfl
        refine unot hH hl124 rfl fun a923 h923 => ?_
        exact wpL_nil ⟨_, h923, Kept.refl _, rfl⟩
       ·
        intro L a w_ hH hb hR hd ho
        obtain ⟨_, hl125, rfl⟩ := hd 1 rfl
        refine mv hH hl125 rfl fun a924 h924 => ?_
        exact wpL_nil ⟨_, h924, Kept.refl _, rfl⟩
       ·
        intro L a w_ hH hb hR hd ho
        have hl13 := hb 13 _ rfl
        obtain ⟨_, hl126, rfl⟩ := hd 2 rfl
        refine goff hH rfl hl126 (bnf rfl) rfl fun a925 h925 => ?_
        exact wpL_nil ⟨_, h925, Kept.refl _, rfl⟩
       ·
        intro L a w_ hH hb hR hd ho
        have hl11 := hb 11 _ rfl
        obtain ⟨_, hl126, rfl⟩ := hd 2 rfl
        refine goff hH rfl hl126 (bnf rfl) rfl fun a926 h926 => ?_
        exact wpL_nil ⟨_, h926, Kept.refl _, rfl⟩
       ·
        intro L a w_ hH hb hR hd ho
        obtain ⟨_, hl128, rfl⟩ := hd 4 rfl
        obtain ⟨_, hl126, rfl⟩ := hd 2 rfl
        refine goff hH rfl hl126 (bnf rfl) rfl fun a927 h927 => ?_
        exact wpL_nil ⟨_, h927, Kept.refl _, rfl⟩
       ·
        intro L a w_ hH hb hR hd ho
        have hl11 := hb 11 _ rfl
        obtain ⟨_, hl126, rfl⟩ := hd 2 rfl
        refine goff hH rfl hl126 (bnf rfl) rfl fun a928 h928 => ?_
        exact wpL_nil ⟨_, h928, Kept.refl _, rfl⟩
       ·
        intro L a w_ hH hb hR hd ho
        obtain ⟨_, hl130, rfl⟩ := hd 6 rfl
        obtain ⟨_, hl126, rfl⟩ := hd 2 rfl
        refine goff hH rfl hl126 (bnf rfl) rfl fun a929 h929 => ?_
        exact wpL_nil ⟨_, h929, Kept.refl _, rfl⟩
       ·
        intro L a w_ hH hb hR hd ho
        obtain ⟨_, hl127, rfl⟩ := hd 3 rfl
        obtain ⟨_, hl129, rfl⟩ := hd 5 rfl
        obtain ⟨_, hl131, rfl⟩ := hd 7 rfl
        obtain ⟨_, hl126, rfl⟩ := hd 2 rfl
        refine goff hH rfl hl126 (bnf rfl) rfl fun a930 h930 => ?_
        exact wpL_nil ⟨_, h930, Kept.refl _, rfl⟩
       ·
        intro L a w_ hH hb hR hd ho
        have hl1 := hb 1 _ rfl
        obtain ⟨_, hl126, rfl⟩ := hd 2 rfl
        refine goff hH rfl hl126 (bnf rfl) rfl fun a931 h931 => ?_
        exact wpL_nil ⟨_, h931, Kept.refl _, rfl⟩
       ·
        intro L a w_ hH hb hR hd ho
        have hl9 := hb 9 _ rfl
        obtain ⟨_, hl126, rfl⟩ := hd 2 rfl
        refine goff hH rfl hl126 (bnf rfl) rfl fun a932 h932 => ?_
        exact wpL_nil ⟨_, h932, Kept.refl _, rfl⟩
       ·
        intro L a w_ hH hb hR hd ho
        obtain ⟨_, hl133, rfl⟩ := hd 9 rfl
        obtain ⟨_, hl134, rfl⟩ := hd 10 rfl
        obtain ⟨_, hl126, rfl⟩ := hd 2 rfl
        refine goff hH rfl hl126 (bnf rfl) rfl fun a933 h933 => ?_
        exact wpL_nil ⟨_, h933, Kept.refl _, rfl⟩
       ·
        intro L a w_ hH hb hR hd ho
        obtain ⟨_, hl132, rfl⟩ := hd 8 rfl
        obtain ⟨_, hl135, rfl⟩ := hd 11 rfl
        obtain ⟨_, hl126, rfl⟩ := hd 2 rfl
        refine goff hH rfl hl126 (bnf rfl) rfl fun a934 h934 => ?_
        exact wpL_nil ⟨_, h934, Kept.refl _, rfl⟩
       ·
        intro L a w_ hH hb hR hd ho
        obtain ⟨_, hl136, rfl⟩ := hd 12 rfl
        obtain ⟨_, hl126, rfl⟩ := hd 2 rfl
        refine goff hH rfl hl126 (bnf rfl) rfl fun a935 h935 => ?_
        exact wpL_nil ⟨_, h935, Kept.refl _, rfl⟩
       ·
        intro L a w_ hH hb hR hd ho
        obtain ⟨_, hl126, rfl⟩ := hd 2 rfl
        obtain ⟨_, hl137, rfl⟩ := hd 13 rfl
        refine pkt hH hl126 (bnf rfl) rfl rfl fun a936 h936 => ?_
        exact wpL_nil ⟨_, h936, Kept.refl _, rfl⟩
       intro L96 a937 w96 h937 hbh937 hRh937 hdh937
       obtain ⟨_, hl124, rfl⟩ := hdh937 0 (by decide)
       obtain ⟨_, hl125, rfl⟩ := hdh937 1 (by decide)
       obtain ⟨_, hl126, rfl⟩ := hdh937 2 (by decide)
       obtain ⟨_, hl127, rfl⟩ := hdh937 3 (by decide)
       obtain ⟨_, hl128, rfl⟩ := hdh937 4 (by decide)
       obtain ⟨_, hl129, rfl⟩ := hdh937 5 (by decide)
       obtain ⟨_, hl130, rfl⟩ := hdh937 6 (by decide)
       obtain ⟨_, hl131, rfl⟩ := hdh937 7 (by decide)
       obtain ⟨_, hl132, rfl⟩ := hdh937 8 (by decide)
       obtain ⟨_, hl133, rfl⟩ := hdh937 9 (by decide)
       obtain ⟨_, hl134, rfl⟩ := hdh937 10 (by decide)
       obtain ⟨_, hl135, rfl⟩ := hdh937 11 (by decide)
       obtain ⟨_, hl136, rfl⟩ := hdh937 12 (by decide)
       obtain ⟨_, hl137, rfl⟩ := hdh937 13 (by decide)
       obtain ⟨_, hl138, rfl⟩ := hdh937 14 (by decide)
       have h938 := Has.under h937 hbh937
       have h939 := (h937.add hl138 (h937.add hl137 (h937.add hl136 (h937.add hl135 (h937.add hl134 (h937.add hl133 (h937.add hl132 (h937.add hl131 (h937.add hl130 (h937.add hl129 (h937.add hl128 (h937.add hl127 (h937.add hl126 (h937.add hl125 (h937.add hl124 h938)))))))))))))))
       clear h938 hl124 hl125 hl126 hl127 hl128 hl129 hl130 hl131 hl132 hl133 hl134 hl135 hl136 hl137 hl138 hbh937 hdh937
       replace hB := Kept.trans hB hRh937
       replace hv := hv.kept hRh937
       replace hg2 := hg2.kept hRh937
       refine hK77 _ _ ?_
       refine cdt h939 rfl rfl ?_
       refine sq fun K78 hK78 => ?_
       refine reg [some 139, some 140, some 141, some 142, some 143, some 144, some 145, none, some 3, some 4, some 5, some 6] rfl ?_
       refine mv h939 rfl rfl fun a940 h940 => ?_
       refine clv h940 rfl Try.call105 rfl _ rfl (c_cno _) rfl ?_
       rintro v97 w97 a941 ⟨rfl, hk97⟩ h941
       replace hB := Kept.trans hB hk97
       replace hv := hv.kept hk97
       replace hg2 := hg2.kept hk97
       refine ext5_0 h941 rfl rfl fun a942 h942 => ?_
       refine ext5_1 h942 rfl rfl fun a943 h943 => ?_
       refine ext5_2 h943 rfl rfl fun a944 h944 => ?_
       refine ext5_3 h944 rfl rfl fun a945 h945 => ?_
       refine ext5_4 h945 rfl rfl fun a946 h946 => ?_
       refine stb h946 hg2 rfl rfl _ rfl Try.sizeOf32 (by first | exact hd_one _ | exact nd_one _ | exact nd_one Pl.Nd.none | (simp [Value.oneCell']; done)) _ (by first | (simp [hdCells]; done) | (simp [ndCells]; done) | simp) rfl fun w98 hg2' hk98 => ?_
       replace hB := Kept.but hB hk98 (by omega)
       replace hv := hv.but hk98 (by intro hs; have := hs.2; omega)
       clear hg2; have hg2 := hg2'; clear hg2'
       refine asg h946 rfl rfl fun a947 h947 => ?_
       refine asg h947 rfl rfl fun a948 h948 => ?_
       refine asg h948 rfl rfl fun a949 h949 => ?_
       refine asg h949 rfl rfl fun a950 h950 => ?_
       clear hK77 h939 h940 h941 h942 h943 h944 h945 h946 h947 h948 h949 K77 a940 a941 a942 a943 a944 a945 a946 a947 a948 a949
       refine wpL_nil (hK78 _ _ ?_)
       refine rtn (leave h950 (res5 h950 rfl (rva (ndCells Pl.Nd.none) hg2 rfl Try.isAgg32 Try.sizeOf32 rfl) (rvt rfl) (rvt rfl) (rvt rfl) (rvt rfl)) ?_)
       first | exact ⟨_, rfl, by rw [Pl.cg_no1 hno0]; rfl, hB⟩ | exact ⟨_, rfl, by rw [Pl.cg_b1 hok0 ht76 (by omega)]; rfl, hB⟩ | exact ⟨_, rfl, by rw [Pl.cg_b2 hok0 ht76 hbb1 (by rw [hq10]; omega)]; rfl, hB⟩ | exact ⟨_, rfl, by rw [Pl.cg_b3 hok0 ht76 hbb1 hnc hno2]; rfl, hB⟩ | exact ⟨_, rfl, by rw [hcg, Pl.ce_no (fun e => by have hq9 := congrArg UInt8.toNat e; simp at hq9; omega)]; rfl, hB⟩ | exact ⟨_, rfl, by rw [hce, if_neg (by rintro ⟨h1, -⟩; rw [Pl.contOk_eq] at h1; simp only [hb1, hb2, (bunf hb762), hb763, hb764, hb765, hb766, Bool.true_and, Bool.false_and, Bool.false_eq_true] at h1; done)]; rfl, hB⟩
     ·
      refine goff h784 (d := 106) rfl rfl hb765 rfl fun a951 h951 => ?_
      refine goff h951 (d := 106) rfl rfl hb765 rfl fun a952 h952 => ?_
      refine goff h952 (d := 106) rfl rfl hb765 rfl fun a953 h953 => ?_
      refine pkf h953 rfl hb765 rfl rfl fun a954 h954 => ?_
      refine mv h954 rfl rfl fun a955 h955 => ?_
      refine goff h955 (d := 111) rfl rfl rfl rfl fun a956 h956 => ?_
      refine goff h956 (d := 111) rfl rfl rfl rfl fun a957 h957 => ?_
      refine goff h957 (d := 111) rfl rfl rfl rfl fun a958 h958 => ?_
      refine goff h958 (d := 111) rfl rfl rfl rfl fun a959 h959 => ?_
      refine goff h959 (d := 111) rfl rfl rfl rfl fun a960 h960 => ?_
      refine pkf h960 rfl rfl rfl rfl fun a961 h961 => ?_
      refine mv h961 rfl rfl fun a962 h962 => ?_
      refine goff h962 (d := 118) rfl rfl rfl rfl fun a963 h963 => ?_
      refine goff h963 (d := 118) rfl rfl rfl rfl fun a964 h964 => ?_
      refine goff h964 (d := 118) rfl rfl rfl rfl fun a965 h965 => ?_
      refine goff h965 (d := 118) rfl rfl rfl rfl fun a966 h966 => ?_
      refine pkf h966 rfl rfl rfl rfl fun a967 h967 => ?_
      refine asg h967 rfl rfl fun a968 h968 => ?_
      clear hK66 h777 h778 h779 h780 h781 h782 h783 h784 h951 h952 h953 h954 h955 h956 h957 h958 h959 h960 h961 h962 h963 h964 h965 h966 h967 K66 a777 a778 a779 a780 a781 a782 a783 a784 a951 a952 a953 a954 a955 a956 a957 a958 a959 a960 a961 a962 a963 a964 a965 a966 a967
      refine wpL_nil (hK67 _ _ ?_)
      refine sq fun K79 hK79 => ?_
      refine sq fun K80 hK80 => ?_
      clear hK67 K67
      refine drw h968 [some 124, some 125, some 126, some 127, some 128, some 129, some 130, some 131, some 132, some 133, some 134, some 135, some 136, some 137, some 138] rfl [Fx (.bool false), Fx (.bool (!false)), Fx (.bool (!false)), Fx (undef), Fx (undef), Fx (undef), Fx (undef), Fx (undef), Fx (undef), Fx (undef), Fx (undef), Fx (undef), Fx (undef), Fx (undef), Fx ((.bool true))] Kept rfl rfl rfl rfl (drewKept _) keptT (mcons mfx (mcons mfx (mcons mfx (mcons mfx (mcons mfx (mcons mfx (mcons mfx (mcons mfx (mcons mfx (mcons mfx (mcons mfx (mcons mfx (mcons mfx (mcons mfx (mcons mfx mnil))))))))))))))) ⟨?_, ?_, ?_, ?_, ?_, ?_, ?_, ?_, ?_, ?_, ?_, ?_, ?_, ?_, ?_, trivial⟩ ?_
      ·
       intro L a w_ hH hb hR hd ho
       have hl14 := hb 14 _ rfl
       refine mv hH hl14 rfl fun a969 h969 => ?_
       exact wpL_nil ⟨_, h969, Kept.refl _, rfl⟩
      ·
       intro L a w_ hH hb hR hd ho
       obtain ⟨_, hl124, rfl⟩ := hd 0 rfl
       refine unot hH hl124 rfl fun a970 h970 => ?_
       exact wpL_nil ⟨_, h970, Kept.refl _, rfl⟩
      ·
       intro L a w_ hH hb hR hd ho
       obtain ⟨_, hl125, rfl⟩ := hd 1 rfl
       refine mv hH hl125 rfl fun a971 h971 => ?_
       exact wpL_nil ⟨_, h971, Kept.refl _, rfl⟩
      ·
       intro L a w_ hH hb hR hd ho
       have hl13 := hb 13 _ rfl
       obtain ⟨_, hl126, rfl⟩ := hd 2 rfl
       refine goff hH rfl hl126 (bnf rfl) rfl fun a972 h972 => ?_
       exact wpL_nil ⟨_, h972, Kept.refl _, rfl⟩
      ·
       intro L a w_ hH hb hR hd ho
       have hl11 := hb 11 _ rfl
       obtain ⟨_, hl126, rfl⟩ := hd 2 rfl
       refine goff hH rfl hl126 (bnf rfl) rfl fun a973 h973 => ?_
       exact wpL_nil ⟨_, h973, Kept.refl _, rfl⟩
      ·
       intro L a w_ hH hb hR hd ho
       obtain ⟨_, hl128, rfl⟩ := hd 4 rfl
       obtain ⟨_, hl126, rfl⟩ := hd 2 rfl
       refine goff hH rfl hl126 (bnf rfl) rfl fun a974 h974 => ?_
       exact wpL_nil ⟨_, h974, Kept.refl _, rfl⟩
      ·
       intro L a w_ hH hb hR hd ho
       have hl11 := hb 11 _ rfl
       obtain ⟨_, hl126, rfl⟩ := hd 2 rfl
       refine goff hH rfl hl126 (bnf rfl) rfl fun a975 h975 => ?_
       exact wpL_nil ⟨_, h975, Kept.refl _, rfl⟩
      ·
       intro L a w_ hH hb hR hd ho
       obtain ⟨_, hl130, rfl⟩ := hd 6 rfl
       obtain ⟨_, hl126, rfl⟩ := hd 2 rfl
       refine goff hH rfl hl126 (bnf rfl) rfl fun a976 h976 => ?_
       exact wpL_nil ⟨_, h976, Kept.refl _, rfl⟩
      ·
       intro L a w_ hH hb hR hd ho
       obtain ⟨_, hl127, rfl⟩ := hd 3 rfl
       obtain ⟨_, hl129, rfl⟩ := hd 5 rfl
       obtain ⟨_, hl131, rfl⟩ := hd 7 rfl
       obtain ⟨_, hl126, rfl⟩ := hd 2 rfl
       refine goff hH rfl hl126 (bnf rfl) rfl fun a977 h977 => ?_
       exact wpL_nil ⟨_, h977, Kept.refl _, rfl⟩
      ·
       intro L a w_ hH hb hR hd ho
       have hl1 := hb 1 _ rfl
       obtain ⟨_, hl126, rfl⟩ := hd 2 rfl
       refine goff hH rfl hl126 (bnf rfl) rfl fun a978 h978 => ?_
       exact wpL_nil ⟨_, h978, Kept.refl _, rfl⟩
      ·
       intro L a w_ hH hb hR hd ho
       have hl9 := hb 9 _ rfl
       obtain ⟨_, hl126, rfl⟩ := hd 2 rfl
       refine goff hH rfl hl126 (bnf rfl) rfl fun a979 h979 => ?_
       exact wpL_nil ⟨_, h979, Kept.refl _, rfl⟩
      ·
       intro L a w_ hH hb hR hd ho
       obtain ⟨_, hl133, rfl⟩ := hd 9 rfl
       obtain ⟨_, hl134, rfl⟩ := hd 10 rfl
       obtain ⟨_, hl126, rfl⟩ := hd 2 rfl
       refine goff hH rfl hl126 (bnf rfl) rfl fun a980 h980 => ?_
       exact wpL_nil ⟨_, h980, Kept.refl _, rfl⟩
      ·
       intro L a w_ hH hb hR hd ho
       obtain ⟨_, hl132, rfl⟩ := hd 8 rfl
       obtain ⟨_, hl135, rfl⟩ := hd 11 rfl
       obtain ⟨_, hl126, rfl⟩ := hd 2 rfl
       refine goff hH rfl hl126 (bnf rfl) rfl fun a981 h981 => ?_
       exact wpL_nil ⟨_, h981, Kept.refl _, rfl⟩
      ·
       intro L a w_ hH hb hR hd ho
       obtain ⟨_, hl136, rfl⟩ := hd 12 rfl
       obtain ⟨_, hl126, rfl⟩ := hd 2 rfl
       refine goff hH rfl hl126 (bnf rfl) rfl fun a982 h982 => ?_
       exact wpL_nil ⟨_, h982, Kept.refl _, rfl⟩
      ·
       intro L a w_ hH hb hR hd ho
       obtain ⟨_, hl126, rfl⟩ := hd 2 rfl
       obtain ⟨_, hl137, rfl⟩ := hd 13 rfl
       refine pkt hH hl126 (bnf rfl) rfl rfl fun a983 h983 => ?_
       exact wpL_nil ⟨_, h983, Kept.refl _, rfl⟩
      intro L99 a984 w99 h984 hbh984 hRh984 hdh984
      obtain ⟨_, hl124, rfl⟩ := hdh984 0 (by decide)
      obtain ⟨_, hl125, rfl⟩ := hdh984 1 (by decide)
      obtain ⟨_, hl126, rfl⟩ := hdh984 2 (by decide)
      obtain ⟨_, hl127, rfl⟩ := hdh984 3 (by decide)
      obtain ⟨_, hl128, rfl⟩ := hdh984 4 (by decide)
      obtain ⟨_, hl129, rfl⟩ := hdh984 5 (by decide)
      obtain ⟨_, hl130, rfl⟩ := hdh984 6 (by decide)
      obtain ⟨_, hl131, rfl⟩ := hdh984 7 (by decide)
      obtain ⟨_, hl132, rfl⟩ := hdh984 8 (by decide)
      obtain ⟨_, hl133, rfl⟩ := hdh984 9 (by decide)
      obtain ⟨_, hl134, rfl⟩ := hdh984 10 (by decide)
      obtain ⟨_, hl135, rfl⟩ := hdh984 11 (by decide)
      obtain ⟨_, hl136, rfl⟩ := hdh984 12 (by decide)
      obtain ⟨_, hl137, rfl⟩ := hdh984 13 (by decide)
      obtain ⟨_, hl138, rfl⟩ := hdh984 14 (by decide)
      have h985 := Has.under h984 hbh984
      have h986 := (h984.add hl138 (h984.add hl137 (h984.add hl136 (h984.add hl135 (h984.add hl134 (h984.add hl133 (h984.add hl132 (h984.add hl131 (h984.add hl130 (h984.add hl129 (h984.add hl128 (h984.add hl127 (h984.add hl126 (h984.add hl125 (h984.add hl124 h985)))))))))))))))
      clear h985 hl124 hl125 hl126 hl127 hl128 hl129 hl130 hl131 hl132 hl133 hl134 hl135 hl136 hl137 hl138 hbh984 hdh984
      replace hB := Kept.trans hB hRh984
      replace hv := hv.kept hRh984
      replace hg2 := hg2.kept hRh984
      refine hK80 _ _ ?_
      refine cdt h986 rfl rfl ?_
      refine sq fun K81 hK81 => ?_
      refine reg [some 139, some 140, some 141, some 142, some 143, some 144, some 145, none, some 3, some 4, some 5, some 6] rfl ?_
      refine mv h986 rfl rfl fun a987 h987 => ?_
      refine clv h987 rfl Try.call105 rfl _ rfl (c_cno _) rfl ?_
      rintro v100 w100 a988 ⟨rfl, hk100⟩ h988
      replace hB := Kept.trans hB hk100
      replace hv := hv.kept hk100
      replace hg2 := hg2.kept hk100
      refine ext5_0 h988 rfl rfl fun a989 h989 => ?_
      refine ext5_1 h989 rfl rfl fun a990 h990 => ?_
      refine ext5_2 h990 rfl rfl fun a991 h991 => ?_
      refine ext5_3 h991 rfl rfl fun a992 h992 => ?_
      refine ext5_4 h992 rfl rfl fun a993 h993 => ?_
      refine stb h993 hg2 rfl rfl _ rfl Try.sizeOf32 (by first | exact hd_one _ | exact nd_one _ | exact nd_one Pl.Nd.none | (simp [Value.oneCell']; done)) _ (by first | (simp [hdCells]; done) | (simp [ndCells]; done) | simp) rfl fun w101 hg2' hk101 => ?_
      replace hB := Kept.but hB hk101 (by omega)
      replace hv := hv.but hk101 (by intro hs; have := hs.2; omega)
      clear hg2; have hg2 := hg2'; clear hg2'
      refine asg h993 rfl rfl fun a994 h994 => ?_
      refine asg h994 rfl rfl fun a995 h995 => ?_
      refine asg h995 rfl rfl fun a996 h996 => ?_
      refine asg h996 rfl rfl fun a997 h997 => ?_
      clear hK80 h986 h987 h988 h989 h990 h991 h992 h993 h994 h995 h996 K80 a987 a988 a989 a990 a991 a992 a993 a994 a995 a996
      refine wpL_nil (hK81 _ _ ?_)
      refine rtn (leave h997 (res5 h997 rfl (rva (ndCells Pl.Nd.none) hg2 rfl Try.isAgg32 Try.sizeOf32 rfl) (rvt rfl) (rvt rfl) (rvt rfl) (rvt rfl)) ?_)
      first | exact ⟨_, rfl, by rw [Pl.cg_no1 hno0]; rfl, hB⟩ | exact ⟨_, rfl, by rw [Pl.cg_b1 hok0 ht76 (by omega)]; rfl, hB⟩ | exact ⟨_, rfl, by rw [Pl.cg_b2 hok0 ht76 hbb1 (by rw [hq10]; omega)]; rfl, hB⟩ | exact ⟨_, rfl, by rw [Pl.cg_b3 hok0 ht76 hbb1 hnc hno2]; rfl, hB⟩ | exact ⟨_, rfl, by rw [hcg, Pl.ce_no (fun e => by have hq9 := congrArg UInt8.toNat e; simp at hq9; omega)]; rfl, hB⟩ | exact ⟨_, rfl, by rw [hce, if_neg (by rintro ⟨h1, -⟩; rw [Pl.contOk_eq] at h1; simp only [hb1, hb2, (bunf hb762), hb763, hb764, hb765, Bool.true_and, Bool.false_and, Bool.false_eq_true] at h1; done)]; rfl, hB⟩
    ·
     refine goff h780 (d := 102) rfl rfl hb764 rfl fun a998 h998 => ?_
     refine goff h998 (d := 102) rfl rfl hb764 rfl fun a999 h999 => ?_
     refine pkf h999 rfl hb764 rfl rfl fun a1000 h1000 => ?_
     refine mv h1000 rfl rfl fun a1001 h1001 => ?_
     refine goff h1001 (d := 106) rfl rfl rfl rfl fun a1002 h1002 => ?_
     refine goff h1002 (d := 106) rfl rfl rfl rfl fun a1003 h1003 => ?_
     refine goff h1003 (d := 106) rfl rfl rfl rfl fun a1004 h1004 => ?_
     refine pkf h1004 rfl rfl rfl rfl fun a1005 h1005 => ?_
     refine mv h1005 rfl rfl fun a1006 h1006 => ?_
     refine goff h1006 (d := 111) rfl rfl rfl rfl fun a1007 h1007 => ?_
     refine goff h1007 (d := 111) rfl rfl rfl rfl fun a1008 h1008 => ?_
     refine goff h1008 (d := 111) rfl rfl rfl rfl fun a1009 h1009 => ?_
     refine goff h1009 (d := 111) rfl rfl rfl rfl fun a1010 h1010 => ?_
     refine goff h1010 (d := 111) rfl rfl rfl rfl fun a1011 h1011 => ?_
     refine pkf h1011 rfl rfl rfl rfl fun a1012 h1012 => ?_
     refine mv h1012 rfl rfl fun a1013 h1013 => ?_
     refine goff h1013 (d := 118) rfl rfl rfl rfl fun a1014 h1014 => ?_
     refine goff h1014 (d := 118) rfl rfl rfl rfl fun a1015 h1015 => ?_
     refine goff h1015 (d := 118) rfl rfl rfl rfl fun a1016 h1016 => ?_
     refine goff h1016 (d := 118) rfl rfl rfl rfl fun a1017 h1017 => ?_
     refine pkf h1017 rfl rfl rfl rfl fun a1018 h1018 => ?_
     refine asg h1018 rfl rfl fun a1019 h1019 => ?_
     clear hK66 h777 h778 h779 h780 h998 h999 h1000 h1001 h1002 h1003 h1004 h1005 h1006 h1007 h1008 h1009 h1010 h1011 h1012 h1013 h1014 h1015 h1016 h1017 h1018 K66 a777 a778 a779 a780 a998 a999 a1000 a1001 a1002 a1003 a1004 a1005 a1006 a1007 a1008 a1009 a1010 a1011 a1012 a1013 a1014 a1015 a1016 a1017 a1018
     refine wpL_nil (hK67 _ _ ?_)
     refine sq fun K82 hK82 => ?_
     refine sq fun K83 hK83 => ?_
     clear hK67 K67
     refine drw h1019 [some 124, some 125, some 126, some 127, some 128, some 129, some 130, some 131, some 132, some 133, some 134, some 135, some 136, some 137, some 138] rfl [Fx (.bool false), Fx (.bool (!false)), Fx (.bool (!false)), Fx (undef), Fx (undef), Fx (undef), Fx (undef), Fx (undef), Fx (undef), Fx (undef), Fx (undef), Fx (undef), Fx (undef), Fx (undef), Fx ((.bool true))] Kept rfl rfl rfl rfl (drewKept _) keptT (mcons mfx (mcons mfx (mcons mfx (mcons mfx (mcons mfx (mcons mfx (mcons mfx (mcons mfx (mcons mfx (mcons mfx (mcons mfx (mcons mfx (mcons mfx (mcons mfx (mcons mfx mnil))))))))))))))) ⟨?_, ?_, ?_, ?_, ?_, ?_, ?_, ?_, ?_, ?_, ?_, ?_, ?_, ?_, ?_, trivial⟩ ?_
     ·
      intro L a w_ hH hb hR hd ho
      have hl14 := hb 14 _ rfl
      refine mv hH hl14 rfl fun a1020 h1020 => ?_
      exact wpL_nil ⟨_, h1020, Kept.refl _, rfl⟩
     ·
      intro L a w_ hH hb hR hd ho
      obtain ⟨_, hl124, rfl⟩ := hd 0 rfl
      refine unot hH hl124 rfl fun a1021 h1021 => ?_
      exact wpL_nil ⟨_, h1021, Kept.refl _, rfl⟩
     ·
      intro L a w_ hH hb hR hd ho
      obtain ⟨_, hl125, rfl⟩ := hd 1 rfl
      refine mv hH hl125 rfl fun a1022 h1022 => ?_
      exact wpL_nil ⟨_, h1022, Kept.refl _, rfl⟩
     ·
      intro L a w_ hH hb hR hd ho
      have hl13 := hb 13 _ rfl
      obtain ⟨_, hl126, rfl⟩ := hd 2 rfl
      refine goff hH rfl hl126 (bnf rfl) rfl fun a1023 h1023 => ?_
      exact wpL_nil ⟨_, h1023, Kept.refl _, rfl⟩
     ·
      intro L a w_ hH hb hR hd ho
      have hl11 := hb 11 _ rfl
      obtain ⟨_, hl126, rfl⟩ := hd 2 rfl
      refine goff hH rfl hl126 (bnf rfl) rfl fun a1024 h1024 => ?_
      exact wpL_nil ⟨_, h1024, Kept.refl _, rfl⟩
     ·
      intro L a w_ hH hb hR hd ho
      obtain ⟨_, hl128, rfl⟩ := hd 4 rfl
      obtain ⟨_, hl126, rfl⟩ := hd 2 rfl
      refine goff hH rfl hl126 (bnf rfl) rfl fun a1025 h1025 => ?_
      exact wpL_nil ⟨_, h1025, Kept.refl _, rfl⟩
     ·
      intro L a w_ hH hb hR hd ho
      have hl11 := hb 11 _ rfl
      obtain ⟨_, hl126, rfl⟩ := hd 2 rfl
      refine goff hH rfl hl126 (bnf rfl) rfl fun a1026 h1026 => ?_
      exact wpL_nil ⟨_, h1026, Kept.refl _, rfl⟩
     ·
      intro L a w_ hH hb hR hd ho
      obtain ⟨_, hl130, rfl⟩ := hd 6 rfl
      obtain ⟨_, hl126, rfl⟩ := hd 2 rfl
      refine goff hH rfl hl126 (bnf rfl) rfl fun a1027 h1027 => ?_
      exact wpL_nil ⟨_, h1027, Kept.refl _, rfl⟩
     ·
      intro L a w_ hH hb hR hd ho
      obtain ⟨_, hl127, rfl⟩ := hd 3 rfl
      obtain ⟨_, hl129, rfl⟩ := hd 5 rfl
      obtain ⟨_, hl131, rfl⟩ := hd 7 rfl
      obtain ⟨_, hl126, rfl⟩ := hd 2 rfl
      refine goff hH rfl hl126 (bnf rfl) rfl fun a1028 h1028 => ?_
      exact wpL_nil ⟨_, h1028, Kept.refl _, rfl⟩
     ·
      intro L a w_ hH hb hR hd ho
      have hl1 := hb 1 _ rfl
      obtain ⟨_, hl126, rfl⟩ := hd 2 rfl
      refine goff hH rfl hl126 (bnf rfl) rfl fun a1029 h1029 => ?_
      exact wpL_nil ⟨_, h1029, Kept.refl _, rfl⟩
     ·
      intro L a w_ hH hb hR hd ho
      have hl9 := hb 9 _ rfl
      obtain ⟨_, hl126, rfl⟩ := hd 2 rfl
      refine goff hH rfl hl126 (bnf rfl) rfl fun a1030 h1030 => ?_
      exact wpL_nil ⟨_, h1030, Kept.refl _, rfl⟩
     ·
      intro L a w_ hH hb hR hd ho
      obtain ⟨_, hl133, rfl⟩ := hd 9 rfl
      obtain ⟨_, hl134, rfl⟩ := hd 10 rfl
      obtain ⟨_, hl126, rfl⟩ := hd 2 rfl
      refine goff hH rfl hl126 (bnf rfl) rfl fun a1031 h1031 => ?_
      exact wpL_nil ⟨_, h1031, Kept.refl _, rfl⟩
     ·
      intro L a w_ hH hb hR hd ho
      obtain ⟨_, hl132, rfl⟩ := hd 8 rfl
      obtain ⟨_, hl135, rfl⟩ := hd 11 rfl
      obtain ⟨_, hl126, rfl⟩ := hd 2 rfl
      refine goff hH rfl hl126 (bnf rfl) rfl fun a1032 h1032 => ?_
      exact wpL_nil ⟨_, h1032, Kept.refl _, rfl⟩
     ·
      intro L a w_ hH hb hR hd ho
      obtain ⟨_, hl136, rfl⟩ := hd 12 rfl
      obtain ⟨_, hl126, rfl⟩ := hd 2 rfl
      refine goff hH rfl hl126 (bnf rfl) rfl fun a1033 h1033 => ?_
      exact wpL_nil ⟨_, h1033, Kept.refl _, rfl⟩
     ·
      intro L a w_ hH hb hR hd ho
      obtain ⟨_, hl126, rfl⟩ := hd 2 rfl
      obtain ⟨_, hl137, rfl⟩ := hd 13 rfl
      refine pkt hH hl126 (bnf rfl) rfl rfl fun a1034 h1034 => ?_
      exact wpL_nil ⟨_, h1034, Kept.refl _, rfl⟩
     intro L102 a1035 w102 h1035 hbh1035 hRh1035 hdh1035
     obtain ⟨_, hl124, rfl⟩ := hdh1035 0 (by decide)
     obtain ⟨_, hl125, rfl⟩ := hdh1035 1 (by decide)
     obtain ⟨_, hl126, rfl⟩ := hdh1035 2 (by decide)
     obtain ⟨_, hl127, rfl⟩ := hdh1035 3 (by decide)
     obtain ⟨_, hl128, rfl⟩ := hdh1035 4 (by decide)
     obtain ⟨_, hl129, rfl⟩ := hdh1035 5 (by decide)
     obtain ⟨_, hl130, rfl⟩ := hdh1035 6 (by decide)
     obtain ⟨_, hl131, rfl⟩ := hdh1035 7 (by decide)
     obtain ⟨_, hl132, rfl⟩ := hdh1035 8 (by decide)
     obtain ⟨_, hl133, rfl⟩ := hdh1035 9 (by decide)
     obtain ⟨_, hl134, rfl⟩ := hdh1035 10 (by decide)
     obtain ⟨_, hl135, rfl⟩ := hdh1035 11 (by decide)
     obtain ⟨_, hl136, rfl⟩ := hdh1035 12 (by decide)
     obtain ⟨_, hl137, rfl⟩ := hdh1035 13 (by decide)
     obtain ⟨_, hl138, rfl⟩ := hdh1035 14 (by decide)
     have h1036 := Has.under h1035 hbh1035
     have h1037 := (h1035.add hl138 (h1035.add hl137 (h1035.add hl136 (h1035.add hl135 (h1035.add hl134 (h1035.add hl133 (h1035.add hl132 (h1035.add hl131 (h1035.add hl130 (h1035.add hl129 (h1035.add hl128 (h1035.add hl127 (h1035.add hl126 (h1035.add hl125 (h1035.add hl124 h1036)))))))))))))))
     clear h1036 hl124 hl125 hl126 hl127 hl128 hl129 hl130 hl131 hl132 hl133 hl134 hl135 hl136 hl137 hl138 hbh1035 hdh1035
     replace hB := Kept.trans hB hRh1035
     replace hv := hv.kept hRh1035
     replace hg2 := hg2.kept hRh1035
     refine hK83 _ _ ?_
     refine cdt h1037 rfl rfl ?_
     refine sq fun K84 hK84 => ?_
     refine reg [some 139, some 140, some 141, some 142, some 143, some 144, some 145, none, some 3, some 4, some 5, some 6] rfl ?_
     refine mv h1037 rfl rfl fun a1038 h1038 => ?_
     refine clv h1038 rfl Try.call105 rfl _ rfl (c_cno _) rfl ?_
     rintro v103 w103 a1039 ⟨rfl, hk103⟩ h1039
     replace hB := Kept.trans hB hk103
     replace hv := hv.kept hk103
     replace hg2 := hg2.kept hk103
     refine ext5_0 h1039 rfl rfl fun a1040 h1040 => ?_
     refine ext5_1 h1040 rfl rfl fun a1041 h1041 => ?_
     refine ext5_2 h1041 rfl rfl fun a1042 h1042 => ?_
     refine ext5_3 h1042 rfl rfl fun a1043 h1043 => ?_
     refine ext5_4 h1043 rfl rfl fun a1044 h1044 => ?_
     refine stb h1044 hg2 rfl rfl _ rfl Try.sizeOf32 (by first | exact hd_one _ | exact nd_one _ | exact nd_one Pl.Nd.none | (simp [Value.oneCell']; done)) _ (by first | (simp [hdCells]; done) | (simp [ndCells]; done) | simp) rfl fun w104 hg2' hk104 => ?_
     replace hB := Kept.but hB hk104 (by omega)
     replace hv := hv.but hk104 (by intro hs; have := hs.2; omega)
     clear hg2; have hg2 := hg2'; clear hg2'
     refine asg h1044 rfl rfl fun a1045 h1045 => ?_
     refine asg h1045 rfl rfl fun a1046 h1046 => ?_
     refine asg h1046 rfl rfl fun a1047 h1047 => ?_
     refine asg h1047 rfl rfl fun a1048 h1048 => ?_
     clear hK83 h1037 h1038 h1039 h1040 h1041 h1042 h1043 h1044 h1045 h1046 h1047 K83 a1038 a1039 a1040 a1041 a1042 a1043 a1044 a1045 a1046 a1047
     refine wpL_nil (hK84 _ _ ?_)
     refine rtn (leave h1048 (res5 h1048 rfl (rva (ndCells Pl.Nd.none) hg2 rfl Try.isAgg32 Try.sizeOf32 rfl) (rvt rfl) (rvt rfl) (rvt rfl) (rvt rfl)) ?_)
     first | exact ⟨_, rfl, by rw [Pl.cg_no1 hno0]; rfl, hB⟩ | exact ⟨_, rfl, by rw [Pl.cg_b1 hok0 ht76 (by omega)]; rfl, hB⟩ | exact ⟨_, rfl, by rw [Pl.cg_b2 hok0 ht76 hbb1 (by rw [hq10]; omega)]; rfl, hB⟩ | exact ⟨_, rfl, by rw [Pl.cg_b3 hok0 ht76 hbb1 hnc hno2]; rfl, hB⟩ | exact ⟨_, rfl, by rw [hcg, Pl.ce_no (fun e => by have hq9 := congrArg UInt8.toNat e; simp at hq9; omega)]; rfl, hB⟩ | exact ⟨_, rfl, by rw [hce, if_neg (by rintro ⟨h1, -⟩; rw [Pl.contOk_eq] at h1; simp only [hb1, hb2, (bunf hb762), hb763, hb764, Bool.true_and, Bool.false_and, Bool.false_eq_true] at h1; done)]; rfl, hB⟩
 ·
  have hno0 := hb1
  refine goff h20 (d := 22) rfl rfl hb1 rfl fun a1049 h1049 => ?_
  refine goff h1049 (d := 22) rfl rfl hb1 rfl fun a1050 h1050 => ?_
  refine goff h1050 (d := 22) rfl rfl hb1 rfl fun a1051 h1051 => ?_
  refine pkf h1051 rfl hb1 rfl rfl fun a1052 h1052 => ?_
  clear hK6 h18 h19 h20 h1049 h1050 h1051 K6 a18 a19 a20 a1049 a1050 a1051
  refine wpL_nil (hK8 _ _ ?_)
  refine cdf h1052 rfl rfl ?_
  refine skp (hK7 _ _ ?_)
  refine sq fun K85 hK85 => ?_
  refine sq fun K86 hK86 => ?_
  refine reg [some 72, some 73, some 74, some 75, some 76, some 77, some 78] rfl ?_
  refine mv h1052 rfl rfl fun a1053 h1053 => ?_
  refine unot h1053 rfl rfl fun a1054 h1054 => ?_
  refine mv h1054 rfl rfl fun a1055 h1055 => ?_
  refine goff h1055 (d := 74) rfl rfl (bnf hb1) rfl fun a1056 h1056 => ?_
  refine goff h1056 (d := 74) rfl rfl (bnf hb1) rfl fun a1057 h1057 => ?_
  refine goff h1057 (d := 74) rfl rfl (bnf hb1) rfl fun a1058 h1058 => ?_
  refine pkt h1058 rfl (bnf hb1) rfl rfl fun a1059 h1059 => ?_
  clear hK8 hK7 h1052 h1053 h1054 h1055 h1056 h1057 h1058 K8 K7 a1052 a1053 a1054 a1055 a1056 a1057 a1058
  refine wpL_nil (hK86 _ _ ?_)
  refine cdt h1059 rfl rfl ?_
  refine sq fun K87 hK87 => ?_
  refine reg [some 79, some 80, some 81, some 82, some 83, some 84, some 85, none, some 3, some 4, some 5, some 6] rfl ?_
  refine mv h1059 rfl rfl fun a1060 h1060 => ?_
  refine clv h1060 rfl Try.call105 rfl _ rfl (c_cno _) rfl ?_
  rintro v105 w105 a1061 ⟨rfl, hk105⟩ h1061
  replace hB := Kept.trans hB hk105
  replace hv := hv.kept hk105
  replace hg2 := hg2.kept hk105
  refine ext5_0 h1061 rfl rfl fun a1062 h1062 => ?_
  refine ext5_1 h1062 rfl rfl fun a1063 h1063 => ?_
  refine ext5_2 h1063 rfl rfl fun a1064 h1064 => ?_
  refine ext5_3 h1064 rfl rfl fun a1065 h1065 => ?_
  refine ext5_4 h1065 rfl rfl fun a1066 h1066 => ?_
  refine stb h1066 hg2 rfl rfl _ rfl Try.sizeOf32 (by first | exact hd_one _ | exact nd_one _ | exact nd_one Pl.Nd.none | (simp [Value.oneCell']; done)) _ (by first | (simp [hdCells]; done) | (simp [ndCells]; done) | simp) rfl fun w106 hg2' hk106 => ?_
  replace hB := Kept.but hB hk106 (by omega)
  replace hv := hv.but hk106 (by intro hs; have := hs.2; omega)
  clear hg2; have hg2 := hg2'; clear hg2'
  refine asg h1066 rfl rfl fun a1067 h1067 => ?_
  refine asg h1067 rfl rfl fun a1068 h1068 => ?_
  refine asg h1068 rfl rfl fun a1069 h1069 => ?_
  refine asg h1069 rfl rfl fun a1070 h1070 => ?_
  clear hK86 h1059 h1060 h1061 h1062 h1063 h1064 h1065 h1066 h1067 h1068 h1069 K86 a1059 a1060 a1061 a1062 a1063 a1064 a1065 a1066 a1067 a1068 a1069
  refine wpL_nil (hK87 _ _ ?_)
  refine rtn (leave h1070 (res5 h1070 rfl (rva (ndCells Pl.Nd.none) hg2 rfl Try.isAgg32 Try.sizeOf32 rfl) (rvt rfl) (rvt rfl) (rvt rfl) (rvt rfl)) ?_)
  first | exact ⟨_, rfl, by rw [Pl.cg_no1 hno0]; rfl, hB⟩ | exact ⟨_, rfl, by rw [Pl.cg_b1 hok0 ht76 (by omega)]; rfl, hB⟩ | exact ⟨_, rfl, by rw [Pl.cg_b2 hok0 ht76 hbb1 (by rw [hq10]; omega)]; rfl, hB⟩ | exact ⟨_, rfl, by rw [Pl.cg_b3 hok0 ht76 hbb1 hnc hno2]; rfl, hB⟩ | exact ⟨_, rfl, by rw [hcg, Pl.ce_no (fun e => by have hq9 := congrArg UInt8.toNat e; simp at hq9; omega)]; rfl, hB⟩ | exact ⟨_, rfl, by rw [hce, if_neg (by rintro ⟨h1, -⟩; rw [Pl.contOk_eq] at h1; simp only [hb1, Bool.true_and, Bool.false_and, Bool.false_eq_true] at h1; done)]; rfl, hB⟩

end Go.Proofs.Ytpgeogdmjgmimaa
