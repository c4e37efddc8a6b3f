/-
  Walks, written by wip/gen/gen.py.
-/
import Derived.Test.YtpgeogdmjgmimaaW25
set_option linter.unusedVariables false
set_option linter.unusedSimpArgs false
set_option maxRecDepth 4000
namespace Go.Proofs.Ytpgeogdmjgmimaa
open Go Go.RowKit K

/-- A literal's value. -/
theorem bld32_0_2_7 (x0 : ByteArray) (x2 : Int) (x7 : ByteArray) (w : World) : (Instr.build 32 [(0, (.string x0)), (2, (.int .u8 x2)), (7, (.string x7))].toArray).run Try.prog w = .ok (.agg #[.string x0, str [], .int .u8 x2, .int .i64 0, .int .i64 0, .int .i64 0, .int .i64 0, .string x7]) w := by kernel_rfl
def gN (o : Option (Pl.Nd × Int × Int × Nat)) : Pl.Nd := o.elim Pl.Nd.none (·.1)
def gO (o : Option (Pl.Nd × Int × Int × Nat)) : Int := o.elim 0 (·.2.1)
def gW (o : Option (Pl.Nd × Int × Int × Nat)) : Int := o.elim 0 (·.2.2.1)
def gK (o : Option (Pl.Nd × Int × Int × Nat)) : Int := o.elim 0 (fun q => (q.2.2.2 : Int))
theorem contGetV_eq (o : Option (Pl.Nd × Int × Int × Nat)) : contGetV o = .tuple #[ndV (gN o), .int .i64 (gO o), .int .i64 (gW o), .int .i64 (gK o), .bool o.isSome] := by cases o <;> rfl
theorem c_contGetU {S : Nat → Prop} (v : Value) (l : List (List UInt8)) (w : World) (hv : Rws S w v l) :
    C Try.prog 50 [v] w fun v w' => v = .tuple #[ndV (gN (Pl.contGet l)), .int .i64 (gO (Pl.contGet l)), .int .i64 (gW (Pl.contGet l)), .int .i64 (gK (Pl.contGet l)), .bool (Pl.contGet l).isSome] ∧ Kept w w' :=
  contGetV_eq (Pl.contGet l) ▸ c_contGet v l w hv
theorem contRaw_le {n : Pl.Nd} {off whole : Int} (hf : Pl.isFile n = true) : (Pl.contRaw n off whole).length ≤ 3 ∧ 1 ≤ (Pl.contRaw n off whole).length := by
  have h := Pl.contRaw_len (off := off) (whole := whole) hf
  unfold Pl.contMany at h
  rw [if_neg (by rw [hf]; decide)] at h
  split at h <;> omega
def wk15 : Pl.Nd := { Pl.Nd.none with path := [97], kind := 48, data := List.replicate 1000 0 }
theorem wk15_L : NdL wk15 := by refine ⟨?_, ?_, ?_⟩ <;> decide +kernel
theorem wk15_file : Pl.isFile wk15 = true := by decide +kernel
theorem wk15_len : (wk15.data.length : Int) = 1000 := by decide +kernel
theorem wk15_may : Pl.contMay wk15 512 = true := by unfold Pl.contMay; rw [wk15_file, wk15_len]; rfl
theorem wk15_no : Pl.contMay wk15 1024 = false := by unfold Pl.contMay; rw [wk15_file, wk15_len]; rfl
theorem wk15_many : Pl.contMany wk15 = 1 := by unfold Pl.contMany; rw [wk15_file]; rfl
theorem wk15_put : (Pl.contPut wk15 512).getD [] = Pl.contRaw wk15 512 1000 := by rw [contPut_yes wk15_may, wk15_len]; rfl
theorem wk15_is : (Pl.contPut wk15 512).isSome = true := by rw [contPut_yes wk15_may]; rfl
theorem wk15_one : ((Pl.contPut wk15 512).getD []).length = 1 := by
  have h := Pl.contRaw_len (off := 512) (whole := 1000) wk15_file
  rw [wk15_many] at h; rw [wk15_put]; omega
theorem wk15_get : Pl.contGet ((Pl.contPut wk15 512).getD []) = some (Pl.nd0 wk15, 512, 1000, 1) := by
  have h := Pl.contGet_back (n := wk15) (off := 512) (whole := 1000) (rest := []) wk15_file (by decide) (by decide) (by decide) (by decide)
  rw [List.append_nil] at h
  have h1 := wk15_one
  rw [wk15_put] at h1
  rw [wk15_put, h, h1]

/-- reelkeeperlaw15.awake -/
theorem c_wake15  (w : World) :
  C Try.prog 46 [] w fun v w' => v = .bool true ∧ Kept w w' := by
 refine enterE Try.func46 rfl 65 rfl rfl fun a0 h0 => ?_
 have hB := Kept.refl w
 refine sq fun K1 hK1 => ?_
 refine reg [some 0] rfl ?_
 refine asg h0 rfl rfl fun a1 h1 => ?_
 clear h0 a0
 refine wpL_nil (hK1 _ _ ?_)
 refine sq fun K2 hK2 => ?_
 refine reg [some 9, some 10, some 11, some 1, none] rfl ?_
 refine mks h1 (m := 1000) (z := .int .u8 0) rfl rfl (by omega) Try.underlying35 (b := 1) (by kernel_rfl) rfl (by omega) (by omega) rfl fun a2 w1 g9 h2 hk1 hz9 hg9 => ?_
 have hleg9 := Nat.le_trans hB.size hz9
 replace hB := Kept.trans hB hk1
 refine btos h2 rfl Try.underlying35 Try.underlying5 Try.underlying9 (Blk.byt (bs := List.replicate 1000 0) (by rw [List.map_replicate]; exact hg9) 1000 (by rw [List.length_replicate]) (by simp) (by omega)) rfl fun a3 h3 => ?_
 refine bld h3 rfl (bld32_0_2_7 _ _ _) rfl fun a4 h4 => ?_
 refine alc h4 Try.zeroValue32 rfl rfl fun a5 w2 g1 h5 hk2 hz1 hg1 => ?_
 have hleg1 := Nat.le_trans hB.size hz1
 have hneg9g1 := Nat.lt_of_lt_of_le hg9.lt hz1
 replace hB := Kept.trans hB hk2
 replace hg9 := hg9.kept hk2
 refine stb h5 hg1 rfl rfl _ rfl Try.sizeOf32 (by first | with_reducible exact nd_one _ | exact nd_one wk15 | (simp [Value.oneCell']; done)) _ (by first | (simp; done) | (simp [ndCells]; done)) rfl fun w3 hg1' hk3 => ?_
 replace hB := Kept.but hB hk3 (by omega)
 replace hg9 := hg9.but hk3 (by omega)
 clear hg1; have hg1 := hg1'; clear hg1'
 clear hK1 h1 h2 h3 h4 K1 a1 a2 a3 a4
 refine wpL_nil (hK2 _ _ ?_)
 refine sq fun K3 hK3 => ?_
 refine reg [some 13, some 14, some 12, some 15, some 16, some 2, some 3] rfl ?_
 refine ldbn h5 hg1 (ndCells wk15) rfl Try.isAgg32 Try.sizeOf32 rfl rfl fun a6 h6 => ?_
 have hsz4 := hB.size
 have hlg94 := hg9.lt
 have hlg14 := hg1.lt
 refine cal h6 Try.call48 rfl (c_cPut _ _ _ wk15_L ⟨by omega, by omega⟩) rfl ?_
 rintro v4 w4 a7 ⟨⟨qp4, rfl, hp4'⟩, hk4⟩ h7
 replace hB := Kept.trans hB hk4
 replace hg9 := hg9.kept hk4
 replace hg1 := hg1.kept hk4
 replace hp4' := hp4'.lt
 have hlw4 := Nat.le_refl w4.heap.size
 refine mv h7 rfl rfl fun a8 h8 => ?_
 refine ext2_0 h8 rfl rfl fun a9 h9 => ?_
 refine ext2_1 h9 rfl rfl fun a10 h10 => ?_
 refine asg h10 rfl rfl fun a11 h11 => ?_
 refine asg h11 rfl rfl fun a12 h12 => ?_
 clear hK2 h5 h6 h7 h8 h9 h10 h11 K2 a5 a6 a7 a8 a9 a10 a11
 refine wpL_nil (hK3 _ _ ?_)
 refine sq fun K4 hK4 => ?_
 refine reg [some 18, some 19, some 17, some 20, some 21, some 22, some 23, some 24, some 4, none, some 5, some 6, some 7, some 8] rfl ?_
 refine mv h12 rfl rfl fun a13 h13 => ?_
 refine cal h13 Try.call50 rfl (c_contGetU _ _ _ hp4') rfl ?_
 rintro v5 w5 a14 ⟨rfl, hk5⟩ h14
 replace hB := Kept.trans hB hk5
 replace hg9 := hg9.kept hk5
 replace hg1 := hg1.kept hk5
 replace hp4' := hp4'.kept hk5
 replace hlw4 := Nat.le_trans hlw4 hk5.size
 refine mv h14 rfl rfl fun a15 h15 => ?_
 refine ext5_0 h15 rfl rfl fun a16 h16 => ?_
 refine ext5_1 h16 rfl rfl fun a17 h17 => ?_
 refine ext5_2 h17 rfl rfl fun a18 h18 => ?_
 refine ext5_3 h18 rfl rfl fun a19 h19 => ?_
 refine ext5_4 h19 rfl rfl fun a20 h20 => ?_
 refine alc h20 Try.zeroValue32 rfl rfl fun a21 w6 g4 h21 hk6 hz4 hg4 => ?_
 have hleg4 := Nat.le_trans hB.size hz4
 have hneg9g4 := Nat.lt_of_lt_of_le hg9.lt hz4
 have hneg1g4 := Nat.lt_of_lt_of_le hg1.lt hz4
 have hNhlw4g4 := Nat.le_trans hlw4 hz4
 replace hB := Kept.trans hB hk6
 replace hg1 := hg1.kept hk6
 replace hp4' := hp4'.kept hk6
 replace hlw4 := Nat.le_trans hlw4 hk6.size
 refine stb h21 hg4 rfl rfl _ rfl Try.sizeOf32 (by first | with_reducible exact nd_one _ | exact nd_one wk15 | (simp [Value.oneCell']; done)) _ (by first | (simp; done) | (simp [ndCells]; done)) rfl fun w7 hg4' hk7 => ?_
 replace hB := Kept.but hB hk7 (by omega)
 replace hg1 := hg1.but hk7 (by omega)
 replace hp4' := hp4'.but hk7 (by first | (show ¬ (_ < _); omega) | (simp; omega))
 replace hlw4 := Nat.le_trans hlw4 hk7.size
 clear hg4; have hg4 := hg4'; clear hg4'
 refine asg h21 rfl rfl fun a22 h22 => ?_
 refine asg h22 rfl rfl fun a23 h23 => ?_
 refine asg h23 rfl rfl fun a24 h24 => ?_
 refine asg h24 rfl rfl fun a25 h25 => ?_
 clear hK3 h12 h13 h14 h15 h16 h17 h18 h19 h20 h21 h22 h23 h24 K3 a12 a13 a14 a15 a16 a17 a18 a19 a20 a21 a22 a23 a24
 refine wpL_nil (hK4 _ _ ?_)
 refine sq fun K5 hK5 => ?_
 refine reg [some 25, some 26, some 27, some 28, some 29, some 30, some 31, some 32, some 33, some 34, some 35, some 36, some 37, some 38, some 39, some 40, some 41, some 42, some 43, some 44, some 45, some 46, some 47, some 48, some 49, some 50, some 51, some 52, some 53, some 54, some 55, some 56, some 57, some 58, some 59, some 60, some 61, some 62, some 63, some 64, some 0] rfl ?_
 refine mv h25 rfl rfl fun a26 h26 => ?_
 refine mv h26 rfl rfl fun a27 h27 => ?_
 refine knownT h27 (d := 26) rfl (wk15_is) fun hb1 => ?_
 refine gon h27 (d := 26) rfl rfl hb1 ?_
 refine mv h27 rfl rfl fun a28 h28 => ?_
 refine gon h28 (d := 26) rfl rfl hb1 ?_
 refine lnx h28 rfl Try.underlying25 rfl hp4'.isl rfl fun a29 h29 => ?_
 refine gon h29 (d := 26) rfl rfl hb1 ?_
 refine ieq h29 rfl rfl rfl fun a30 h30 => ?_
 refine pkt h30 rfl hb1 rfl rfl fun a31 h31 => ?_
 refine mv h31 rfl rfl fun a32 h32 => ?_
 refine knownT h32 (d := 31) rfl (by rw [wk15_one]; rfl) fun hb3 => ?_
 have hp3 := of_decide_eq_true hb3
 refine gon h32 (d := 31) rfl rfl hb3 ?_
 refine mv h32 rfl rfl fun a33 h33 => ?_
 refine pkt h33 rfl hb3 rfl rfl fun a34 h34 => ?_
 refine mv h34 rfl rfl fun a35 h35 => ?_
 refine knownT h35 (d := 34) rfl (by rw [wk15_get]; rfl) fun hb2 => ?_
 refine gon h35 (d := 34) rfl rfl hb2 ?_
 refine fab h35 rfl Try.underlying32 rfl Try.sizeOf9 rfl 0 rfl rfl fun a36 h36 => ?_
 refine gon h36 (d := 34) rfl rfl hb2 ?_
 refine ldb h36 hg4 rfl Try.isAgg9 rfl rfl fun a37 h37 => ?_
 refine gon h37 (d := 34) rfl rfl hb2 ?_
 refine seq h37 rfl rfl rfl fun a38 h38 => ?_
 refine pkt h38 rfl hb2 rfl rfl fun a39 h39 => ?_
 refine mv h39 rfl rfl fun a40 h40 => ?_
 refine knownT h40 (d := 39) rfl (by rw [wk15_get]; rfl) fun hb4 => ?_
 have hp4 := of_decide_eq_true hb4
 refine gon h40 (d := 39) rfl rfl hb4 ?_
 refine mv h40 rfl rfl fun a41 h41 => ?_
 refine gon h41 (d := 39) rfl rfl hb4 ?_
 refine ieq h41 rfl rfl rfl fun a42 h42 => ?_
 refine pkt h42 rfl hb4 rfl rfl fun a43 h43 => ?_
 refine mv h43 rfl rfl fun a44 h44 => ?_
 refine knownT h44 (d := 43) rfl (by rw [wk15_get]; rfl) fun hb5 => ?_
 have hp5 := of_decide_eq_true hb5
 refine gon h44 (d := 43) rfl rfl hb5 ?_
 refine mv h44 rfl rfl fun a45 h45 => ?_
 refine gon h45 (d := 43) rfl rfl hb5 ?_
 refine ieq h45 rfl rfl rfl fun a46 h46 => ?_
 refine pkt h46 rfl hb5 rfl rfl fun a47 h47 => ?_
 refine mv h47 rfl rfl fun a48 h48 => ?_
 refine knownT h48 (d := 47) rfl (by rw [wk15_get]; rfl) fun hb6 => ?_
 have hp6 := of_decide_eq_true hb6
 refine gon h48 (d := 47) rfl rfl hb6 ?_
 refine mv h48 rfl rfl fun a49 h49 => ?_
 refine gon h49 (d := 47) rfl rfl hb6 ?_
 refine ieq h49 rfl rfl rfl fun a50 h50 => ?_
 refine pkt h50 rfl hb6 rfl rfl fun a51 h51 => ?_
 refine mv h51 rfl rfl fun a52 h52 => ?_
 refine knownT h52 (d := 51) rfl (by rw [wk15_get]; rfl) fun hb7 => ?_
 have hp7 := of_decide_eq_true hb7
 refine gon h52 (d := 51) rfl rfl hb7 ?_
 refine ldbn h52 hg1 (ndCells wk15) rfl Try.isAgg32 Try.sizeOf32 rfl rfl fun a53 h53 => ?_
 refine gon h53 (d := 51) rfl rfl hb7 ?_
 refine cal h53 Try.call54 rfl (c_contMany _ _ wk15_L) rfl ?_
 rintro v8 w8 a54 ⟨rfl, hk8⟩ h54
 replace hB := Kept.trans hB hk8
 replace hg1 := hg1.kept hk8
 replace hlw4 := Nat.le_trans hlw4 hk8.size
 refine gon h54 (d := 51) rfl rfl hb7 ?_
 refine ieq h54 rfl rfl rfl fun a55 h55 => ?_
 refine pkt h55 rfl hb7 rfl rfl fun a56 h56 => ?_
 refine mv h56 rfl rfl fun a57 h57 => ?_
 refine knownT h57 (d := 56) rfl (by rw [wk15_many]; rfl) fun hb8 => ?_
 have hp8 := of_decide_eq_true hb8
 refine gon h57 (d := 56) rfl rfl hb8 ?_
 refine ldbn h57 hg1 (ndCells wk15) rfl Try.isAgg32 Try.sizeOf32 rfl rfl fun a58 h58 => ?_
 refine gon h58 (d := 56) rfl rfl hb8 ?_
 refine cal h58 Try.call53 rfl (c_contMay _ _ _ wk15_L ⟨by omega, by omega⟩) rfl ?_
 rintro v9 w9 a59 ⟨rfl, hk9⟩ h59
 replace hB := Kept.trans hB hk9
 replace hg1 := hg1.kept hk9
 replace hlw4 := Nat.le_trans hlw4 hk9.size
 refine pkt h59 rfl hb8 rfl rfl fun a60 h60 => ?_
 refine mv h60 rfl rfl fun a61 h61 => ?_
 refine knownT h61 (d := 60) rfl (wk15_may) fun hb9 => ?_
 refine gon h61 (d := 60) rfl rfl hb9 ?_
 refine ldbn h61 hg1 (ndCells wk15) rfl Try.isAgg32 Try.sizeOf32 rfl rfl fun a62 h62 => ?_
 refine gon h62 (d := 60) rfl rfl hb9 ?_
 refine cal h62 Try.call53 rfl (c_contMay _ _ _ wk15_L ⟨by omega, by omega⟩) rfl ?_
 rintro v10 w10 a63 ⟨rfl, hk10⟩ h63
 replace hB := Kept.trans hB hk10
 replace hlw4 := Nat.le_trans hlw4 hk10.size
 refine gon h63 (d := 60) rfl rfl hb9 ?_
 refine unot h63 rfl rfl fun a64 h64 => ?_
 refine pkt h64 rfl hb9 rfl rfl fun a65 h65 => ?_
 refine asg h65 rfl rfl fun a66 h66 => ?_
 clear hK4 h25 h26 h27 h28 h29 h30 h31 h32 h33 h34 h35 h36 h37 h38 h39 h40 h41 h42 h43 h44 h45 h46 h47 h48 h49 h50 h51 h52 h53 h54 h55 h56 h57 h58 h59 h60 h61 h62 h63 h64 h65 K4 a25 a26 a27 a28 a29 a30 a31 a32 a33 a34 a35 a36 a37 a38 a39 a40 a41 a42 a43 a44 a45 a46 a47 a48 a49 a50 a51 a52 a53 a54 a55 a56 a57 a58 a59 a60 a61 a62 a63 a64 a65
 refine wpL_nil (hK5 _ _ ?_)
 refine rtn (leave h66 (res1 h66 rfl (rvt rfl)) ?_)
 exact ⟨_, rfl, by rw [wk15_no]; rfl, hB⟩

/-- reelkeeperlaw15.ContHead -/
theorem c_contHead (n : Pl.Nd) (off : Int) (w : World) (hof : -9223372036854775808 ≤ off ∧ off ≤ 9223372036854775807) :
  C Try.prog 9 [ndV n, .int .i64 off] w fun v w' => v = .bool true ∧ Kept w w' := by
 refine enterE Try.func9 rfl 96 rfl rfl fun a0 h0 => ?_
 have hB := Kept.refl w
 refine sq fun K1 hK1 => ?_
 refine reg [some 2, some 4] rfl ?_
 refine bxv h0 rfl rfl rfl fun a1 w1 g2 h1 hk1 hz2 hg2 => ?_
 have hleg2 := Nat.le_trans hB.size hz2
 replace hB := Kept.trans hB hk1
 refine asg h1 rfl rfl fun a2 h2 => ?_
 clear h0 h1 a0 a1
 refine wpL_nil (hK1 _ _ ?_)
 refine sq fun K2 hK2 => ?_
 refine reg [some 11, some 5] rfl ?_
 refine cal h2 Try.call46 rfl (c_wake15 _) rfl ?_
 rintro v2 w2 a3 ⟨rfl, hk2⟩ h3
 replace hB := Kept.trans hB hk2
 replace hg2 := hg2.kept hk2
 refine asg h3 rfl rfl fun a4 h4 => ?_
 clear hK1 h2 h3 K1 a2 a3
 refine wpL_nil (hK2 _ _ ?_)
 refine sq fun K3 hK3 => ?_
 refine reg [some 12, some 13, some 6] rfl ?_
 refine ldbn h4 hg2 ([str n.path, str n.link, u8 n.kind, .int .i64 n.mode, .int .i64 n.uid, .int .i64 n.gid, .int .i64 n.mtime, str n.data]) rfl Try.isAgg32 Try.sizeOf32 rfl rfl fun a5 h5 => ?_
 refine cal h5 Try.call40 rfl (c_few5 _ _) rfl ?_
 rintro v3 w3 a6 ⟨rfl, hk3⟩ h6
 replace hB := Kept.trans hB hk3
 replace hg2 := hg2.kept hk3
 refine asg h6 rfl rfl fun a7 h7 => ?_
 clear hK2 h4 h5 h6 K2 a4 a5 a6
 refine wpL_nil (hK3 _ _ ?_)
 refine sq fun K4 hK4 => ?_
 refine sq fun K5 hK5 => ?_
 refine reg [some 14, some 15, some 16, some 17, some 18, some 19] rfl ?_
 refine mv h7 rfl rfl fun a8 h8 => ?_
 refine unot h8 rfl rfl fun a9 h9 => ?_
 refine mv h9 rfl rfl fun a10 h10 => ?_
 refine gon h10 (d := 16) rfl rfl rfl ?_
 refine mv h10 rfl rfl fun a11 h11 => ?_
 refine gon h11 (d := 16) rfl rfl rfl ?_
 refine unot h11 rfl rfl fun a12 h12 => ?_
 refine pkf h12 rfl rfl rfl rfl fun a13 h13 => ?_
 clear hK3 h7 h8 h9 h10 h11 h12 K3 a7 a8 a9 a10 a11 a12
 refine wpL_nil (hK5 _ _ ?_)
 refine spl h13 (d := 19) rfl (fun hb1 => ?_) (fun hb1 => ?_)
 ·
  refine cdt h13 rfl (bnf (bunt hb1)) ?_
  refine sq fun K6 hK6 => ?_
  refine reg [some 20, some 4] rfl ?_
  refine mv h13 rfl rfl fun a14 h14 => ?_
  refine asg h14 rfl rfl fun a15 h15 => ?_
  clear hK5 h13 h14 K5 a13 a14
  refine wpL_nil (hK6 _ _ ?_)
  refine rtn (leave h15 (res1 h15 rfl (rvt rfl)) ?_)
  first | exact ⟨_, rfl, rfl, hB⟩ | exact ⟨_, rfl, by rw [hno]; rfl, hB⟩ | exact ⟨_, rfl, by rw [hgt]; simp [Pl.contHead], hB⟩
 ·
  obtain ⟨hn1, hn2, hn3⟩ := few5_L (bunf hb1)
  refine cdf h13 rfl (bnt (bunf hb1)) ?_
  refine skp (hK4 _ _ ?_)
  refine sq fun K7 hK7 => ?_
  refine reg [some 22, some 23, some 24, some 21, some 25, some 26, some 7, some 8] rfl ?_
  refine ldbn h13 hg2 ([str n.path, str n.link, u8 n.kind, .int .i64 n.mode, .int .i64 n.uid, .int .i64 n.gid, .int .i64 n.mtime, str n.data]) rfl Try.isAgg32 Try.sizeOf32 rfl rfl fun a16 h16 => ?_
  refine mv h16 rfl rfl fun a17 h17 => ?_
  have hsz4 := hB.size
  have hlg24 := hg2.lt
  refine cal h17 Try.call48 rfl (c_cPut _ _ _ ⟨hn1, hn2, hn3⟩ ⟨by omega, by omega⟩) rfl ?_
  rintro v4 w4 a18 ⟨⟨qp4, rfl, hp4'⟩, hk4⟩ h18
  replace hB := Kept.trans hB hk4
  replace hg2 := hg2.kept hk4
  replace hp4' := hp4'.lt
  have hlw4 := Nat.le_refl w4.heap.size
  refine mv h18 rfl rfl fun a19 h19 => ?_
  refine ext2_0 h19 rfl rfl fun a20 h20 => ?_
  refine ext2_1 h20 rfl rfl fun a21 h21 => ?_
  refine asg h21 rfl rfl fun a22 h22 => ?_
  refine asg h22 rfl rfl fun a23 h23 => ?_
  clear hK5 hK4 h13 h16 h17 h18 h19 h20 h21 h22 K5 K4 a13 a16 a17 a18 a19 a20 a21 a22
  refine wpL_nil (hK7 _ _ ?_)
  refine sq fun K8 hK8 => ?_
  refine sq fun K9 hK9 => ?_
  refine reg [some 27, some 28, some 29, some 30, some 31, some 32, some 33] rfl ?_
  refine mv h23 rfl rfl fun a24 h24 => ?_
  refine unot h24 rfl rfl fun a25 h25 => ?_
  refine mv h25 rfl rfl fun a26 h26 => ?_
  refine spl h26 (d := 29) rfl (fun hb2 => ?_) (fun hb2 => ?_)
  ·
   have hno := bunt hb2
   refine goff h26 (d := 29) rfl rfl (bnf (bunt hb2)) rfl fun a27 h27 => ?_
   refine goff h27 (d := 29) rfl rfl (bnf (bunt hb2)) rfl fun a28 h28 => ?_
   refine goff h28 (d := 29) rfl rfl (bnf (bunt hb2)) rfl fun a29 h29 => ?_
   refine pkt h29 rfl (bnf (bunt hb2)) rfl rfl fun a30 h30 => ?_
   clear hK7 h23 h24 h25 h26 h27 h28 h29 K7 a23 a24 a25 a26 a27 a28 a29
   refine wpL_nil (hK9 _ _ ?_)
   refine cdt h30 rfl rfl ?_
   refine sq fun K10 hK10 => ?_
   refine reg [some 34, some 35, some 4] rfl ?_
   refine mv h30 rfl rfl fun a31 h31 => ?_
   refine unot h31 rfl rfl fun a32 h32 => ?_
   refine asg h32 rfl rfl fun a33 h33 => ?_
   clear hK9 h30 h31 h32 K9 a30 a31 a32
   refine wpL_nil (hK10 _ _ ?_)
   refine rtn (leave h33 (res1 h33 rfl (rvt rfl)) ?_)
   first | exact ⟨_, rfl, rfl, hB⟩ | exact ⟨_, rfl, by rw [hno]; rfl, hB⟩ | exact ⟨_, rfl, by rw [hgt]; simp [Pl.contHead], hB⟩
  ·
   have hcs := Pl.contPut_some (bunf hb2)
   have hcr : ((Pl.contPut n off).getD []) = (Pl.contRaw n off n.data.length) := by rw [hcs.2]; rfl
   have hall := Pl.contMay_all hcs.1
   have hone := (Pl.file_parts hall.1).2.1
   have hle : ((Pl.contPut n off).getD []).length ≤ 3 ∧ 1 ≤ ((Pl.contPut n off).getD []).length := by rw [hcr]; exact contRaw_le hall.1
   have hat : ((Pl.contPut n off).getD [])[((Pl.contPut n off).getD []).length - 1]? = some (Pl.contBlk n off n.data.length) := by rw [hcr]; exact Pl.contRaw_last _ _ _
   have hpl : 0 < ((Pl.contPut n off).getD []).length := by have := (List.getElem?_eq_some_iff.1 hat).1; omega
   have hgt := (Pl.contBlk_get hone hall.2.1 hall.2.2.1 (by omega : (n.data.length : Int) ≤ 1000000)).1
   refine gon h26 (d := 29) rfl rfl (bnt (bunf hb2)) ?_
   refine mv h26 rfl rfl fun a34 h34 => ?_
   refine gon h34 (d := 29) rfl rfl (bnt (bunf hb2)) ?_
   refine lnx h34 rfl Try.underlying25 rfl hp4'.isl rfl fun a35 h35 => ?_
   refine gon h35 (d := 29) rfl rfl (bnt (bunf hb2)) ?_
   refine ieq h35 rfl rfl rfl fun a36 h36 => ?_
   refine pkf h36 rfl (bnt (bunf hb2)) rfl rfl fun a37 h37 => ?_
   clear hK7 h23 h24 h25 h26 h34 h35 h36 K7 a23 a24 a25 a26 a34 a35 a36
   refine wpL_nil (hK9 _ _ ?_)
   refine knownF h37 (d := 33) rfl (by rw [decide_eq_false]; omega) fun hb3 => ?_
   have hp3 := of_decide_eq_false hb3
   refine cdf h37 rfl hb3 ?_
   refine skp (hK8 _ _ ?_)
   refine sq fun K11 hK11 => ?_
   refine reg [some 37, some 38, some 39, some 40, some 41, some 42, some 43, some 36, some 44, some 45, some 9, none, some 10] rfl ?_
   refine mv h37 rfl rfl fun a38 h38 => ?_
   refine mv h38 rfl rfl fun a39 h39 => ?_
   refine lnx h39 rfl Try.underlying25 rfl hp4'.isl rfl fun a40 h40 => ?_
   refine sub h40 rfl rfl rfl (by omega) fun a41 h41 => ?_
   refine ixR (k := ((Pl.contPut n off).getD []).length - 1) hp4' h41 rfl rfl Try.underlying25 Try.sizeOf35 Try.isAgg35 (by omega) (hat) rfl rfl fun a42 z41 v42' h42 hs42 => ?_
   refine cal h42 Try.call36 rfl (c_headGet _ _ _ hs42) rfl ?_
   rintro v5 w5 a43 ⟨rfl, hk5⟩ h43
   replace hB := Kept.trans hB hk5
   replace hg2 := hg2.kept hk5
   replace hlw4 := Nat.le_trans hlw4 hk5.size
   refine mv h43 rfl rfl fun a44 h44 => ?_
   refine ext2_0 h44 rfl rfl fun a45 h45 => ?_
   refine ext2_1 h45 rfl rfl fun a46 h46 => ?_
   refine alc h46 Try.zeroValue41 rfl rfl fun a47 w6 g9 h47 hk6 hz9 hg9 => ?_
   have hleg9 := Nat.le_trans hB.size hz9
   have hneg2g9 := Nat.lt_of_lt_of_le hg2.lt hz9
   have hNhlw4g9 := Nat.le_trans hlw4 hz9
   replace hB := Kept.trans hB hk6
   replace hg2 := hg2.kept hk6
   replace hlw4 := Nat.le_trans hlw4 hk6.size
   refine stb h47 hg9 rfl rfl _ rfl Try.sizeOf41 (hd_one _) _ (by simp [hdCells]) rfl fun w7 hg9' hk7 => ?_
   replace hB := Kept.but hB hk7 (by omega)
   replace hg2 := hg2.but hk7 (by omega)
   replace hlw4 := Nat.le_trans hlw4 hk7.size
   clear hg9; have hg9 := hg9'; clear hg9'
   refine asg h47 rfl rfl fun a48 h48 => ?_
   clear hK9 hK8 h37 h38 h39 h40 h41 h42 h43 h44 h45 h46 h47 K9 K8 a37 a38 a39 a40 a41 a42 a43 a44 a45 a46 a47
   refine wpL_nil (hK11 _ _ ?_)
   refine sq fun K12 hK12 => ?_
   refine reg [some 46, some 47, some 48, some 49, some 50, some 51, some 52, some 53, some 54, some 55, some 56, some 57, some 58, some 59, some 60, some 61, some 62, some 63, some 64, some 65, some 66, some 67, some 68, some 69, some 70, some 71, some 72, some 73, some 74, some 75, some 76, some 77, some 78, some 79, some 80, some 81, some 82, some 83, some 84, some 85, some 86, some 87, some 88, some 89, some 90, some 91, some 92, some 93, some 94, some 95, some 4] rfl ?_
   refine mv h48 rfl rfl fun a49 h49 => ?_
   refine ieq h49 rfl rfl rfl fun a50 h50 => ?_
   refine mv h50 rfl rfl fun a51 h51 => ?_
   refine knownT h51 (d := 48) rfl (by rw [hgt]; rfl) fun hb4 => ?_
   have hp4 := of_decide_eq_true hb4
   refine gon h51 (d := 48) rfl rfl hb4 ?_
   refine fab h51 rfl Try.underlying41 rfl Try.sizeOf5 rfl 8 rfl rfl fun a52 h52 => ?_
   refine gon h52 (d := 48) rfl rfl hb4 ?_
   refine ldb h52 hg9 rfl Try.isAgg5 rfl rfl fun a53 h53 => ?_
   refine gon h53 (d := 48) rfl rfl hb4 ?_
   refine ieq h53 rfl rfl rfl fun a54 h54 => ?_
   refine pkt h54 rfl hb4 rfl rfl fun a55 h55 => ?_
   refine mv h55 rfl rfl fun a56 h56 => ?_
   refine knownT h56 (d := 53) rfl (by rw [hgt]; rfl) fun hb5 => ?_
   have hp5 := of_decide_eq_true hb5
   refine gon h56 (d := 53) rfl rfl hb5 ?_
   refine fab h56 rfl Try.underlying41 rfl Try.sizeOf3 rfl 9 rfl rfl fun a57 h57 => ?_
   refine gon h57 (d := 53) rfl rfl hb5 ?_
   refine ldb h57 hg9 rfl Try.isAgg3 rfl rfl fun a58 h58 => ?_
   refine gon h58 (d := 53) rfl rfl hb5 ?_
   refine mv h58 rfl rfl fun a59 h59 => ?_
   refine gon h59 (d := 53) rfl rfl hb5 ?_
   refine ieq h59 rfl rfl rfl fun a60 h60 => ?_
   refine pkt h60 rfl hb5 rfl rfl fun a61 h61 => ?_
   refine mv h61 rfl rfl fun a62 h62 => ?_
   refine knownT h62 (d := 59) rfl (by rw [hgt]; simp [Pl.contHead]) fun hb6 => ?_
   have hp6 := of_decide_eq_true hb6
   refine gon h62 (d := 59) rfl rfl hb6 ?_
   refine fab h62 rfl Try.underlying41 rfl Try.sizeOf3 rfl 6 rfl rfl fun a63 h63 => ?_
   refine gon h63 (d := 59) rfl rfl hb6 ?_
   refine ldb h63 hg9 rfl Try.isAgg3 rfl rfl fun a64 h64 => ?_
   refine gon h64 (d := 59) rfl rfl hb6 ?_
   refine fab h64 rfl Try.underlying41 rfl Try.sizeOf3 rfl 9 rfl rfl fun a65 h65 => ?_
   refine gon h65 (d := 59) rfl rfl hb6 ?_
   refine ldb h65 hg9 rfl Try.isAgg3 rfl rfl fun a66 h66 => ?_
   refine gon h66 (d := 59) rfl rfl hb6 ?_
   refine add h66 rfl rfl rfl (by rw [hgt]; simp only [Pl.contHead]; omega) fun a67 h67 => ?_
   refine gon h67 (d := 59) rfl rfl hb6 ?_
   refine fab h67 rfl Try.underlying41 rfl Try.sizeOf3 rfl 10 rfl rfl fun a68 h68 => ?_
   refine gon h68 (d := 59) rfl rfl hb6 ?_
   refine ldb h68 hg9 rfl Try.isAgg3 rfl rfl fun a69 h69 => ?_
   refine gon h69 (d := 59) rfl rfl hb6 ?_
   refine ieq h69 rfl rfl rfl fun a70 h70 => ?_
   refine pkt h70 rfl hb6 rfl rfl fun a71 h71 => ?_
   refine mv h71 rfl rfl fun a72 h72 => ?_
   refine knownT h72 (d := 69) rfl (by rw [hgt]; simp [Pl.contHead]) fun hb7 => ?_
   have hp7 := of_decide_eq_true hb7
   refine gon h72 (d := 69) rfl rfl hb7 ?_
   refine fab h72 rfl Try.underlying41 rfl Try.sizeOf3 rfl 10 rfl rfl fun a73 h73 => ?_
   refine gon h73 (d := 69) rfl rfl hb7 ?_
   refine ldb h73 hg9 rfl Try.isAgg3 rfl rfl fun a74 h74 => ?_
   refine gon h74 (d := 69) rfl rfl hb7 ?_
   refine fab h74 rfl Try.underlying32 rfl Try.sizeOf9 rfl 7 rfl rfl fun a75 h75 => ?_
   refine gon h75 (d := 69) rfl rfl hb7 ?_
   refine ldb h75 hg2 rfl Try.isAgg9 rfl rfl fun a76 h76 => ?_
   refine gon h76 (d := 69) rfl rfl hb7 ?_
   refine lens h76 rfl Try.underlying9 rfl rfl fun a77 h77 => ?_
   refine gon h77 (d := 69) rfl rfl hb7 ?_
   refine ieq h77 rfl rfl rfl fun a78 h78 => ?_
   refine pkt h78 rfl hb7 rfl rfl fun a79 h79 => ?_
   refine mv h79 rfl rfl fun a80 h80 => ?_
   refine knownT h80 (d := 77) rfl (by rw [hgt]; simp [Pl.contHead]) fun hb8 => ?_
   have hp8 := of_decide_eq_true hb8
   refine gon h80 (d := 77) rfl rfl hb8 ?_
   refine fab h80 rfl Try.underlying41 rfl Try.sizeOf3 rfl 6 rfl rfl fun a81 h81 => ?_
   refine gon h81 (d := 77) rfl rfl hb8 ?_
   refine ldb h81 hg9 rfl Try.isAgg3 rfl rfl fun a82 h82 => ?_
   refine gon h82 (d := 77) rfl rfl hb8 ?_
   refine gtr h82 rfl rfl rfl fun a83 h83 => ?_
   refine pkt h83 rfl hb8 rfl rfl fun a84 h84 => ?_
   refine mv h84 rfl rfl fun a85 h85 => ?_
   refine knownT h85 (d := 82) rfl (by rw [hgt]; simp [Pl.contHead]; omega) fun hb9 => ?_
   have hp9 := of_decide_eq_true hb9
   refine gon h85 (d := 82) rfl rfl hb9 ?_
   refine fab h85 rfl Try.underlying41 rfl Try.sizeOf3 rfl 3 rfl rfl fun a86 h86 => ?_
   refine gon h86 (d := 82) rfl rfl hb9 ?_
   refine ldb h86 hg9 rfl Try.isAgg3 rfl rfl fun a87 h87 => ?_
   refine gon h87 (d := 82) rfl rfl hb9 ?_
   refine fab h87 rfl Try.underlying32 rfl Try.sizeOf3 rfl 3 rfl rfl fun a88 h88 => ?_
   refine gon h88 (d := 82) rfl rfl hb9 ?_
   refine ldb h88 hg2 rfl Try.isAgg3 rfl rfl fun a89 h89 => ?_
   refine gon h89 (d := 82) rfl rfl hb9 ?_
   refine ieq h89 rfl rfl rfl fun a90 h90 => ?_
   refine pkt h90 rfl hb9 rfl rfl fun a91 h91 => ?_
   refine mv h91 rfl rfl fun a92 h92 => ?_
   refine knownT h92 (d := 89) rfl (by rw [hgt]; simp [Pl.contHead]) fun hb10 => ?_
   have hp10 := of_decide_eq_true hb10
   refine gon h92 (d := 89) rfl rfl hb10 ?_
   refine fab h92 rfl Try.underlying41 rfl Try.sizeOf3 rfl 7 rfl rfl fun a93 h93 => ?_
   refine gon h93 (d := 89) rfl rfl hb10 ?_
   refine ldb h93 hg9 rfl Try.isAgg3 rfl rfl fun a94 h94 => ?_
   refine gon h94 (d := 89) rfl rfl hb10 ?_
   refine fab h94 rfl Try.underlying32 rfl Try.sizeOf3 rfl 6 rfl rfl fun a95 h95 => ?_
   refine gon h95 (d := 89) rfl rfl hb10 ?_
   refine ldb h95 hg2 rfl Try.isAgg3 rfl rfl fun a96 h96 => ?_
   refine gon h96 (d := 89) rfl rfl hb10 ?_
   refine ieq h96 rfl rfl rfl fun a97 h97 => ?_
   refine pkt h97 rfl hb10 rfl rfl fun a98 h98 => ?_
   refine asg h98 rfl rfl fun a99 h99 => ?_
   clear hK11 h48 h49 h50 h51 h52 h53 h54 h55 h56 h57 h58 h59 h60 h61 h62 h63 h64 h65 h66 h67 h68 h69 h70 h71 h72 h73 h74 h75 h76 h77 h78 h79 h80 h81 h82 h83 h84 h85 h86 h87 h88 h89 h90 h91 h92 h93 h94 h95 h96 h97 h98 K11 a48 a49 a50 a51 a52 a53 a54 a55 a56 a57 a58 a59 a60 a61 a62 a63 a64 a65 a66 a67 a68 a69 a70 a71 a72 a73 a74 a75 a76 a77 a78 a79 a80 a81 a82 a83 a84 a85 a86 a87 a88 a89 a90 a91 a92 a93 a94 a95 a96 a97 a98
   refine wpL_nil (hK12 _ _ ?_)
   refine rtn (leave h99 (res1 h99 rfl (rvt rfl)) ?_)
   first | exact ⟨_, rfl, rfl, hB⟩ | exact ⟨_, rfl, by rw [hno]; rfl, hB⟩ | exact ⟨_, rfl, by rw [hgt]; simp [Pl.contHead], hB⟩

end Go.Proofs.Ytpgeogdmjgmimaa
