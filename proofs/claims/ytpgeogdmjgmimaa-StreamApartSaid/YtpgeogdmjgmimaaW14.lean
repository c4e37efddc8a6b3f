/-
  Walks, written by wip/gen/gen.py.
-/
import Derived.Test.YtpgeogdmjgmimaaW13
import Derived.Test.YtpgeogdmjgmimaaPLong2
set_option linter.unusedVariables false
set_option linter.unusedSimpArgs false
set_option maxRecDepth 4000
namespace Go.Proofs.Ytpgeogdmjgmimaa
open Go Go.RowKit K

/-- A literal's value. -/
theorem bld32_0 (x0 : ByteArray) (w : World) : (Instr.build 32 [(0, (.string x0))].toArray).run Try.prog w = .ok (.agg #[.string x0, str [], .int .u8 0, .int .i64 0, .int .i64 0, .int .i64 0, .int .i64 0, str []]) w := by kernel_rfl
def wkN : Pl.Nd := { Pl.Nd.none with path := fillT 120 }
theorem wk_needs : Pl.needs wkN = (true, false) := by decide +kernel
theorem wk_split : Pl.split wkN.path = ([], [], false) := by decide +kernel
theorem wk_names : Pl.names wkN = (List.replicate 100 97, [], []) := by decide +kernel
theorem wk_text : Pl.longText (fillT 120) = true := by decide +kernel
theorem long_isSome {kind : UInt8} {s : List UInt8} (h : longOk kind s = true) : (Pl.longPut kind s).isSome = true := by rw [long_yes h, Option.isSome_some]
theorem long_mayB {kind : UInt8} {s : List UInt8} (hk : kind = 75 ∨ kind = 76) (hs : s.length ≤ 300) : Pl.mayB ((Pl.putH (Pl.longHead kind s)).getD [] :: Pl.cutB (s ++ [0])) = true := by
  have h1 := Pl.cutB_may (s ++ [0])
  have h2 := Pl.longHead_may hk hs
  unfold Pl.mayB at h1 ⊢
  rw [List.all_cons, h1, put_yes h2, Option.getD_some, page_len h2]; rfl
theorem wk_put : (Pl.longPut 76 (fillT 120)).isSome = true := long_isSome (by unfold longOk; rw [wk_text]; rfl)
theorem wk_putlen : ((Pl.longPut 76 (fillT 120)).getD []).length = 2 := by
  rw [(Pl.longPut_some wk_put).2.2, List.length_cons, Pl.cut_long wk_text]
theorem wk_ahead : (Pl.ahead wkN).length = 2 := by
  unfold Pl.ahead Pl.aheadPart; rw [wk_needs]
  exact wk_putlen
theorem wk_NdL : NdL wkN := by refine ⟨?_, ?_, ?_⟩ <;> decide

/-- reelkeeperlaw05.awake -/
theorem c_wake05  (w : World) :
  C Try.prog 33 [] w fun v w' => v = .bool true ∧ Kept w w' := by
 refine enterE Try.func33 rfl 66 rfl rfl fun a0 h0 => ?_
 have hB := Kept.refl w
 refine sq fun K1 hK1 => ?_
 refine reg [some 0] rfl ?_
 refine asg h0 rfl rfl fun a1 h1 => ?_
 clear h0 a0
 refine wpL_nil (hK1 _ _ ?_)
 refine sq fun K2 hK2 => ?_
 refine reg [some 9, some 10, some 1, none] rfl ?_
 refine cal h1 Try.call84 rfl (c_fill _ _ ⟨by omega, by omega⟩) rfl ?_
 rintro v1 w1 a2 ⟨rfl, hk1⟩ h2
 replace hB := Kept.trans hB hk1
 refine bld h2 rfl (bld32_0 _) rfl fun a3 h3 => ?_
 refine alc h3 Try.zeroValue32 rfl rfl fun a4 w2 g1 h4 hk2 hz1 hg1 => ?_
 have hleg1 := Nat.le_trans hB.size hz1
 replace hB := Kept.trans hB hk2
 refine stb h4 hg1 rfl rfl _ rfl Try.sizeOf32 (by simp [Value.oneCell']) _ (by simp) rfl fun w3 hg1' hk3 => ?_
 replace hB := Kept.but hB hk3 (by omega)
 clear hg1; have hg1 := hg1'; clear hg1'
 clear hK1 h1 h2 h3 K1 a1 a2 a3
 refine wpL_nil (hK2 _ _ ?_)
 refine sq fun K3 hK3 => ?_
 refine reg [some 12, some 13, some 11, some 14, some 15, some 2, some 3] rfl ?_
 refine ldbn h4 hg1 (ndCells wkN) rfl Try.isAgg32 Try.sizeOf32 rfl rfl fun a5 h5 => ?_
 refine cal h5 Try.call85 rfl (c_needs wkN _ wk_NdL) rfl ?_
 rintro v4 w4 a6 ⟨rfl, hk4⟩ h6
 replace hB := Kept.trans hB hk4
 replace hg1 := hg1.kept hk4
 refine mv h6 rfl rfl fun a7 h7 => ?_
 refine ext2_0 h7 rfl rfl fun a8 h8 => ?_
 refine ext2_1 h8 rfl rfl fun a9 h9 => ?_
 refine asg h9 rfl rfl fun a10 h10 => ?_
 refine asg h10 rfl rfl fun a11 h11 => ?_
 clear hK2 h4 h5 h6 h7 h8 h9 h10 K2 a4 a5 a6 a7 a8 a9 a10
 refine wpL_nil (hK3 _ _ ?_)
 refine sq fun K4 hK4 => ?_
 refine reg [some 17, some 18, some 16, some 19, some 20, some 21, some 4, some 5, some 6] rfl ?_
 refine ldbn h11 hg1 (ndCells wkN) rfl Try.isAgg32 Try.sizeOf32 rfl rfl fun a12 h12 => ?_
 refine cal h12 Try.call86 rfl (c_names wkN _ wk_NdL) rfl ?_
 rintro v5 w5 a13 ⟨rfl, hk5⟩ h13
 replace hB := Kept.trans hB hk5
 replace hg1 := hg1.kept hk5
 refine mv h13 rfl rfl fun a14 h14 => ?_
 refine ext3_0 h14 rfl rfl fun a15 h15 => ?_
 refine ext3_1 h15 rfl rfl fun a16 h16 => ?_
 refine ext3_2 h16 rfl rfl fun a17 h17 => ?_
 refine asg h17 rfl rfl fun a18 h18 => ?_
 refine asg h18 rfl rfl fun a19 h19 => ?_
 refine asg h19 rfl rfl fun a20 h20 => ?_
 clear hK3 h11 h12 h13 h14 h15 h16 h17 h18 h19 K3 a11 a12 a13 a14 a15 a16 a17 a18 a19
 refine wpL_nil (hK4 _ _ ?_)
 refine sq fun K5 hK5 => ?_
 refine reg [some 23, some 24, some 22, some 25, some 26, some 7, some 8] rfl ?_
 refine cal h20 Try.call84 rfl (c_fill _ _ ⟨by omega, by omega⟩) rfl ?_
 rintro v6 w6 a21 ⟨rfl, hk6⟩ h21
 replace hB := Kept.trans hB hk6
 replace hg1 := hg1.kept hk6
 have hsz7 := hB.size
 have hlg17 := hg1.lt
 refine cal h21 Try.call34 rfl (c_longPut 76 (fillT 120) _ (by simp [fillT])) rfl ?_
 rintro v7 w7 a22 ⟨⟨qp7, rfl, hp7'⟩, hk7⟩ h22
 replace hB := Kept.trans hB hk7
 replace hg1 := hg1.kept hk7
 replace hp7' := hp7'.lt
 refine mv h22 rfl rfl fun a23 h23 => ?_
 refine ext2_0 h23 rfl rfl fun a24 h24 => ?_
 refine ext2_1 h24 rfl rfl fun a25 h25 => ?_
 refine asg h25 rfl rfl fun a26 h26 => ?_
 refine asg h26 rfl rfl fun a27 h27 => ?_
 clear hK4 h20 h21 h22 h23 h24 h25 h26 K4 a20 a21 a22 a23 a24 a25 a26
 refine wpL_nil (hK5 _ _ ?_)
 refine sq fun K6 hK6 => ?_
 refine reg [some 27, some 28, some 29, some 30, some 31, some 32, some 33, some 34, some 35, some 36, some 37, some 38, some 39, some 40, some 41, some 42, some 43, some 44, some 45, some 46, some 47, some 48, some 49, some 50, some 51, some 52, some 53, some 54, some 55, some 56, some 57, some 58, some 59, some 60, some 61, some 62, some 63, some 64, some 65, some 0] rfl ?_
 refine mv h27 rfl rfl fun a28 h28 => ?_
 refine mv h28 rfl rfl fun a29 h29 => ?_
 refine knownT h29 (d := 28) rfl (by rw [wk_needs]) fun hb1 => ?_
 refine gon h29 (d := 28) rfl rfl hb1 ?_
 refine mv h29 rfl rfl fun a30 h30 => ?_
 refine gon h30 (d := 28) rfl rfl hb1 ?_
 refine unot h30 rfl rfl fun a31 h31 => ?_
 refine pkt h31 rfl hb1 rfl rfl fun a32 h32 => ?_
 refine mv h32 rfl rfl fun a33 h33 => ?_
 refine knownT h33 (d := 32) rfl (by rw [wk_needs]; rfl) fun hb2 => ?_
 refine gon h33 (d := 32) rfl rfl (bnf (bunt hb2)) ?_
 refine ldbn h33 hg1 (ndCells wkN) rfl Try.isAgg32 Try.sizeOf32 rfl rfl fun a34 h34 => ?_
 refine gon h34 (d := 32) rfl rfl (bnf (bunt hb2)) ?_
 have hsz8 := hB.size
 have hlg18 := hg1.lt
 refine cal h34 Try.call79 rfl (c_ahead wkN _ wk_NdL) rfl ?_
 rintro v8 w8 a35 ⟨hL8, hk8⟩ h35
 replace hB := Kept.trans hB hk8
 replace hp7' := hp7'.kept hk8
 replace hL8 := hL8.lt
 refine gon h35 (d := 32) rfl rfl (bnf (bunt hb2)) ?_
 refine lnx h35 rfl Try.underlying25 rfl hL8.isl rfl fun a36 h36 => ?_
 refine gon h36 (d := 32) rfl rfl (bnf (bunt hb2)) ?_
 refine ieq h36 rfl rfl rfl fun a37 h37 => ?_
 refine pkt h37 rfl (bnf (bunt hb2)) rfl rfl fun a38 h38 => ?_
 refine mv h38 rfl rfl fun a39 h39 => ?_
 refine knownT h39 (d := 38) rfl (by rw [wk_ahead]; rfl) fun hb4 => ?_
 have hp4 := of_decide_eq_true hb4
 refine gon h39 (d := 38) rfl rfl hb4 ?_
 refine mv h39 rfl rfl fun a40 h40 => ?_
 refine gon h40 (d := 38) rfl rfl hb4 ?_
 refine lens h40 rfl Try.underlying9 rfl rfl fun a41 h41 => ?_
 refine gon h41 (d := 38) rfl rfl hb4 ?_
 refine ieq h41 rfl rfl rfl fun a42 h42 => ?_
 refine pkt h42 rfl hb4 rfl rfl fun a43 h43 => ?_
 refine mv h43 rfl rfl fun a44 h44 => ?_
 refine knownT h44 (d := 43) rfl (by rw [wk_names]; rfl) fun hb5 => ?_
 have hp5 := of_decide_eq_true hb5
 refine gon h44 (d := 43) rfl rfl hb5 ?_
 refine mv h44 rfl rfl fun a45 h45 => ?_
 refine gon h45 (d := 43) rfl rfl hb5 ?_
 refine seq h45 rfl rfl rfl fun a46 h46 => ?_
 refine pkt h46 rfl hb5 rfl rfl fun a47 h47 => ?_
 refine mv h47 rfl rfl fun a48 h48 => ?_
 refine knownT h48 (d := 47) rfl (by rw [wk_names]; rfl) fun hb6 => ?_
 have hp6 := of_decide_eq_true hb6
 refine gon h48 (d := 47) rfl rfl hb6 ?_
 refine mv h48 rfl rfl fun a49 h49 => ?_
 refine gon h49 (d := 47) rfl rfl hb6 ?_
 refine seq h49 rfl rfl rfl fun a50 h50 => ?_
 refine pkt h50 rfl hb6 rfl rfl fun a51 h51 => ?_
 refine mv h51 rfl rfl fun a52 h52 => ?_
 refine knownT h52 (d := 51) rfl (by rw [wk_names]; rfl) fun hb7 => ?_
 have hp7 := of_decide_eq_true hb7
 refine gon h52 (d := 51) rfl rfl hb7 ?_
 refine mv h52 rfl rfl fun a53 h53 => ?_
 refine pkt h53 rfl hb7 rfl rfl fun a54 h54 => ?_
 refine mv h54 rfl rfl fun a55 h55 => ?_
 refine knownT h55 (d := 54) rfl (wk_put) fun hb3 => ?_
 refine gon h55 (d := 54) rfl rfl hb3 ?_
 refine mv h55 rfl rfl fun a56 h56 => ?_
 refine gon h56 (d := 54) rfl rfl hb3 ?_
 refine lnx h56 rfl Try.underlying25 rfl hp7'.isl rfl fun a57 h57 => ?_
 refine gon h57 (d := 54) rfl rfl hb3 ?_
 refine ieq h57 rfl rfl rfl fun a58 h58 => ?_
 refine pkt h58 rfl hb3 rfl rfl fun a59 h59 => ?_
 refine mv h59 rfl rfl fun a60 h60 => ?_
 refine knownT h60 (d := 59) rfl (by rw [wk_putlen]; rfl) fun hb8 => ?_
 have hp8 := of_decide_eq_true hb8
 refine gon h60 (d := 59) rfl rfl hb8 ?_
 refine cal h60 Try.call35 rfl (c_longText _ _) rfl ?_
 rintro v9 w9 a61 ⟨rfl, rfl⟩ h61
 refine pkt h61 rfl hb8 rfl rfl fun a62 h62 => ?_
 refine mv h62 rfl rfl fun a63 h63 => ?_
 refine knownT h63 (d := 62) rfl (by decide) fun hb9 => ?_
 refine gon h63 (d := 62) rfl rfl hb9 ?_
 refine cal h63 Try.call35 rfl (c_longText _ _) rfl ?_
 rintro v10 w10 a64 ⟨rfl, rfl⟩ h64
 refine gon h64 (d := 62) rfl rfl hb9 ?_
 refine unot h64 rfl rfl fun a65 h65 => ?_
 refine pkt h65 rfl hb9 rfl rfl fun a66 h66 => ?_
 refine asg h66 rfl rfl fun a67 h67 => ?_
 clear hK5 h27 h28 h29 h30 h31 h32 h33 h34 h35 h36 h37 h38 h39 h40 h41 h42 h43 h44 h45 h46 h47 h48 h49 h50 h51 h52 h53 h54 h55 h56 h57 h58 h59 h60 h61 h62 h63 h64 h65 h66 K5 a27 a28 a29 a30 a31 a32 a33 a34 a35 a36 a37 a38 a39 a40 a41 a42 a43 a44 a45 a46 a47 a48 a49 a50 a51 a52 a53 a54 a55 a56 a57 a58 a59 a60 a61 a62 a63 a64 a65 a66
 refine wpL_nil (hK6 _ _ ?_)
 refine rtn (leave h67 (res1 h67 rfl (rvt rfl)) ?_)
 exact ⟨_, rfl, by simp [Pl.longText], hB⟩

/-- reelkeeperlaw05.LongBack -/
theorem c_longBack (kind : UInt8) (s : List UInt8) (w : World) (hs : s.length ≤ 4611686018427387904) :
  C Try.prog 5 [u8 kind, str s] w fun v w' => v = .bool true ∧ Kept w w' := by
 have hno2 : ∀ k : UInt8, (k = 75 ∨ k = 76) → kind = k → ¬ ((kind = 75 ∨ kind = 76) ∧ Pl.longText s = true) → Pl.longText s = false := by
  rintro k h rfl h2
  cases e : Pl.longText s with
  | false => rfl
  | true => exact absurd ⟨h, e⟩ h2
 refine enterE Try.func5 rfl 102 rfl rfl fun a0 h0 => ?_
 have hB := Kept.refl w
 refine sq fun K1 hK1 => ?_
 refine reg [some 4] rfl ?_
 refine asg h0 rfl rfl fun a1 h1 => ?_
 clear h0 a0
 refine wpL_nil (hK1 _ _ ?_)
 refine sq fun K2 hK2 => ?_
 refine reg [some 12, some 5] rfl ?_
 refine cal h1 Try.call33 rfl (c_wake05 _) rfl ?_
 rintro v1 w1 a2 ⟨rfl, hk1⟩ h2
 replace hB := Kept.trans hB hk1
 refine asg h2 rfl rfl fun a3 h3 => ?_
 clear hK1 h1 h2 K1 a1 a2
 refine wpL_nil (hK2 _ _ ?_)
 refine sq fun K3 hK3 => ?_
 refine sq fun K4 hK4 => ?_
 refine reg [some 13, some 14, some 15, some 16, some 17, some 18, some 19] rfl ?_
 refine mv h3 rfl rfl fun a4 h4 => ?_
 refine unot h4 rfl rfl fun a5 h5 => ?_
 refine mv h5 rfl rfl fun a6 h6 => ?_
 refine gon h6 (d := 15) rfl rfl rfl ?_
 refine mv h6 rfl rfl fun a7 h7 => ?_
 refine gon h7 (d := 15) rfl rfl rfl ?_
 refine lens h7 rfl Try.underlying9 rfl rfl fun a8 h8 => ?_
 refine gon h8 (d := 15) rfl rfl rfl ?_
 refine gtr h8 rfl rfl rfl fun a9 h9 => ?_
 refine pkf h9 rfl rfl rfl rfl fun a10 h10 => ?_
 clear hK2 h3 h4 h5 h6 h7 h8 h9 K2 a3 a4 a5 a6 a7 a8 a9
 refine wpL_nil (hK4 _ _ ?_)
 refine spl h10 (d := 19) rfl (fun hb1 => ?_) (fun hb1 => ?_)
 ·
  have hp1 := of_decide_eq_true hb1
  refine cdt h10 rfl hb1 ?_
  refine sq fun K5 hK5 => ?_
  refine reg [some 20, some 4] rfl ?_
  refine mv h10 rfl rfl fun a11 h11 => ?_
  refine asg h11 rfl rfl fun a12 h12 => ?_
  clear hK4 h10 h11 K4 a10 a11
  refine wpL_nil (hK5 _ _ ?_)
  refine rtn (leave h12 (res1 h12 rfl (rvt rfl)) ?_)
  first | exact ⟨_, rfl, rfl, hB⟩ | exact ⟨_, rfl, by rw [hls.2.1], hB⟩ | exact ⟨_, rfl, by rw [hno2 75 (.inl rfl) (UInt8.toNat_inj.1 (show kind.toNat = 75 by omega)) hno.2]; rfl, hB⟩ | exact ⟨_, rfl, by rw [hno2 76 (.inr rfl) (UInt8.toNat_inj.1 (show kind.toNat = 76 by omega)) hno.2]; rfl, hB⟩
 ·
  have hp1 := of_decide_eq_false hb1
  refine cdf h10 rfl hb1 ?_
  refine skp (hK3 _ _ ?_)
  refine sq fun K6 hK6 => ?_
  refine reg [some 22, some 23, some 24, some 21, some 25, some 26, some 6, some 7] rfl ?_
  refine mv h10 rfl rfl fun a13 h13 => ?_
  refine mv h13 rfl rfl fun a14 h14 => ?_
  have hsz2 := hB.size
  refine cal h14 Try.call34 rfl (c_longPut _ _ _ (by omega)) rfl ?_
  rintro v2 w2 a15 ⟨⟨qp2, rfl, hp2'⟩, hk2⟩ h15
  replace hB := Kept.trans hB hk2
  replace hp2' := hp2'.lt
  have hlw2 := Nat.le_refl w2.heap.size
  refine mv h15 rfl rfl fun a16 h16 => ?_
  refine ext2_0 h16 rfl rfl fun a17 h17 => ?_
  refine ext2_1 h17 rfl rfl fun a18 h18 => ?_
  refine asg h18 rfl rfl fun a19 h19 => ?_
  refine asg h19 rfl rfl fun a20 h20 => ?_
  clear hK4 hK3 h10 h13 h14 h15 h16 h17 h18 h19 K4 K3 a10 a13 a14 a15 a16 a17 a18 a19
  refine wpL_nil (hK6 _ _ ?_)
  refine sq fun K7 hK7 => ?_
  refine sq fun K8 hK8 => ?_
  refine reg [some 27, some 28] rfl ?_
  refine mv h20 rfl rfl fun a21 h21 => ?_
  refine unot h21 rfl rfl fun a22 h22 => ?_
  clear hK6 h20 h21 K6 a20 a21
  refine wpL_nil (hK8 _ _ ?_)
  refine spl h22 (d := 28) rfl (fun hb2 => ?_) (fun hb2 => ?_)
  ·
   have hno := Pl.longPut_none (bunt hb2)
   refine cdt h22 rfl (bnf (bunt hb2)) ?_
   refine sq fun K9 hK9 => ?_
   refine reg [some 29, some 30, some 31, some 32, some 33, some 34, some 35, some 36, some 37, some 38, some 39, some 40, some 41, some 42, some 43, some 44, some 4] rfl ?_
   refine mv h22 rfl rfl fun a23 h23 => ?_
   refine lnx h23 rfl Try.underlying25 rfl hp2'.isl rfl fun a24 h24 => ?_
   refine ieq h24 rfl rfl rfl fun a25 h25 => ?_
   refine mv h25 rfl rfl fun a26 h26 => ?_
   refine knownT h26 (d := 32) rfl (by rw [hno.1]; rfl) fun hb3 => ?_
   have hp3 := of_decide_eq_true hb3
   refine gon h26 (d := 32) rfl rfl hb3 ?_
   refine mv h26 rfl rfl fun a27 h27 => ?_
   refine gon h27 (d := 32) rfl rfl hb3 ?_
   refine ineq h27 rfl rfl rfl fun a28 h28 => ?_
   refine gon h28 (d := 32) rfl rfl hb3 ?_
   refine mv h28 rfl rfl fun a29 h29 => ?_
   refine spl h29 (d := 35) rfl (fun hb4 => ?_) (fun hb4 => ?_)
   ·
    have hp4 := of_decide_eq_false (bunt hb4)
    refine gon h29 (d := 35) rfl rfl (bnf (bunt hb4)) ?_
    refine mv h29 rfl rfl fun a30 h30 => ?_
    refine gon h30 (d := 35) rfl rfl (bnf (bunt hb4)) ?_
    refine ineq h30 rfl rfl rfl fun a31 h31 => ?_
    refine gon h31 (d := 32) rfl rfl hb3 ?_
    refine pkt h31 rfl (bnf (bunt hb4)) rfl rfl fun a32 h32 => ?_
    refine gon h32 (d := 32) rfl rfl hb3 ?_
    refine mv h32 rfl rfl fun a33 h33 => ?_
    refine spl h33 (d := 39) rfl (fun hb5 => ?_) (fun hb5 => ?_)
    ·
     have hp5 := of_decide_eq_false (bunt hb5)
     refine goff h33 (d := 39) rfl rfl (bnf (bunt hb5)) rfl fun a34 h34 => ?_
     refine goff h34 (d := 39) rfl rfl (bnf (bunt hb5)) rfl fun a35 h35 => ?_
     refine goff h35 (d := 39) rfl rfl (bnf (bunt hb5)) rfl fun a36 h36 => ?_
     refine gon h36 (d := 32) rfl rfl hb3 ?_
     refine pkt h36 rfl (bnf (bunt hb5)) rfl rfl fun a37 h37 => ?_
     refine pkt h37 rfl hb3 rfl rfl fun a38 h38 => ?_
     refine asg h38 rfl rfl fun a39 h39 => ?_
     clear hK8 h22 h23 h24 h25 h26 h27 h28 h29 h30 h31 h32 h33 h34 h35 h36 h37 h38 K8 a22 a23 a24 a25 a26 a27 a28 a29 a30 a31 a32 a33 a34 a35 a36 a37 a38
     refine wpL_nil (hK9 _ _ ?_)
     refine rtn (leave h39 (res1 h39 rfl (rvt rfl)) ?_)
     first | exact ⟨_, rfl, rfl, hB⟩ | exact ⟨_, rfl, by rw [hls.2.1], hB⟩ | exact ⟨_, rfl, by rw [hno2 75 (.inl rfl) (UInt8.toNat_inj.1 (show kind.toNat = 75 by omega)) hno.2]; rfl, hB⟩ | exact ⟨_, rfl, by rw [hno2 76 (.inr rfl) (UInt8.toNat_inj.1 (show kind.toNat = 76 by omega)) hno.2]; rfl, hB⟩
    ·
     have hp5 := of_decide_eq_true (bunf hb5)
     refine gon h33 (d := 39) rfl rfl (bnt (bunf hb5)) ?_
     refine mv h33 rfl rfl fun a40 h40 => ?_
     refine gon h40 (d := 39) rfl rfl (bnt (bunf hb5)) ?_
     refine cal h40 Try.call35 rfl (c_longText _ _) rfl ?_
     rintro v3 w3 a41 ⟨rfl, rfl⟩ h41
     refine gon h41 (d := 39) rfl rfl (bnt (bunf hb5)) ?_
     refine unot h41 rfl rfl fun a42 h42 => ?_
     refine gon h42 (d := 32) rfl rfl hb3 ?_
     refine pkf h42 rfl (bnt (bunf hb5)) rfl rfl fun a43 h43 => ?_
     refine pkt h43 rfl hb3 rfl rfl fun a44 h44 => ?_
     refine asg h44 rfl rfl fun a45 h45 => ?_
     clear hK8 h22 h23 h24 h25 h26 h27 h28 h29 h30 h31 h32 h33 h40 h41 h42 h43 h44 K8 a22 a23 a24 a25 a26 a27 a28 a29 a30 a31 a32 a33 a40 a41 a42 a43 a44
     refine wpL_nil (hK9 _ _ ?_)
     refine rtn (leave h45 (res1 h45 rfl (rvt rfl)) ?_)
     first | exact ⟨_, rfl, rfl, hB⟩ | exact ⟨_, rfl, by rw [hls.2.1], hB⟩ | exact ⟨_, rfl, by rw [hno2 75 (.inl rfl) (UInt8.toNat_inj.1 (show kind.toNat = 75 by omega)) hno.2]; rfl, hB⟩ | exact ⟨_, rfl, by rw [hno2 76 (.inr rfl) (UInt8.toNat_inj.1 (show kind.toNat = 76 by omega)) hno.2]; rfl, hB⟩
   ·
    have hp4 := of_decide_eq_true (bunf hb4)
    refine goff h29 (d := 35) rfl rfl (bnt (bunf hb4)) rfl fun a46 h46 => ?_
    refine goff h46 (d := 35) rfl rfl (bnt (bunf hb4)) rfl fun a47 h47 => ?_
    refine gon h47 (d := 32) rfl rfl hb3 ?_
    refine pkf h47 rfl (bnt (bunf hb4)) rfl rfl fun a48 h48 => ?_
    refine gon h48 (d := 32) rfl rfl hb3 ?_
    refine mv h48 rfl rfl fun a49 h49 => ?_
    refine gon h49 (d := 39) rfl rfl rfl ?_
    refine mv h49 rfl rfl fun a50 h50 => ?_
    refine gon h50 (d := 39) rfl rfl rfl ?_
    refine cal h50 Try.call35 rfl (c_longText _ _) rfl ?_
    rintro v4 w4 a51 ⟨rfl, rfl⟩ h51
    refine gon h51 (d := 39) rfl rfl rfl ?_
    refine unot h51 rfl rfl fun a52 h52 => ?_
    refine gon h52 (d := 32) rfl rfl hb3 ?_
    refine pkf h52 rfl rfl rfl rfl fun a53 h53 => ?_
    refine pkt h53 rfl hb3 rfl rfl fun a54 h54 => ?_
    refine asg h54 rfl rfl fun a55 h55 => ?_
    clear hK8 h22 h23 h24 h25 h26 h27 h28 h29 h46 h47 h48 h49 h50 h51 h52 h53 h54 K8 a22 a23 a24 a25 a26 a27 a28 a29 a46 a47 a48 a49 a50 a51 a52 a53 a54
    refine wpL_nil (hK9 _ _ ?_)
    refine rtn (leave h55 (res1 h55 rfl (rvt rfl)) ?_)
    first | exact ⟨_, rfl, rfl, hB⟩ | exact ⟨_, rfl, by rw [hls.2.1], hB⟩ | exact ⟨_, rfl, by rw [hno2 75 (.inl rfl) (UInt8.toNat_inj.1 (show kind.toNat = 75 by omega)) hno.2]; rfl, hB⟩ | exact ⟨_, rfl, by rw [hno2 76 (.inr rfl) (UInt8.toNat_inj.1 (show kind.toNat = 76 by omega)) hno.2]; rfl, hB⟩
  ·
   have hls := Pl.longPut_some (bunf hb2)
   have hsl := Pl.longText_len hls.2.1
   have hcl := Pl.cut_long hls.2.1
   have hpl : ((Pl.longPut kind s).getD []).length = 2 := by rw [hls.2.2, List.length_cons, hcl]
   have htx : Pl.textB ((((Pl.longPut kind s).getD []).take ((Pl.longPut kind s).getD []).length).drop 1) ((s.length : Int) + 1) = some (s ++ [0]) := by rw [List.take_length, hls.2.2]; have := Pl.textB_cutB (s ++ [0]); simpa using this
   have hmb : Pl.mayB ((Pl.longPut kind s).getD []) = true := by rw [hls.2.2]; exact long_mayB hls.1 hsl.2.1
   have hgt := Pl.longHead_get hls.1 hsl.2.1
   refine cdf h22 rfl (bnt (bunf hb2)) ?_
   refine skp (hK7 _ _ ?_)
   refine sq fun K10 hK10 => ?_
   refine sq fun K11 hK11 => ?_
   refine reg [some 45, some 46, some 47] rfl ?_
   refine mv h22 rfl rfl fun a56 h56 => ?_
   refine lnx h56 rfl Try.underlying25 rfl hp2'.isl rfl fun a57 h57 => ?_
   refine lss h57 rfl rfl rfl fun a58 h58 => ?_
   clear hK8 hK7 h22 h56 h57 K8 K7 a22 a56 a57
   refine wpL_nil (hK11 _ _ ?_)
   refine knownF h58 (d := 47) rfl (by rw [hpl]; rfl) fun hb8 => ?_
   have hp8 := of_decide_eq_false hb8
   refine cdf h58 rfl hb8 ?_
   refine skp (hK10 _ _ ?_)
   refine sq fun K12 hK12 => ?_
   refine reg [some 49, some 50, some 51, some 52, some 48, some 53, some 54, some 8, none, some 9] rfl ?_
   refine mv h58 rfl rfl fun a59 h59 => ?_
   refine ixR (k := 0) hp2' h59 rfl rfl Try.underlying25 Try.sizeOf35 Try.isAgg35 (by simp) (by rw [hls.2.2]; rfl) rfl rfl fun a60 z50 v51' h60 hs51 => ?_
   refine cal h60 Try.call36 rfl (c_headGet _ _ _ hs51) rfl ?_
   rintro v5 w5 a61 ⟨rfl, hk5⟩ h61
   replace hB := Kept.trans hB hk5
   replace hp2' := hp2'.kept hk5
   replace hlw2 := Nat.le_trans hlw2 hk5.size
   refine mv h61 rfl rfl fun a62 h62 => ?_
   refine ext2_0 h62 rfl rfl fun a63 h63 => ?_
   refine ext2_1 h63 rfl rfl fun a64 h64 => ?_
   refine alc h64 Try.zeroValue41 rfl rfl fun a65 w6 g8 h65 hk6 hz8 hg8 => ?_
   have hleg8 := Nat.le_trans hB.size hz8
   have hNhlw2g8 := Nat.le_trans hlw2 hz8
   replace hB := Kept.trans hB hk6
   replace hp2' := hp2'.kept hk6
   replace hlw2 := Nat.le_trans hlw2 hk6.size
   refine stb h65 hg8 rfl rfl _ rfl Try.sizeOf41 (hd_one _) _ (by simp [hdCells]) rfl fun w7 hg8' hk7 => ?_
   replace hB := Kept.but hB hk7 (by omega)
   replace hp2' := hp2'.but hk7 (by first | (show ¬ (_ < _); omega) | (simp; omega))
   replace hlw2 := Nat.le_trans hlw2 hk7.size
   clear hg8; have hg8 := hg8'; clear hg8'
   refine asg h65 rfl rfl fun a66 h66 => ?_
   clear hK11 hK10 h58 h59 h60 h61 h62 h63 h64 h65 K11 K10 a58 a59 a60 a61 a62 a63 a64 a65
   refine wpL_nil (hK12 _ _ ?_)
   refine sq fun K13 hK13 => ?_
   refine reg [some 56, some 57, some 58, some 59, some 60, some 61, some 55, some 62, some 63, some 10, some 11] rfl ?_
   refine mv h66 rfl rfl fun a67 h67 => ?_
   refine slR (1) (((Pl.longPut kind s).getD []).length) hp2' h67 Try.underlying25 rfl Try.sizeOf35 ⟨_, rfl, by first | omega | (simp; omega)⟩ rfl (by rw [hpl]; omega) (Nat.le_refl _) rfl fun a68 v57' h68 hs57 => ?_
   refine mv h68 rfl rfl fun a69 h69 => ?_
   refine lens h69 rfl Try.underlying9 rfl rfl fun a70 h70 => ?_
   refine add h70 rfl rfl rfl (by omega) fun a71 h71 => ?_
   refine cal h71 Try.call37 rfl (c_text _ _ _ _ hs57 (by rw [List.take_length, List.length_drop, hpl]; omega) ⟨by omega, by omega⟩) rfl ?_
   rintro v8 w8 a72 ⟨rfl, hk8⟩ h72
   replace hB := Kept.trans hB hk8
   replace hp2' := hp2'.kept hk8
   replace hlw2 := Nat.le_trans hlw2 hk8.size
   replace hg8 := hg8.kept hk8
   refine mv h72 rfl rfl fun a73 h73 => ?_
   refine ext2_0 h73 rfl rfl fun a74 h74 => ?_
   refine ext2_1 h74 rfl rfl fun a75 h75 => ?_
   refine asg h75 rfl rfl fun a76 h76 => ?_
   refine asg h76 rfl rfl fun a77 h77 => ?_
   clear hK12 h66 h67 h68 h69 h70 h71 h72 h73 h74 h75 h76 K12 a66 a67 a68 a69 a70 a71 a72 a73 a74 a75 a76
   refine wpL_nil (hK13 _ _ ?_)
   refine sq fun K14 hK14 => ?_
   refine reg [some 64, some 65, some 66, some 67, some 68, some 69, some 70, some 71, some 72, some 73, some 74, some 75, some 76, some 77, some 78, some 79, some 80, some 81, some 82, some 83, some 84, some 85, some 86, some 87, some 88, some 89, some 90, some 91, some 92, some 93, some 94, some 95, some 96, some 97, some 98, some 99, some 100, some 101, some 4] rfl ?_
   refine mv h77 rfl rfl fun a78 h78 => ?_
   refine ieq h78 rfl rfl rfl fun a79 h79 => ?_
   refine mv h79 rfl rfl fun a80 h80 => ?_
   refine knownT h80 (d := 66) rfl (by rw [hgt]; rfl) fun hb10 => ?_
   have hp10 := of_decide_eq_true hb10
   refine gon h80 (d := 66) rfl rfl hb10 ?_
   refine fab h80 rfl Try.underlying41 rfl Try.sizeOf5 rfl 8 rfl rfl fun a81 h81 => ?_
   refine gon h81 (d := 66) rfl rfl hb10 ?_
   refine ldb h81 hg8 rfl Try.isAgg5 rfl rfl fun a82 h82 => ?_
   refine gon h82 (d := 66) rfl rfl hb10 ?_
   refine mv h82 rfl rfl fun a83 h83 => ?_
   refine gon h83 (d := 66) rfl rfl hb10 ?_
   refine ieq h83 rfl rfl rfl fun a84 h84 => ?_
   refine pkt h84 rfl hb10 rfl rfl fun a85 h85 => ?_
   refine mv h85 rfl rfl fun a86 h86 => ?_
   refine knownT h86 (d := 72) rfl (by rw [hgt]; simp [Pl.longHead]) fun hb11 => ?_
   have hp11 := of_decide_eq_true hb11
   refine gon h86 (d := 72) rfl rfl hb11 ?_
   refine fab h86 rfl Try.underlying41 rfl Try.sizeOf3 rfl 6 rfl rfl fun a87 h87 => ?_
   refine gon h87 (d := 72) rfl rfl hb11 ?_
   refine ldb h87 hg8 rfl Try.isAgg3 rfl rfl fun a88 h88 => ?_
   refine gon h88 (d := 72) rfl rfl hb11 ?_
   refine mv h88 rfl rfl fun a89 h89 => ?_
   refine gon h89 (d := 72) rfl rfl hb11 ?_
   refine lens h89 rfl Try.underlying9 rfl rfl fun a90 h90 => ?_
   refine gon h90 (d := 72) rfl rfl hb11 ?_
   refine add h90 rfl rfl rfl (by omega) fun a91 h91 => ?_
   refine gon h91 (d := 72) rfl rfl hb11 ?_
   refine ieq h91 rfl rfl rfl fun a92 h92 => ?_
   refine pkt h92 rfl hb11 rfl rfl fun a93 h93 => ?_
   refine mv h93 rfl rfl fun a94 h94 => ?_
   refine knownT h94 (d := 80) rfl (by rw [hgt]; simp [Pl.longHead]) fun hb12 => ?_
   have hp12 := of_decide_eq_true hb12
   refine gon h94 (d := 80) rfl rfl hb12 ?_
   refine mv h94 rfl rfl fun a95 h95 => ?_
   refine pkt h95 rfl hb12 rfl rfl fun a96 h96 => ?_
   refine mv h96 rfl rfl fun a97 h97 => ?_
   refine knownT h97 (d := 83) rfl (by rw [htx]; rfl) fun hb9 => ?_
   refine gon h97 (d := 83) rfl rfl hb9 ?_
   refine mv h97 rfl rfl fun a98 h98 => ?_
   refine gon h98 (d := 83) rfl rfl hb9 ?_
   refine mv h98 rfl rfl fun a99 h99 => ?_
   refine gon h99 (d := 83) rfl rfl hb9 ?_
   refine sadd h99 rfl rfl rfl (by simp; omega) fun a100 h100 => ?_
   refine gon h100 (d := 83) rfl rfl hb9 ?_
   refine seq h100 rfl rfl rfl fun a101 h101 => ?_
   refine pkt h101 rfl hb9 rfl rfl fun a102 h102 => ?_
   refine mv h102 rfl rfl fun a103 h103 => ?_
   refine knownT h103 (d := 89) rfl (by rw [htx]; simp) fun hb13 => ?_
   have hp13 := of_decide_eq_true hb13
   refine gon h103 (d := 89) rfl rfl hb13 ?_
   refine mv h103 rfl rfl fun a104 h104 => ?_
   refine gon h104 (d := 89) rfl rfl hb13 ?_
   refine cal h104 Try.call38 rfl (c_bmay _ _ _ hp2') rfl ?_
   rintro v9 w9 a105 ⟨rfl, hk9⟩ h105
   replace hB := Kept.trans hB hk9
   replace hp2' := hp2'.kept hk9
   replace hlw2 := Nat.le_trans hlw2 hk9.size
   refine pkt h105 rfl hb13 rfl rfl fun a106 h106 => ?_
   refine mv h106 rfl rfl fun a107 h107 => ?_
   refine knownT h107 (d := 93) rfl (hmb) fun hb14 => ?_
   refine gon h107 (d := 93) rfl rfl hb14 ?_
   refine mv h107 rfl rfl fun a108 h108 => ?_
   refine gon h108 (d := 93) rfl rfl hb14 ?_
   refine lnx h108 rfl Try.underlying25 rfl hp2'.isl rfl fun a109 h109 => ?_
   refine gon h109 (d := 93) rfl rfl hb14 ?_
   refine ieq h109 rfl rfl rfl fun a110 h110 => ?_
   refine pkt h110 rfl hb14 rfl rfl fun a111 h111 => ?_
   refine mv h111 rfl rfl fun a112 h112 => ?_
   refine knownT h112 (d := 98) rfl (by rw [hpl]; rfl) fun hb15 => ?_
   have hp15 := of_decide_eq_true hb15
   refine gon h112 (d := 98) rfl rfl hb15 ?_
   refine mv h112 rfl rfl fun a113 h113 => ?_
   refine gon h113 (d := 98) rfl rfl hb15 ?_
   refine cal h113 Try.call35 rfl (c_longText _ _) rfl ?_
   rintro v10 w10 a114 ⟨rfl, rfl⟩ h114
   refine pkt h114 rfl hb15 rfl rfl fun a115 h115 => ?_
   refine asg h115 rfl rfl fun a116 h116 => ?_
   clear hK13 h77 h78 h79 h80 h81 h82 h83 h84 h85 h86 h87 h88 h89 h90 h91 h92 h93 h94 h95 h96 h97 h98 h99 h100 h101 h102 h103 h104 h105 h106 h107 h108 h109 h110 h111 h112 h113 h114 h115 K13 a77 a78 a79 a80 a81 a82 a83 a84 a85 a86 a87 a88 a89 a90 a91 a92 a93 a94 a95 a96 a97 a98 a99 a100 a101 a102 a103 a104 a105 a106 a107 a108 a109 a110 a111 a112 a113 a114 a115
   refine wpL_nil (hK14 _ _ ?_)
   refine rtn (leave h116 (res1 h116 rfl (rvt rfl)) ?_)
   first | exact ⟨_, rfl, rfl, hB⟩ | exact ⟨_, rfl, by rw [hls.2.1], hB⟩ | exact ⟨_, rfl, by rw [hno2 75 (.inl rfl) (UInt8.toNat_inj.1 (show kind.toNat = 75 by omega)) hno.2]; rfl, hB⟩ | exact ⟨_, rfl, by rw [hno2 76 (.inr rfl) (UInt8.toNat_inj.1 (show kind.toNat = 76 by omega)) hno.2]; rfl, hB⟩

end Go.Proofs.Ytpgeogdmjgmimaa
