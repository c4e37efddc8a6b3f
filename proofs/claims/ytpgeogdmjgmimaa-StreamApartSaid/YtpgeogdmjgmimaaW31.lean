/-
  Walks, written by wip/gen/gen.py.
-/
import Derived.Test.YtpgeogdmjgmimaaW30
import Derived.Test.YtpgeogdmjgmimaaPStream
set_option linter.unusedVariables false
set_option linter.unusedSimpArgs false
set_option maxRecDepth 4000
namespace Go.Proofs.Ytpgeogdmjgmimaa
open Go Go.RowKit K

theorem few6_L {t : List Pl.Nd} (h : few6 t = true) : (∀ n ∈ t, NdL n) ∧ t.length ≤ 30 := by
  unfold few6 at h
  rw [Bool.and_eq_true, List.all_eq_true] at h
  exact ⟨fun n hn => few5_L (h.2 n hn), of_decide_eq_true h.1⟩

/-- reelkeeperlaw08.StreamApart -/
theorem c_streamApart {S1 S2 : Nat → Prop} (a b : Value) (t u : List Pl.Nd) (w : World) (hv : Sts ndCells S1 w a t) (hu : Sts ndCells S2 w b u) :
  C Try.prog 4 [a, b] w fun v w' => v = .bool true ∧ Kept w w' := by
 replace hv := hv.lt
 replace hu := hu.lt
 refine enterE Try.func4 rfl 61 rfl rfl fun a0 h0 => ?_
 have hB := Kept.refl w
 refine sq fun K1 hK1 => ?_
 refine reg [some 4] rfl ?_
 refine asg h0 rfl rfl fun a1 h1 => ?_
 clear h0 a0
 refine wpL_nil (hK1 _ _ ?_)
 refine sq fun K2 hK2 => ?_
 refine reg [some 13, some 5] rfl ?_
 refine cal h1 Try.call24 rfl (c_wake08 _) rfl ?_
 rintro v1 w1 a2 ⟨rfl, hk1⟩ h2
 replace hB := Kept.trans hB hk1
 replace hv := hv.kept hk1
 replace hu := hu.kept hk1
 refine asg h2 rfl rfl fun a3 h3 => ?_
 clear hK1 h1 h2 K1 a1 a2
 refine wpL_nil (hK2 _ _ ?_)
 refine sq fun K3 hK3 => ?_
 refine reg [some 14, some 15, some 6] rfl ?_
 refine mv h3 rfl rfl fun a4 h4 => ?_
 refine cal h4 Try.call25 rfl (c_few6 _ _ _ hv) rfl ?_
 rintro v2 w2 a5 ⟨rfl, hk2⟩ h5
 replace hB := Kept.trans hB hk2
 replace hv := hv.kept hk2
 replace hu := hu.kept hk2
 refine asg h5 rfl rfl fun a6 h6 => ?_
 clear hK2 h3 h4 h5 K2 a3 a4 a5
 refine wpL_nil (hK3 _ _ ?_)
 refine sq fun K4 hK4 => ?_
 refine reg [some 16, some 17, some 7] rfl ?_
 refine mv h6 rfl rfl fun a7 h7 => ?_
 refine cal h7 Try.call25 rfl (c_few6 _ _ _ hu) rfl ?_
 rintro v3 w3 a8 ⟨rfl, hk3⟩ h8
 replace hB := Kept.trans hB hk3
 replace hv := hv.kept hk3
 replace hu := hu.kept hk3
 refine asg h8 rfl rfl fun a9 h9 => ?_
 clear hK3 h6 h7 h8 K3 a6 a7 a8
 refine wpL_nil (hK4 _ _ ?_)
 refine sq fun K5 hK5 => ?_
 refine sq fun K6 hK6 => ?_
 refine reg [some 18, some 19, some 20, some 21, some 22, some 23, some 24, some 25, some 26, some 27] rfl ?_
 refine mv h9 rfl rfl fun a10 h10 => ?_
 refine unot h10 rfl rfl fun a11 h11 => ?_
 refine mv h11 rfl rfl fun a12 h12 => ?_
 refine gon h12 (d := 20) rfl rfl rfl ?_
 refine mv h12 rfl rfl fun a13 h13 => ?_
 refine gon h13 (d := 20) rfl rfl rfl ?_
 refine unot h13 rfl rfl fun a14 h14 => ?_
 refine pkf h14 rfl rfl rfl rfl fun a15 h15 => ?_
 refine mv h15 rfl rfl fun a16 h16 => ?_
 refine spl h16 (d := 24) rfl (fun hb1 => ?_) (fun hb1 => ?_)
 ·
  refine goff h16 (d := 24) rfl rfl (bnf (bunt hb1)) rfl fun a17 h17 => ?_
  refine goff h17 (d := 24) rfl rfl (bnf (bunt hb1)) rfl fun a18 h18 => ?_
  refine pkt h18 rfl (bnf (bunt hb1)) rfl rfl fun a19 h19 => ?_
  clear hK4 h9 h10 h11 h12 h13 h14 h15 h16 h17 h18 K4 a9 a10 a11 a12 a13 a14 a15 a16 a17 a18
  refine wpL_nil (hK6 _ _ ?_)
  refine cdt h19 rfl rfl ?_
  refine sq fun K7 hK7 => ?_
  refine reg [some 28, some 4] rfl ?_
  refine mv h19 rfl rfl fun a20 h20 => ?_
  refine asg h20 rfl rfl fun a21 h21 => ?_
  clear hK6 h19 h20 K6 a19 a20
  refine wpL_nil (hK7 _ _ ?_)
  refine rtn (leave h21 (res1 h21 rfl (rvt rfl)) ?_)
  first | exact ⟨_, rfl, rfl, hB⟩ | exact ⟨_, rfl, by have hX := Pl.allB_inj hmt hmu; simp [hX], hB⟩
 ·
  obtain ⟨hnt, ht30⟩ := few6_L (bunf hb1)
  refine gon h16 (d := 24) rfl rfl (bnt (bunf hb1)) ?_
  refine mv h16 rfl rfl fun a22 h22 => ?_
  refine gon h22 (d := 24) rfl rfl (bnt (bunf hb1)) ?_
  refine unot h22 rfl rfl fun a23 h23 => ?_
  refine pkf h23 rfl (bnt (bunf hb1)) rfl rfl fun a24 h24 => ?_
  clear hK4 h9 h10 h11 h12 h13 h14 h15 h16 h22 h23 K4 a9 a10 a11 a12 a13 a14 a15 a16 a22 a23
  refine wpL_nil (hK6 _ _ ?_)
  refine spl h24 (d := 27) rfl (fun hb2 => ?_) (fun hb2 => ?_)
  ·
   refine cdt h24 rfl (bnf (bunt hb2)) ?_
   refine sq fun K8 hK8 => ?_
   refine reg [some 28, some 4] rfl ?_
   refine mv h24 rfl rfl fun a25 h25 => ?_
   refine asg h25 rfl rfl fun a26 h26 => ?_
   clear hK6 h24 h25 K6 a24 a25
   refine wpL_nil (hK8 _ _ ?_)
   refine rtn (leave h26 (res1 h26 rfl (rvt rfl)) ?_)
   first | exact ⟨_, rfl, rfl, hB⟩ | exact ⟨_, rfl, by have hX := Pl.allB_inj hmt hmu; simp [hX], hB⟩
  ·
   obtain ⟨hnu, hu30⟩ := few6_L (bunf hb2)
   refine cdf h24 rfl (bnt (bunf hb2)) ?_
   refine skp (hK5 _ _ ?_)
   refine sq fun K9 hK9 => ?_
   refine reg [some 30, some 31, some 29, some 32, some 33, some 8, some 9] rfl ?_
   refine mv h24 rfl rfl fun a27 h27 => ?_
   have hsz4 := hB.size
   refine cal h27 Try.call27 rfl (c_all _ _ _ hv hnt) rfl ?_
   rintro v4 w4 a28 ⟨⟨qp4, rfl, hp4'⟩, hk4⟩ h28
   replace hB := Kept.trans hB hk4
   replace hv := hv.kept hk4
   replace hu := hu.kept hk4
   replace hp4' := hp4'.lt
   refine mv h28 rfl rfl fun a29 h29 => ?_
   refine ext2_0 h29 rfl rfl fun a30 h30 => ?_
   refine ext2_1 h30 rfl rfl fun a31 h31 => ?_
   refine asg h31 rfl rfl fun a32 h32 => ?_
   refine asg h32 rfl rfl fun a33 h33 => ?_
   clear hK6 hK5 h24 h27 h28 h29 h30 h31 h32 K6 K5 a24 a27 a28 a29 a30 a31 a32
   refine wpL_nil (hK9 _ _ ?_)
   refine sq fun K10 hK10 => ?_
   refine reg [some 35, some 36, some 34, some 37, some 38, some 10, some 11] rfl ?_
   refine mv h33 rfl rfl fun a34 h34 => ?_
   have hsz5 := hB.size
   refine cal h34 Try.call27 rfl (c_all _ _ _ hu hnu) rfl ?_
   rintro v5 w5 a35 ⟨⟨qp5, rfl, hp5'⟩, hk5⟩ h35
   replace hB := Kept.trans hB hk5
   replace hv := hv.kept hk5
   replace hu := hu.kept hk5
   replace hp4' := hp4'.kept hk5
   replace hp5' := hp5'.lt
   refine mv h35 rfl rfl fun a36 h36 => ?_
   refine ext2_0 h36 rfl rfl fun a37 h37 => ?_
   refine ext2_1 h37 rfl rfl fun a38 h38 => ?_
   refine asg h38 rfl rfl fun a39 h39 => ?_
   refine asg h39 rfl rfl fun a40 h40 => ?_
   clear hK9 h33 h34 h35 h36 h37 h38 h39 K9 a33 a34 a35 a36 a37 a38 a39
   refine wpL_nil (hK10 _ _ ?_)
   refine sq fun K11 hK11 => ?_
   refine reg [some 39, some 40, some 41, some 12] rfl ?_
   refine mv h40 rfl rfl fun a41 h41 => ?_
   refine mv h41 rfl rfl fun a42 h42 => ?_
   refine cal h42 Try.call30 rfl (c_rsame _ _ _ _ _ hp4' hp5') rfl ?_
   rintro v6 w6 a43 ⟨rfl, hk6⟩ h43
   replace hB := Kept.trans hB hk6
   replace hv := hv.kept hk6
   replace hu := hu.kept hk6
   refine asg h43 rfl rfl fun a44 h44 => ?_
   clear hK10 h40 h41 h42 h43 K10 a40 a41 a42 a43
   refine wpL_nil (hK11 _ _ ?_)
   refine sq fun K12 hK12 => ?_
   refine reg [some 42, some 43, some 44, some 45, some 46, some 47, some 48, some 49, some 50, some 51, some 52, some 53, some 54, some 55, some 56, some 57, some 58, some 59, some 60, some 4] rfl ?_
   refine mv h44 rfl rfl fun a45 h45 => ?_
   refine mv h45 rfl rfl fun a46 h46 => ?_
   refine cal h46 Try.call26 rfl (c_treeMay _ _ _ hv hnt) rfl ?_
   rintro v7 w7 a47 ⟨rfl, hk7⟩ h47
   replace hB := Kept.trans hB hk7
   replace hv := hv.kept hk7
   replace hu := hu.kept hk7
   refine beqv h47 Try.underlying4 rfl rfl rfl fun a48 h48 => ?_
   refine mv h48 rfl rfl fun a49 h49 => ?_
   refine knownT h49 (d := 46) rfl (by simp) fun hb7 => ?_
   refine gon h49 (d := 46) rfl rfl hb7 ?_
   refine mv h49 rfl rfl fun a50 h50 => ?_
   refine gon h50 (d := 46) rfl rfl hb7 ?_
   refine unot h50 rfl rfl fun a51 h51 => ?_
   refine gon h51 (d := 46) rfl rfl hb7 ?_
   refine mv h51 rfl rfl fun a52 h52 => ?_
   refine spl h52 (d := 49) rfl (fun hb3 => ?_) (fun hb3 => ?_)
   ·
    refine goff h52 (d := 49) rfl rfl (bnf (bunt hb3)) rfl fun a53 h53 => ?_
    refine goff h53 (d := 49) rfl rfl (bnf (bunt hb3)) rfl fun a54 h54 => ?_
    refine gon h54 (d := 46) rfl rfl hb7 ?_
    refine pkt h54 rfl (bnf (bunt hb3)) rfl rfl fun a55 h55 => ?_
    refine gon h55 (d := 46) rfl rfl hb7 ?_
    refine mv h55 rfl rfl fun a56 h56 => ?_
    refine goff h56 (d := 53) rfl rfl rfl rfl fun a57 h57 => ?_
    refine goff h57 (d := 53) rfl rfl rfl rfl fun a58 h58 => ?_
    refine goff h58 (d := 53) rfl rfl rfl rfl fun a59 h59 => ?_
    refine goff h59 (d := 53) rfl rfl rfl rfl fun a60 h60 => ?_
    refine goff h60 (d := 53) rfl rfl rfl rfl fun a61 h61 => ?_
    refine gon h61 (d := 46) rfl rfl hb7 ?_
    refine pkt h61 rfl rfl rfl rfl fun a62 h62 => ?_
    refine pkt h62 rfl hb7 rfl rfl fun a63 h63 => ?_
    refine asg h63 rfl rfl fun a64 h64 => ?_
    clear hK11 h44 h45 h46 h47 h48 h49 h50 h51 h52 h53 h54 h55 h56 h57 h58 h59 h60 h61 h62 h63 K11 a44 a45 a46 a47 a48 a49 a50 a51 a52 a53 a54 a55 a56 a57 a58 a59 a60 a61 a62 a63
    refine wpL_nil (hK12 _ _ ?_)
    refine rtn (leave h64 (res1 h64 rfl (rvt rfl)) ?_)
    first | exact ⟨_, rfl, rfl, hB⟩ | exact ⟨_, rfl, by have hX := Pl.allB_inj hmt hmu; simp [hX], hB⟩
   ·
    have hmt := bunf hb3
    refine gon h52 (d := 49) rfl rfl (bnt (bunf hb3)) ?_
    refine mv h52 rfl rfl fun a65 h65 => ?_
    refine gon h65 (d := 49) rfl rfl (bnt (bunf hb3)) ?_
    refine unot h65 rfl rfl fun a66 h66 => ?_
    refine gon h66 (d := 46) rfl rfl hb7 ?_
    refine pkf h66 rfl (bnt (bunf hb3)) rfl rfl fun a67 h67 => ?_
    refine gon h67 (d := 46) rfl rfl hb7 ?_
    refine mv h67 rfl rfl fun a68 h68 => ?_
    refine spl h68 (d := 53) rfl (fun hb4 => ?_) (fun hb4 => ?_)
    ·
     refine goff h68 (d := 53) rfl rfl (bnf (bunt hb4)) rfl fun a69 h69 => ?_
     refine goff h69 (d := 53) rfl rfl (bnf (bunt hb4)) rfl fun a70 h70 => ?_
     refine goff h70 (d := 53) rfl rfl (bnf (bunt hb4)) rfl fun a71 h71 => ?_
     refine goff h71 (d := 53) rfl rfl (bnf (bunt hb4)) rfl fun a72 h72 => ?_
     refine goff h72 (d := 53) rfl rfl (bnf (bunt hb4)) rfl fun a73 h73 => ?_
     refine gon h73 (d := 46) rfl rfl hb7 ?_
     refine pkt h73 rfl (bnf (bunt hb4)) rfl rfl fun a74 h74 => ?_
     refine pkt h74 rfl hb7 rfl rfl fun a75 h75 => ?_
     refine asg h75 rfl rfl fun a76 h76 => ?_
     clear hK11 h44 h45 h46 h47 h48 h49 h50 h51 h52 h65 h66 h67 h68 h69 h70 h71 h72 h73 h74 h75 K11 a44 a45 a46 a47 a48 a49 a50 a51 a52 a65 a66 a67 a68 a69 a70 a71 a72 a73 a74 a75
     refine wpL_nil (hK12 _ _ ?_)
     refine rtn (leave h76 (res1 h76 rfl (rvt rfl)) ?_)
     first | exact ⟨_, rfl, rfl, hB⟩ | exact ⟨_, rfl, by have hX := Pl.allB_inj hmt hmu; simp [hX], hB⟩
    ·
     have hmu := bunf hb4
     refine gon h68 (d := 53) rfl rfl (bnt (bunf hb4)) ?_
     refine mv h68 rfl rfl fun a77 h77 => ?_
     refine gon h77 (d := 53) rfl rfl (bnt (bunf hb4)) ?_
     refine mv h77 rfl rfl fun a78 h78 => ?_
     refine gon h78 (d := 53) rfl rfl (bnt (bunf hb4)) ?_
     refine mv h78 rfl rfl fun a79 h79 => ?_
     refine gon h79 (d := 53) rfl rfl (bnt (bunf hb4)) ?_
     refine cal h79 Try.call32 rfl (c_tsame _ _ _ _ _ hv hu) rfl ?_
     rintro v8 w8 a80 ⟨rfl, hk8⟩ h80
     replace hB := Kept.trans hB hk8
     refine gon h80 (d := 53) rfl rfl (bnt (bunf hb4)) ?_
     refine beqv h80 Try.underlying4 rfl rfl rfl fun a81 h81 => ?_
     refine gon h81 (d := 46) rfl rfl hb7 ?_
     refine pkf h81 rfl (bnt (bunf hb4)) rfl rfl fun a82 h82 => ?_
     refine pkt h82 rfl hb7 rfl rfl fun a83 h83 => ?_
     refine asg h83 rfl rfl fun a84 h84 => ?_
     clear hK11 h44 h45 h46 h47 h48 h49 h50 h51 h52 h65 h66 h67 h68 h77 h78 h79 h80 h81 h82 h83 K11 a44 a45 a46 a47 a48 a49 a50 a51 a52 a65 a66 a67 a68 a77 a78 a79 a80 a81 a82 a83
     refine wpL_nil (hK12 _ _ ?_)
     refine rtn (leave h84 (res1 h84 rfl (rvt rfl)) ?_)
     first | exact ⟨_, rfl, rfl, hB⟩ | exact ⟨_, rfl, by have hX := Pl.allB_inj hmt hmu; simp [hX], hB⟩

end Go.Proofs.Ytpgeogdmjgmimaa
