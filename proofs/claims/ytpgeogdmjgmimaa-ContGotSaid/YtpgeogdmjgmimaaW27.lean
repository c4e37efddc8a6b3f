/-
  Walks, written by wip/gen/gen.py.
-/
import Derived.Test.YtpgeogdmjgmimaaW26
set_option linter.unusedVariables false
set_option linter.unusedSimpArgs false
set_option maxRecDepth 4000
namespace Go.Proofs.Ytpgeogdmjgmimaa
open Go Go.RowKit K

theorem place_may {n : Pl.Nd} {k : Int} (hf : Pl.isFile n = true) : Pl.contMay n (512 * k) = (decide (0 ≤ k) && decide (k < ((n.data.length : Int) + 511) / 512)) := by
  have h1 : decide ((0 : Int) ≤ 512 * k) = decide (0 ≤ k) := by
    apply decide_eq_decide.2; omega
  have h2 : decide (512 * k < (n.data.length : Int)) = decide (k < ((n.data.length : Int) + 511) / 512) := by
    apply decide_eq_decide.2; omega
  have h3 : decide (512 * k % 512 = 0) = true := by
    rw [decide_eq_true_eq]; omega
  unfold Pl.contMay
  rw [hf, h1, h2, h3]; simp
theorem place_no {n : Pl.Nd} {k : Int} : Pl.contMay n (512 * k + 1) = false := by
  have h3 : decide ((512 * k + 1) % 512 = 0) = false := by
    rw [decide_eq_false_iff_not]; omega
  unfold Pl.contMay
  rw [h3]; simp
theorem place_many {n : Pl.Nd} (hf : Pl.isFile n = true) : (decide (Pl.contMany n = 3) == decide (100 < (n.path.length : Int))) = true := by
  unfold Pl.contMany
  rw [if_neg (by rw [hf]; decide)]
  by_cases h : 100 < n.path.length
  · have : (100 : Int) < n.path.length := by omega
    rw [if_pos h, decide_eq_true this]; rfl
  · have : ¬ (100 : Int) < n.path.length := by omega
    rw [if_neg h, decide_eq_false this]; rfl
theorem many_file {n : Pl.Nd} (h : ¬ Pl.contMany n = 0) : Pl.isFile n = true := by
  cases hf : Pl.isFile n with
  | true => rfl
  | false => exact absurd (by unfold Pl.contMany; rw [if_pos hf]) h
theorem apart_same {n m : Pl.Nd} {off at_ : Int} (h : (Pl.contPut n off).isSome = true) (h' : (Pl.contPut m at_).isSome = true) :
    decide ((Pl.contPut n off).getD [] = (Pl.contPut m at_).getD []) = (decide (Pl.nd0 n = Pl.nd0 m) && (decide (off = at_) && decide ((n.data.length : Int) = m.data.length))) := by
  have p := Pl.contPut_some h
  have q := Pl.contPut_some h'
  rw [p.2, q.2]
  rw [Option.getD_some, Option.getD_some, decide_eq_decide.2 (Pl.contRaw_inj p.1 q.1), Bool.decide_and, Bool.decide_and]

/-- reelkeeperlaw15.ContPlaces -/
theorem c_contPlaces (n : Pl.Nd) (k : Int) (w : World) (hkk : -9223372036854775808 ≤ k ∧ k ≤ 9223372036854775807) :
  C Try.prog 12 [ndV n, .int .i64 k] w fun v w' => v = .bool true ∧ Kept w w' := by
 refine enterE Try.func12 rfl 66 rfl rfl fun a0 h0 => ?_
 have hB := Kept.refl w
 refine sq fun K1 hK1 => ?_
 refine reg [some 2, some 4] rfl ?_
 refine bxv h0 rfl rfl rfl fun a1 w1 g2 h1 hk1 hz2 hg2 => ?_
 have hleg2 := Nat.le_trans hB.size hz2
 replace hB := Kept.trans hB hk1
 refine asg h1 rfl rfl fun a2 h2 => ?_
 clear h0 h1 a0 a1
 refine wpL_nil (hK1 _ _ ?_)
 refine sq fun K2 hK2 => ?_
 refine reg [some 8, some 5] rfl ?_
 refine cal h2 Try.call46 rfl (c_wake15 _) rfl ?_
 rintro v2 w2 a3 ⟨rfl, hk2⟩ h3
 replace hB := Kept.trans hB hk2
 replace hg2 := hg2.kept hk2
 refine asg h3 rfl rfl fun a4 h4 => ?_
 clear hK1 h2 h3 K1 a2 a3
 refine wpL_nil (hK2 _ _ ?_)
 refine sq fun K3 hK3 => ?_
 refine reg [some 9, some 10, some 6] rfl ?_
 refine ldbn h4 hg2 ([str n.path, str n.link, u8 n.kind, .int .i64 n.mode, .int .i64 n.uid, .int .i64 n.gid, .int .i64 n.mtime, str n.data]) rfl Try.isAgg32 Try.sizeOf32 rfl rfl fun a5 h5 => ?_
 refine cal h5 Try.call40 rfl (c_few5 _ _) rfl ?_
 rintro v3 w3 a6 ⟨rfl, hk3⟩ h6
 replace hB := Kept.trans hB hk3
 replace hg2 := hg2.kept hk3
 refine asg h6 rfl rfl fun a7 h7 => ?_
 clear hK2 h4 h5 h6 K2 a4 a5 a6
 refine wpL_nil (hK3 _ _ ?_)
 refine sq fun K4 hK4 => ?_
 refine sq fun K5 hK5 => ?_
 refine reg [some 11, some 12, some 13, some 14, some 15, some 16, some 17, some 18, some 19, some 20, some 21, some 22, some 23, some 24, some 25, some 26, some 27, some 28, some 29] rfl ?_
 refine mv h7 rfl rfl fun a8 h8 => ?_
 refine unot h8 rfl rfl fun a9 h9 => ?_
 refine mv h9 rfl rfl fun a10 h10 => ?_
 refine gon h10 (d := 13) rfl rfl rfl ?_
 refine mv h10 rfl rfl fun a11 h11 => ?_
 refine gon h11 (d := 13) rfl rfl rfl ?_
 refine unot h11 rfl rfl fun a12 h12 => ?_
 refine pkf h12 rfl rfl rfl rfl fun a13 h13 => ?_
 refine mv h13 rfl rfl fun a14 h14 => ?_
 refine spl h14 (d := 17) rfl (fun hb1 => ?_) (fun hb1 => ?_)
 ·
  refine goff h14 (d := 17) rfl rfl (bnf (bunt hb1)) rfl fun a15 h15 => ?_
  refine goff h15 (d := 17) rfl rfl (bnf (bunt hb1)) rfl fun a16 h16 => ?_
  refine goff h16 (d := 17) rfl rfl (bnf (bunt hb1)) rfl fun a17 h17 => ?_
  refine pkt h17 rfl (bnf (bunt hb1)) rfl rfl fun a18 h18 => ?_
  refine mv h18 rfl rfl fun a19 h19 => ?_
  refine goff h19 (d := 22) rfl rfl rfl rfl fun a20 h20 => ?_
  refine goff h20 (d := 22) rfl rfl rfl rfl fun a21 h21 => ?_
  refine pkt h21 rfl rfl rfl rfl fun a22 h22 => ?_
  refine mv h22 rfl rfl fun a23 h23 => ?_
  refine goff h23 (d := 26) rfl rfl rfl rfl fun a24 h24 => ?_
  refine goff h24 (d := 26) rfl rfl rfl rfl fun a25 h25 => ?_
  refine pkt h25 rfl rfl rfl rfl fun a26 h26 => ?_
  clear hK3 h7 h8 h9 h10 h11 h12 h13 h14 h15 h16 h17 h18 h19 h20 h21 h22 h23 h24 h25 K3 a7 a8 a9 a10 a11 a12 a13 a14 a15 a16 a17 a18 a19 a20 a21 a22 a23 a24 a25
  refine wpL_nil (hK5 _ _ ?_)
  refine cdt h26 rfl rfl ?_
  refine sq fun K6 hK6 => ?_
  refine reg [some 30, some 4] rfl ?_
  refine mv h26 rfl rfl fun a27 h27 => ?_
  refine asg h27 rfl rfl fun a28 h28 => ?_
  clear hK5 h26 h27 K5 a26 a27
  refine wpL_nil (hK6 _ _ ?_)
  refine rtn (leave h28 (res1 h28 rfl (rvt rfl)) ?_)
  first | exact ⟨_, rfl, rfl, hB⟩ | exact ⟨_, rfl, by rw [hp3], hB⟩
 ·
  obtain ⟨hn1, hn2, hn3⟩ := few5_L (bunf hb1)
  refine gon h14 (d := 17) rfl rfl (bnt (bunf hb1)) ?_
  refine ldbn h14 hg2 ([str n.path, str n.link, u8 n.kind, .int .i64 n.mode, .int .i64 n.uid, .int .i64 n.gid, .int .i64 n.mtime, str n.data]) rfl Try.isAgg32 Try.sizeOf32 rfl rfl fun a29 h29 => ?_
  refine gon h29 (d := 17) rfl rfl (bnt (bunf hb1)) ?_
  refine cal h29 Try.call54 rfl (c_contMany _ _ ⟨hn1, hn2, hn3⟩) rfl ?_
  rintro v4 w4 a30 ⟨rfl, hk4⟩ h30
  replace hB := Kept.trans hB hk4
  replace hg2 := hg2.kept hk4
  refine gon h30 (d := 17) rfl rfl (bnt (bunf hb1)) ?_
  refine ieq h30 rfl rfl rfl fun a31 h31 => ?_
  refine pkf h31 rfl (bnt (bunf hb1)) rfl rfl fun a32 h32 => ?_
  refine mv h32 rfl rfl fun a33 h33 => ?_
  refine spl h33 (d := 22) rfl (fun hb2 => ?_) (fun hb2 => ?_)
  ·
   have hp2 := of_decide_eq_true hb2
   refine goff h33 (d := 22) rfl rfl hb2 rfl fun a34 h34 => ?_
   refine goff h34 (d := 22) rfl rfl hb2 rfl fun a35 h35 => ?_
   refine pkt h35 rfl hb2 rfl rfl fun a36 h36 => ?_
   refine mv h36 rfl rfl fun a37 h37 => ?_
   refine goff h37 (d := 26) rfl rfl rfl rfl fun a38 h38 => ?_
   refine goff h38 (d := 26) rfl rfl rfl rfl fun a39 h39 => ?_
   refine pkt h39 rfl rfl rfl rfl fun a40 h40 => ?_
   clear hK3 h7 h8 h9 h10 h11 h12 h13 h14 h29 h30 h31 h32 h33 h34 h35 h36 h37 h38 h39 K3 a7 a8 a9 a10 a11 a12 a13 a14 a29 a30 a31 a32 a33 a34 a35 a36 a37 a38 a39
   refine wpL_nil (hK5 _ _ ?_)
   refine cdt h40 rfl rfl ?_
   refine sq fun K7 hK7 => ?_
   refine reg [some 30, some 4] rfl ?_
   refine mv h40 rfl rfl fun a41 h41 => ?_
   refine asg h41 rfl rfl fun a42 h42 => ?_
   clear hK5 h40 h41 K5 a40 a41
   refine wpL_nil (hK7 _ _ ?_)
   refine rtn (leave h42 (res1 h42 rfl (rvt rfl)) ?_)
   first | exact ⟨_, rfl, rfl, hB⟩ | exact ⟨_, rfl, by rw [hp3], hB⟩
  ·
   have hp2 := of_decide_eq_false hb2
   have hbm := hb2
   refine gon h33 (d := 22) rfl rfl hb2 ?_
   refine mv h33 rfl rfl fun a43 h43 => ?_
   refine gon h43 (d := 22) rfl rfl hb2 ?_
   refine lss h43 rfl rfl rfl fun a44 h44 => ?_
   refine pkf h44 rfl hb2 rfl rfl fun a45 h45 => ?_
   refine mv h45 rfl rfl fun a46 h46 => ?_
   refine spl h46 (d := 26) rfl (fun hb3 => ?_) (fun hb3 => ?_)
   ·
    have hp3 := of_decide_eq_true hb3
    refine goff h46 (d := 26) rfl rfl hb3 rfl fun a47 h47 => ?_
    refine goff h47 (d := 26) rfl rfl hb3 rfl fun a48 h48 => ?_
    refine pkt h48 rfl hb3 rfl rfl fun a49 h49 => ?_
    clear hK3 h7 h8 h9 h10 h11 h12 h13 h14 h29 h30 h31 h32 h33 h43 h44 h45 h46 h47 h48 K3 a7 a8 a9 a10 a11 a12 a13 a14 a29 a30 a31 a32 a33 a43 a44 a45 a46 a47 a48
    refine wpL_nil (hK5 _ _ ?_)
    refine cdt h49 rfl rfl ?_
    refine sq fun K8 hK8 => ?_
    refine reg [some 30, some 4] rfl ?_
    refine mv h49 rfl rfl fun a50 h50 => ?_
    refine asg h50 rfl rfl fun a51 h51 => ?_
    clear hK5 h49 h50 K5 a49 a50
    refine wpL_nil (hK8 _ _ ?_)
    refine rtn (leave h51 (res1 h51 rfl (rvt rfl)) ?_)
    first | exact ⟨_, rfl, rfl, hB⟩ | exact ⟨_, rfl, by rw [hp3], hB⟩
   ·
    have hp3 := of_decide_eq_false hb3
    have hk20 := of_decide_eq_false hb3
    refine gon h46 (d := 26) rfl rfl hb3 ?_
    refine mv h46 rfl rfl fun a52 h52 => ?_
    refine gon h52 (d := 26) rfl rfl hb3 ?_
    refine gtr h52 rfl rfl rfl fun a53 h53 => ?_
    refine pkf h53 rfl hb3 rfl rfl fun a54 h54 => ?_
    clear hK3 h7 h8 h9 h10 h11 h12 h13 h14 h29 h30 h31 h32 h33 h43 h44 h45 h46 h52 h53 K3 a7 a8 a9 a10 a11 a12 a13 a14 a29 a30 a31 a32 a33 a43 a44 a45 a46 a52 a53
    refine wpL_nil (hK5 _ _ ?_)
    refine spl h54 (d := 29) rfl (fun hb4 => ?_) (fun hb4 => ?_)
    ·
     have hp4 := of_decide_eq_true hb4
     refine cdt h54 rfl hb4 ?_
     refine sq fun K9 hK9 => ?_
     refine reg [some 30, some 4] rfl ?_
     refine mv h54 rfl rfl fun a55 h55 => ?_
     refine asg h55 rfl rfl fun a56 h56 => ?_
     clear hK5 h54 h55 K5 a54 a55
     refine wpL_nil (hK9 _ _ ?_)
     refine rtn (leave h56 (res1 h56 rfl (rvt rfl)) ?_)
     first | exact ⟨_, rfl, rfl, hB⟩ | exact ⟨_, rfl, by rw [hp3], hB⟩
    ·
     have hp4 := of_decide_eq_false hb4
     have hk21 := of_decide_eq_false hb4
     refine cdf h54 rfl hb4 ?_
     refine skp (hK4 _ _ ?_)
     refine sq fun K10 hK10 => ?_
     refine reg [some 31, some 32, some 33, some 34, some 35, some 7] rfl ?_
     refine fab h54 rfl Try.underlying32 rfl Try.sizeOf9 rfl 7 rfl rfl fun a57 h57 => ?_
     refine ldb h57 hg2 rfl Try.isAgg9 rfl rfl fun a58 h58 => ?_
     refine lens h58 rfl Try.underlying9 rfl rfl fun a59 h59 => ?_
     refine add h59 rfl rfl rfl (by omega) fun a60 h60 => ?_
     refine quo h60 rfl rfl rfl (by omega) fun a61 h61 => ?_
     refine asg h61 rfl rfl fun a62 h62 => ?_
     clear hK5 hK4 h54 h57 h58 h59 h60 h61 K5 K4 a54 a57 a58 a59 a60 a61
     refine wpL_nil (hK10 _ _ ?_)
     refine sq fun K11 hK11 => ?_
     have hfile := many_file (of_decide_eq_false hbm)
     have hp1 := place_may (k := k) hfile
     have hp3 := place_many hfile
     rcases Bool.eq_false_or_eq_true (decide ((0 : Int) ≤ k)) with hk0 | hk0
     ·
      have hA : (Pl.contMay n (512 * k) == decide (k < ((n.data.length : Int) + 511) / 512)) = true := by rw [hp1, hk0]; simp
      have hNo : (!Pl.contMay n (512 * k + 1)) = true := by rw [place_no]; rfl
      clear hK10 K10
      refine drw h62 [some 36, some 37, some 38, some 39, some 40, some 41, some 42, some 43, some 44, some 45, some 46, some 47, some 48, some 49, some 50, some 51, some 52, some 53, some 54, some 55, some 56, some 57, some 58, some 59, some 60, some 61, some 62, some 63, some 64, some 65, some 4] rfl [Fx (ndV n), Fx (.int .i64 k), Fx (.int .i64 (512 * k)), Fx (.bool (Pl.contMay n (512 * k))), Fx (.int .i64 k), Fx (.bool (decide (0 ≤ k))), Fx (.bool (decide (0 ≤ k))), Fx (.int .i64 k), Fx (.int .i64 (((n.data.length : Int) + 511) / 512)), Fx (.bool (decide (k < (((n.data.length : Int) + 511) / 512)))), Fx (.bool (decide (k < (((n.data.length : Int) + 511) / 512)))), Fx (.bool (Pl.contMay n (512 * k) == decide (k < ((n.data.length : Int) + 511) / 512))), Fx (.bool (Pl.contMay n (512 * k) == decide (k < ((n.data.length : Int) + 511) / 512))), Fx (ndV n), Fx (.int .i64 k), Fx (.int .i64 (512 * k)), Fx (.int .i64 ((512 * k) + 1)), Fx (.bool (Pl.contMay n (512 * k + 1))), Fx (.bool (!(Pl.contMay n (512 * k + 1)))), Fx (.bool (!(Pl.contMay n (512 * k + 1)))), Fx (.bool (!(Pl.contMay n (512 * k + 1)))), Fx (ndV n), Fx (.int .i64 (Pl.contMany n)), Fx (.bool (decide ((Pl.contMany n) = 3))), Fx (.pointer (some ⟨g2, 0, none⟩)), Fx (str n.path), Fx (.int .i64 ((n.path : List UInt8).length : Int)), Fx (.bool (decide (100 < ((n.path : List UInt8).length : Int)))), Fx (.bool (decide (Pl.contMany n = 3) == decide (100 < (n.path.length : Int)))), Fx (.bool (decide (Pl.contMany n = 3) == decide (100 < (n.path.length : Int)))), Fx (.bool (decide (Pl.contMany n = 3) == decide (100 < (n.path.length : Int))))] Kept rfl rfl rfl rfl (drewKept _) keptT (mcons mfx (mcons mfx (mcons mfx (mcons mfx (mcons mfx (mcons mfx (mcons mfx (mcons mfx (mcons mfx (mcons mfx (mcons mfx (mcons mfx (mcons mfx (mcons mfx (mcons mfx (mcons mfx (mcons mfx (mcons mfx (mcons mfx (mcons mfx (mcons mfx (mcons mfx (mcons mfx (mcons mfx (mcons mfx (mcons mfx (mcons mfx (mcons mfx (mcons mfx (mcons mfx (mcons mfx mnil))))))))))))))))))))))))))))))) ⟨?_, ?_, ?_, ?_, ?_, ?_, ?_, ?_, ?_, ?_, ?_, ?_, ?_, ?_, ?_, ?_, ?_, ?_, ?_, ?_, ?_, ?_, ?_, ?_, ?_, ?_, ?_, ?_, ?_, ?_, ?_, trivial⟩ ?_
      ·
       intro L a w_ hH hb hR hd ho
       have hl2 := hb 2 _ rfl
       replace hg2 := hg2.kept hR
       refine ldbn hH hg2 ([str n.path, str n.link, u8 n.kind, .int .i64 n.mode, .int .i64 n.uid, .int .i64 n.gid, .int .i64 n.mtime, str n.data]) hl2 Try.isAgg32 Try.sizeOf32 rfl rfl fun a63 h63 => ?_
       exact wpL_nil ⟨_, h63, Kept.refl _, rfl⟩
      ·
       intro L a w_ hH hb hR hd ho
       have hl1 := hb 1 _ rfl
       refine mv hH hl1 rfl fun a64 h64 => ?_
       exact wpL_nil ⟨_, h64, Kept.refl _, rfl⟩
      ·
       intro L a w_ hH hb hR hd ho
       obtain ⟨_, hl37, rfl⟩ := hd 1 rfl
       refine mul hH rfl hl37 rfl (by omega) fun a65 h65 => ?_
       exact wpL_nil ⟨_, h65, Kept.refl _, rfl⟩
      ·
       intro L a w_ hH hb hR hd ho
       obtain ⟨_, hl36, rfl⟩ := hd 0 rfl
       obtain ⟨_, hl38, rfl⟩ := hd 2 rfl
       refine cal hH Try.call53 (evs2 hl36 hl38) (c_contMay _ _ _ ⟨hn1, hn2, hn3⟩ ⟨by omega, by omega⟩) rfl ?_
       rintro v5 w5 a66 ⟨rfl, hk5⟩ h66
       exact wpL_nil ⟨_, h66, hk5, rfl⟩
      ·
       intro L a w_ hH hb hR hd ho
       have hl1 := hb 1 _ rfl
       refine mv hH hl1 rfl fun a67 h67 => ?_
       exact wpL_nil ⟨_, h67, Kept.refl _, rfl⟩
      ·
       intro L a w_ hH hb hR hd ho
       obtain ⟨_, hl40, rfl⟩ := hd 4 rfl
       refine geq hH hl40 rfl rfl fun a68 h68 => ?_
       exact wpL_nil ⟨_, h68, Kept.refl _, rfl⟩
      ·
       intro L a w_ hH hb hR hd ho
       obtain ⟨_, hl41, rfl⟩ := hd 5 rfl
       refine mv hH hl41 rfl fun a69 h69 => ?_
       exact wpL_nil ⟨_, h69, Kept.refl _, rfl⟩
      ·
       intro L a w_ hH hb hR hd ho
       have hl1 := hb 1 _ rfl
       obtain ⟨_, hl42, rfl⟩ := hd 6 rfl
       refine gon hH rfl hl42 hk0 ?_
       refine mv hH hl1 rfl fun a70 h70 => ?_
       exact wpL_nil ⟨_, h70, Kept.refl _, rfl⟩
      ·
       intro L a w_ hH hb hR hd ho
       have hl7 := hb 7 _ rfl
       obtain ⟨_, hl42, rfl⟩ := hd 6 rfl
       refine gon hH rfl hl42 hk0 ?_
       refine mv hH hl7 rfl fun a71 h71 => ?_
       exact wpL_nil ⟨_, h71, Kept.refl _, rfl⟩
      ·
       intro L a w_ hH hb hR hd ho
       obtain ⟨_, hl43, rfl⟩ := hd 7 rfl
       obtain ⟨_, hl44, rfl⟩ := hd 8 rfl
       obtain ⟨_, hl42, rfl⟩ := hd 6 rfl
       refine gon hH rfl hl42 hk0 ?_
       refine lss hH hl43 hl44 rfl fun a72 h72 => ?_
       exact wpL_nil ⟨_, h72, Kept.refl _, rfl⟩
      ·
       intro L a w_ hH hb hR hd ho
       obtain ⟨_, hl42, rfl⟩ := hd 6 rfl
       obtain ⟨_, hl45, rfl⟩ := hd 9 rfl
       refine pkt hH hl42 hk0 hl45 rfl fun a73 h73 => ?_
       exact wpL_nil ⟨_, h73, Kept.refl _, rfl⟩
      ·
       intro L a w_ hH hb hR hd ho
       obtain ⟨_, hl39, rfl⟩ := hd 3 rfl
       obtain ⟨_, hl46, rfl⟩ := hd 10 rfl
       refine beqv hH Try.underlying4 hl39 hl46 rfl fun a74 h74 => ?_
       exact wpL_nil ⟨_, h74, Kept.refl _, rfl⟩
      ·
       intro L a w_ hH hb hR hd ho
       obtain ⟨_, hl47, rfl⟩ := hd 11 rfl
       refine mv hH hl47 rfl fun a75 h75 => ?_
       exact wpL_nil ⟨_, h75, Kept.refl _, rfl⟩
      ·
       intro L a w_ hH hb hR hd ho
       have hl2 := hb 2 _ rfl
       obtain ⟨_, hl48, rfl⟩ := hd 12 rfl
       replace hg2 := hg2.kept hR
       refine gon hH rfl hl48 hA ?_
       refine ldbn hH hg2 ([str n.path, str n.link, u8 n.kind, .int .i64 n.mode, .int .i64 n.uid, .int .i64 n.gid, .int .i64 n.mtime, str n.data]) hl2 Try.isAgg32 Try.sizeOf32 rfl rfl fun a76 h76 => ?_
       exact wpL_nil ⟨_, h76, Kept.refl _, rfl⟩
      ·
       intro L a w_ hH hb hR hd ho
       have hl1 := hb 1 _ rfl
       obtain ⟨_, hl48, rfl⟩ := hd 12 rfl
       refine gon hH rfl hl48 hA ?_
       refine mv hH hl1 rfl fun a77 h77 => ?_
       exact wpL_nil ⟨_, h77, Kept.refl _, rfl⟩
      ·
       intro L a w_ hH hb hR hd ho
       obtain ⟨_, hl50, rfl⟩ := hd 14 rfl
       obtain ⟨_, hl48, rfl⟩ := hd 12 rfl
       refine gon hH rfl hl48 hA ?_
       refine mul hH rfl hl50 rfl (by omega) fun a78 h78 => ?_
       exact wpL_nil ⟨_, h78, Kept.refl _, rfl⟩
      ·
       intro L a w_ hH hb hR hd ho
       obtain ⟨_, hl51, rfl⟩ := hd 15 rfl
       obtain ⟨_, hl48, rfl⟩ := hd 12 rfl
       refine gon hH rfl hl48 hA ?_
       refine add hH hl51 rfl rfl (by omega) fun a79 h79 => ?_
       exact wpL_nil ⟨_, h79, Kept.refl _, rfl⟩
      ·
       intro L a w_ hH hb hR hd ho
       obtain ⟨_, hl49, rfl⟩ := hd 13 rfl
       obtain ⟨_, hl52, rfl⟩ := hd 16 rfl
       obtain ⟨_, hl48, rfl⟩ := hd 12 rfl
       refine gon hH rfl hl48 hA ?_
       refine cal hH Try.call53 (evs2 hl49 hl52) (c_contMay _ _ _ ⟨hn1, hn2, hn3⟩ ⟨by omega, by omega⟩) rfl ?_
       rintro v6 w6 a80 ⟨rfl, hk6⟩ h80
       exact wpL_nil ⟨_, h80, hk6, rfl⟩
      ·
       intro L a w_ hH hb hR hd ho
       obtain ⟨_, hl53, rfl⟩ := hd 17 rfl
       obtain ⟨_, hl48, rfl⟩ := hd 12 rfl
       refine gon hH rfl hl48 hA ?_
       refine unot hH hl53 rfl fun a81 h81 => ?_
       exact wpL_nil ⟨_, h81, Kept.refl _, rfl⟩
      ·
       intro L a w_ hH hb hR hd ho
       obtain ⟨_, hl48, rfl⟩ := hd 12 rfl
       obtain ⟨_, hl54, rfl⟩ := hd 18 rfl
       refine pkt hH hl48 hA hl54 rfl fun a82 h82 => ?_
       exact wpL_nil ⟨_, h82, Kept.refl _, rfl⟩
      ·
       intro L a w_ hH hb hR hd ho
       obtain ⟨_, hl55, rfl⟩ := hd 19 rfl
       refine mv hH hl55 rfl fun a83 h83 => ?_
       exact wpL_nil ⟨_, h83, Kept.refl _, rfl⟩
      ·
       intro L a w_ hH hb hR hd ho
       have hl2 := hb 2 _ rfl
       obtain ⟨_, hl56, rfl⟩ := hd 20 rfl
       replace hg2 := hg2.kept hR
       refine gon hH rfl hl56 hNo ?_
       refine ldbn hH hg2 ([str n.path, str n.link, u8 n.kind, .int .i64 n.mode, .int .i64 n.uid, .int .i64 n.gid, .int .i64 n.mtime, str n.data]) hl2 Try.isAgg32 Try.sizeOf32 rfl rfl fun a84 h84 => ?_
       exact wpL_nil ⟨_, h84, Kept.refl _, rfl⟩
      ·
       intro L a w_ hH hb hR hd ho
       obtain ⟨_, hl57, rfl⟩ := hd 21 rfl
       obtain ⟨_, hl56, rfl⟩ := hd 20 rfl
       refine gon hH rfl hl56 hNo ?_
       refine cal hH Try.call54 (evs1 hl57) (c_contMany _ _ ⟨hn1, hn2, hn3⟩) rfl ?_
       rintro v7 w7 a85 ⟨rfl, hk7⟩ h85
       exact wpL_nil ⟨_, h85, hk7, rfl⟩
      ·
       intro L a w_ hH hb hR hd ho
       obtain ⟨_, hl58, rfl⟩ := hd 22 rfl
       obtain ⟨_, hl56, rfl⟩ := hd 20 rfl
       refine gon hH rfl hl56 hNo ?_
       refine ieq hH hl58 rfl rfl fun a86 h86 => ?_
       exact wpL_nil ⟨_, h86, Kept.refl _, rfl⟩
      ·
       intro L a w_ hH hb hR hd ho
       have hl2 := hb 2 _ rfl
       obtain ⟨_, hl56, rfl⟩ := hd 20 rfl
       refine gon hH rfl hl56 hNo ?_
       refine fab hH hl2 Try.underlying32 rfl Try.sizeOf9 rfl 0 rfl rfl fun a87 h87 => ?_
       exact wpL_nil ⟨_, h87, Kept.refl _, rfl⟩
      ·
       intro L a w_ hH hb hR hd ho
       obtain ⟨_, hl60, rfl⟩ := hd 24 rfl
       obtain ⟨_, hl56, rfl⟩ := hd 20 rfl
       replace hg2 := hg2.kept hR
       refine gon hH rfl hl56 hNo ?_
       refine ldb hH hg2 hl60 Try.isAgg9 rfl rfl fun a88 h88 => ?_
       exact wpL_nil ⟨_, h88, Kept.refl _, rfl⟩
      ·
       intro L a w_ hH hb hR hd ho
       obtain ⟨_, hl61, rfl⟩ := hd 25 rfl
       obtain ⟨_, hl56, rfl⟩ := hd 20 rfl
       refine gon hH rfl hl56 hNo ?_
       refine lens hH rfl Try.underlying9 hl61 rfl fun a89 h89 => ?_
       exact wpL_nil ⟨_, h89, Kept.refl _, rfl⟩
      ·
       intro L a w_ hH hb hR hd ho
       obtain ⟨_, hl62, rfl⟩ := hd 26 rfl
       obtain ⟨_, hl56, rfl⟩ := hd 20 rfl
       refine gon hH rfl hl56 hNo ?_
       refine gtr hH hl62 rfl rfl fun a90 h90 => ?_
       exact wpL_nil ⟨_, h90, Kept.refl _, rfl⟩
      ·
       intro L a w_ hH hb hR hd ho
       obtain ⟨_, hl59, rfl⟩ := hd 23 rfl
       obtain ⟨_, hl63, rfl⟩ := hd 27 rfl
       obtain ⟨_, hl56, rfl⟩ := hd 20 rfl
       refine gon hH rfl hl56 hNo ?_
       refine beqv hH Try.underlying4 hl59 hl63 rfl fun a91 h91 => ?_
       exact wpL_nil ⟨_, h91, Kept.refl _, rfl⟩
      ·
       intro L a w_ hH hb hR hd ho
       obtain ⟨_, hl56, rfl⟩ := hd 20 rfl
       obtain ⟨_, hl64, rfl⟩ := hd 28 rfl
       refine pkt hH hl56 hNo hl64 rfl fun a92 h92 => ?_
       exact wpL_nil ⟨_, h92, Kept.refl _, rfl⟩
      ·
       intro L a w_ hH hb hR hd ho
       obtain ⟨_, hl65, rfl⟩ := hd 29 rfl
       refine asg hH hl65 rfl fun a93 h93 => ?_
       exact wpL_nil ⟨_, h93, Kept.refl _, rfl⟩
      intro L8 a94 w8 h94 hbh94 hRh94 hdh94
      obtain ⟨_, hl36, rfl⟩ := hdh94 0 (by decide)
      obtain ⟨_, hl37, rfl⟩ := hdh94 1 (by decide)
      obtain ⟨_, hl38, rfl⟩ := hdh94 2 (by decide)
      obtain ⟨_, hl39, rfl⟩ := hdh94 3 (by decide)
      obtain ⟨_, hl40, rfl⟩ := hdh94 4 (by decide)
      obtain ⟨_, hl41, rfl⟩ := hdh94 5 (by decide)
      obtain ⟨_, hl42, rfl⟩ := hdh94 6 (by decide)
      obtain ⟨_, hl43, rfl⟩ := hdh94 7 (by decide)
      obtain ⟨_, hl44, rfl⟩ := hdh94 8 (by decide)
      obtain ⟨_, hl45, rfl⟩ := hdh94 9 (by decide)
      obtain ⟨_, hl46, rfl⟩ := hdh94 10 (by decide)
      obtain ⟨_, hl47, rfl⟩ := hdh94 11 (by decide)
      obtain ⟨_, hl48, rfl⟩ := hdh94 12 (by decide)
      obtain ⟨_, hl49, rfl⟩ := hdh94 13 (by decide)
      obtain ⟨_, hl50, rfl⟩ := hdh94 14 (by decide)
      obtain ⟨_, hl51, rfl⟩ := hdh94 15 (by decide)
      obtain ⟨_, hl52, rfl⟩ := hdh94 16 (by decide)
      obtain ⟨_, hl53, rfl⟩ := hdh94 17 (by decide)
      obtain ⟨_, hl54, rfl⟩ := hdh94 18 (by decide)
      obtain ⟨_, hl55, rfl⟩ := hdh94 19 (by decide)
      obtain ⟨_, hl56, rfl⟩ := hdh94 20 (by decide)
      obtain ⟨_, hl57, rfl⟩ := hdh94 21 (by decide)
      obtain ⟨_, hl58, rfl⟩ := hdh94 22 (by decide)
      obtain ⟨_, hl59, rfl⟩ := hdh94 23 (by decide)
      obtain ⟨_, hl60, rfl⟩ := hdh94 24 (by decide)
      obtain ⟨_, hl61, rfl⟩ := hdh94 25 (by decide)
      obtain ⟨_, hl62, rfl⟩ := hdh94 26 (by decide)
      obtain ⟨_, hl63, rfl⟩ := hdh94 27 (by decide)
      obtain ⟨_, hl64, rfl⟩ := hdh94 28 (by decide)
      obtain ⟨_, hl65, rfl⟩ := hdh94 29 (by decide)
      obtain ⟨_, hl4, rfl⟩ := hdh94 30 (by decide)
      have h95 := Has.under h94 hbh94
      have h96 := (h94.add hl4 (h94.add hl65 (h94.add hl64 (h94.add hl63 (h94.add hl62 (h94.add hl61 (h94.add hl60 (h94.add hl59 (h94.add hl58 (h94.add hl57 (h94.add hl56 (h94.add hl55 (h94.add hl54 (h94.add hl53 (h94.add hl52 (h94.add hl51 (h94.add hl50 (h94.add hl49 (h94.add hl48 (h94.add hl47 (h94.add hl46 (h94.add hl45 (h94.add hl44 (h94.add hl43 (h94.add hl42 (h94.add hl41 (h94.add hl40 (h94.add hl39 (h94.add hl38 (h94.add hl37 (h94.add hl36 h95)))))))))))))))))))))))))))))))
      clear h95 hl36 hl37 hl38 hl39 hl40 hl41 hl42 hl43 hl44 hl45 hl46 hl47 hl48 hl49 hl50 hl51 hl52 hl53 hl54 hl55 hl56 hl57 hl58 hl59 hl60 hl61 hl62 hl63 hl64 hl65 hl4 hbh94 hdh94
      replace hB := Kept.trans hB hRh94
      refine hK11 _ _ ?_
      refine rtn (leave h96 (res1 h96 rfl (rvt rfl)) ?_)
      first | exact ⟨_, rfl, rfl, hB⟩ | exact ⟨_, rfl, by rw [hp3], hB⟩
     ·
      have hA : (Pl.contMay n (512 * k) == false) = true := by rw [hp1, hk0]; simp
      have hNo : (!Pl.contMay n (512 * k + 1)) = true := by rw [place_no]; rfl
      clear hK10 K10
      refine drw h62 [some 36, some 37, some 38, some 39, some 40, some 41, some 42, some 43, some 44, some 45, some 46, some 47, some 48, some 49, some 50, some 51, some 52, some 53, some 54, some 55, some 56, some 57, some 58, some 59, some 60, some 61, some 62, some 63, some 64, some 65, some 4] rfl [Fx (ndV n), Fx (.int .i64 k), Fx (.int .i64 (512 * k)), Fx (.bool (Pl.contMay n (512 * k))), Fx (.int .i64 k), Fx (.bool (decide (0 ≤ k))), Fx (.bool (decide (0 ≤ k))), Fx (undef), Fx (undef), Fx (undef), Fx ((.bool false)), Fx (.bool (Pl.contMay n (512 * k) == false)), Fx (.bool (Pl.contMay n (512 * k) == false)), Fx (ndV n), Fx (.int .i64 k), Fx (.int .i64 (512 * k)), Fx (.int .i64 ((512 * k) + 1)), Fx (.bool (Pl.contMay n (512 * k + 1))), Fx (.bool (!(Pl.contMay n (512 * k + 1)))), Fx (.bool (!(Pl.contMay n (512 * k + 1)))), Fx (.bool (!(Pl.contMay n (512 * k + 1)))), Fx (ndV n), Fx (.int .i64 (Pl.contMany n)), Fx (.bool (decide ((Pl.contMany n) = 3))), Fx (.pointer (some ⟨g2, 0, none⟩)), Fx (str n.path), Fx (.int .i64 ((n.path : List UInt8).length : Int)), Fx (.bool (decide (100 < ((n.path : List UInt8).length : Int)))), Fx (.bool (decide (Pl.contMany n = 3) == decide (100 < (n.path.length : Int)))), Fx (.bool (decide (Pl.contMany n = 3) == decide (100 < (n.path.length : Int)))), Fx (.bool (decide (Pl.contMany n = 3) == decide (100 < (n.path.length : Int))))] Kept rfl rfl rfl rfl (drewKept _) keptT (mcons mfx (mcons mfx (mcons mfx (mcons mfx (mcons mfx (mcons mfx (mcons mfx (mcons mfx (mcons mfx (mcons mfx (mcons mfx (mcons mfx (mcons mfx (mcons mfx (mcons mfx (mcons mfx (mcons mfx (mcons mfx (mcons mfx (mcons mfx (mcons mfx (mcons mfx (mcons mfx (mcons mfx (mcons mfx (mcons mfx (mcons mfx (mcons mfx (mcons mfx (mcons mfx (mcons mfx mnil))))))))))))))))))))))))))))))) ⟨?_, ?_, ?_, ?_, ?_, ?_, ?_, ?_, ?_, ?_, ?_, ?_, ?_, ?_, ?_, ?_, ?_, ?_, ?_, ?_, ?_, ?_, ?_, ?_, ?_, ?_, ?_, ?_, ?_, ?_, ?_, trivial⟩ ?_
      ·
       intro L a w_ hH hb hR hd ho
       have hl2 := hb 2 _ rfl
       replace hg2 := hg2.kept hR
       refine ldbn hH hg2 ([str n.path, str n.link, u8 n.kind, .int .i64 n.mode, .int .i64 n.uid, .int .i64 n.gid, .int .i64 n.mtime, str n.data]) hl2 Try.isAgg32 Try.sizeOf32 rfl rfl fun a97 h97 => ?_
       exact wpL_nil ⟨_, h97, Kept.refl _, rfl⟩
      ·
       intro L a w_ hH hb hR hd ho
       have hl1 := hb 1 _ rfl
       refine mv hH hl1 rfl fun a98 h98 => ?_
       exact wpL_nil ⟨_, h98, Kept.refl _, rfl⟩
      ·
       intro L a w_ hH hb hR hd ho
       obtain ⟨_, hl37, rfl⟩ := hd 1 rfl
       refine mul hH rfl hl37 rfl (by omega) fun a99 h99 => ?_
       exact wpL_nil ⟨_, h99, Kept.refl _, rfl⟩
      ·
       intro L a w_ hH hb hR hd ho
       obtain ⟨_, hl36, rfl⟩ := hd 0 rfl
       obtain ⟨_, hl38, rfl⟩ := hd 2 rfl
       refine cal hH Try.call53 (evs2 hl36 hl38) (c_contMay _ _ _ ⟨hn1, hn2, hn3⟩ ⟨by omega, by omega⟩) rfl ?_
       rintro v9 w9 a100 ⟨rfl, hk9⟩ h100
       exact wpL_nil ⟨_, h100, hk9, rfl⟩
      ·
       intro L a w_ hH hb hR hd ho
       have hl1 := hb 1 _ rfl
       refine mv hH hl1 rfl fun a101 h101 => ?_
       exact wpL_nil ⟨_, h101, Kept.refl _, rfl⟩
      ·
       intro L a w_ hH hb hR hd ho
       obtain ⟨_, hl40, rfl⟩ := hd 4 rfl
       refine geq hH hl40 rfl rfl fun a102 h102 => ?_
       exact wpL_nil ⟨_, h102, Kept.refl _, rfl⟩
      ·
       intro L a w_ hH hb hR hd ho
       obtain ⟨_, hl41, rfl⟩ := hd 5 rfl
       refine mv hH hl41 rfl fun a103 h103 => ?_
       exact wpL_nil ⟨_, h103, Kept.refl _, rfl⟩
      ·
       intro L a w_ hH hb hR hd ho
       have hl1 := hb 1 _ rfl
       obtain ⟨_, hl42, rfl⟩ := hd 6 rfl
       refine goff hH rfl hl42 hk0 rfl fun a104 h104 => ?_
       exact wpL_nil ⟨_, h104, Kept.refl _, rfl⟩
      ·
       intro L a w_ hH hb hR hd ho
       have hl7 := hb 7 _ rfl
       obtain ⟨_, hl42, rfl⟩ := hd 6 rfl
       refine goff hH rfl hl42 hk0 rfl fun a105 h105 => ?_
       exact wpL_nil ⟨_, h105, Kept.refl _, rfl⟩
      ·
       intro L a w_ hH hb hR hd ho
       obtain ⟨_, hl43, rfl⟩ := hd 7 rfl
       obtain ⟨_, hl44, rfl⟩ := hd 8 rfl
       obtain ⟨_, hl42, rfl⟩ := hd 6 rfl
       refine goff hH rfl hl42 hk0 rfl fun a106 h106 => ?_
       exact wpL_nil ⟨_, h106, Kept.refl _, rfl⟩
      ·
       intro L a w_ hH hb hR hd ho
       obtain ⟨_, hl42, rfl⟩ := hd 6 rfl
       obtain ⟨_, hl45, rfl⟩ := hd 9 rfl
       refine pkf hH hl42 hk0 rfl rfl fun a107 h107 => ?_
       exact wpL_nil ⟨_, h107, Kept.refl _, rfl⟩
      ·
       intro L a w_ hH hb hR hd ho
       obtain ⟨_, hl39, rfl⟩ := hd 3 rfl
       obtain ⟨_, hl46, rfl⟩ := hd 10 rfl
       refine beqv hH Try.underlying4 hl39 hl46 rfl fun a108 h108 => ?_
       exact wpL_nil ⟨_, h108, Kept.refl _, rfl⟩
      ·
       intro L a w_ hH hb hR hd ho
       obtain ⟨_, hl47, rfl⟩ := hd 11 rfl
       refine mv hH hl47 rfl fun a109 h109 => ?_
       exact wpL_nil ⟨_, h109, Kept.refl _, rfl⟩
      ·
       intro L a w_ hH hb hR hd ho
       have hl2 := hb 2 _ rfl
       obtain ⟨_, hl48, rfl⟩ := hd 12 rfl
       replace hg2 := hg2.kept hR
       refine gon hH rfl hl48 hA ?_
       refine ldbn hH hg2 ([str n.path, str n.link, u8 n.kind, .int .i64 n.mode, .int .i64 n.uid, .int .i64 n.gid, .int .i64 n.mtime, str n.data]) hl2 Try.isAgg32 Try.sizeOf32 rfl rfl fun a110 h110 => ?_
       exact wpL_nil ⟨_, h110, Kept.refl _, rfl⟩
      ·
       intro L a w_ hH hb hR hd ho
       have hl1 := hb 1 _ rfl
       obtain ⟨_, hl48, rfl⟩ := hd 12 rfl
       refine gon hH rfl hl48 hA ?_
       refine mv hH hl1 rfl fun a111 h111 => ?_
       exact wpL_nil ⟨_, h111, Kept.refl _, rfl⟩
      ·
       intro L a w_ hH hb hR hd ho
       obtain ⟨_, hl50, rfl⟩ := hd 14 rfl
       obtain ⟨_, hl48, rfl⟩ := hd 12 rfl
       refine gon hH rfl hl48 hA ?_
       refine mul hH rfl hl50 rfl (by omega) fun a112 h112 => ?_
       exact wpL_nil ⟨_, h112, Kept.refl _, rfl⟩
      ·
       intro L a w_ hH hb hR hd ho
       obtain ⟨_, hl51, rfl⟩ := hd 15 rfl
       obtain ⟨_, hl48, rfl⟩ := hd 12 rfl
       refine gon hH rfl hl48 hA ?_
       refine add hH hl51 rfl rfl (by omega) fun a113 h113 => ?_
       exact wpL_nil ⟨_, h113, Kept.refl _, rfl⟩
      ·
       intro L a w_ hH hb hR hd ho
       obtain ⟨_, hl49, rfl⟩ := hd 13 rfl
       obtain ⟨_, hl52, rfl⟩ := hd 16 rfl
       obtain ⟨_, hl48, rfl⟩ := hd 12 rfl
       refine gon hH rfl hl48 hA ?_
       refine cal hH Try.call53 (evs2 hl49 hl52) (c_contMay _ _ _ ⟨hn1, hn2, hn3⟩ ⟨by omega, by omega⟩) rfl ?_
       rintro v10 w10 a114 ⟨rfl, hk10⟩ h114
       exact wpL_nil ⟨_, h114, hk10, rfl⟩
      ·
       intro L a w_ hH hb hR hd ho
       obtain ⟨_, hl53, rfl⟩ := hd 17 rfl
       obtain ⟨_, hl48, rfl⟩ := hd 12 rfl
       refine gon hH rfl hl48 hA ?_
       refine unot hH hl53 rfl fun a115 h115 => ?_
       exact wpL_nil ⟨_, h115, Kept.refl _, rfl⟩
      ·
       intro L a w_ hH hb hR hd ho
       obtain ⟨_, hl48, rfl⟩ := hd 12 rfl
       obtain ⟨_, hl54, rfl⟩ := hd 18 rfl
       refine pkt hH hl48 hA hl54 rfl fun a116 h116 => ?_
       exact wpL_nil ⟨_, h116, Kept.refl _, rfl⟩
      ·
       intro L a w_ hH hb hR hd ho
       obtain ⟨_, hl55, rfl⟩ := hd 19 rfl
       refine mv hH hl55 rfl fun a117 h117 => ?_
       exact wpL_nil ⟨_, h117, Kept.refl _, rfl⟩
      ·
       intro L a w_ hH hb hR hd ho
       have hl2 := hb 2 _ rfl
       obtain ⟨_, hl56, rfl⟩ := hd 20 rfl
       replace hg2 := hg2.kept hR
       refine gon hH rfl hl56 hNo ?_
       refine ldbn hH hg2 ([str n.path, str n.link, u8 n.kind, .int .i64 n.mode, .int .i64 n.uid, .int .i64 n.gid, .int .i64 n.mtime, str n.data]) hl2 Try.isAgg32 Try.sizeOf32 rfl rfl fun a118 h118 => ?_
       exact wpL_nil ⟨_, h118, Kept.refl _, rfl⟩
      ·
       intro L a w_ hH hb hR hd ho
       obtain ⟨_, hl57, rfl⟩ := hd 21 rfl
       obtain ⟨_, hl56, rfl⟩ := hd 20 rfl
       refine gon hH rfl hl56 hNo ?_
       refine cal hH Try.call54 (evs1 hl57) (c_contMany _ _ ⟨hn1, hn2, hn3⟩) rfl ?_
       rintro v11 w11 a119 ⟨rfl, hk11⟩ h119
       exact wpL_nil ⟨_, h119, hk11, rfl⟩
      ·
       intro L a w_ hH hb hR hd ho
       obtain ⟨_, hl58, rfl⟩ := hd 22 rfl
       obtain ⟨_, hl56, rfl⟩ := hd 20 rfl
       refine gon hH rfl hl56 hNo ?_
       refine ieq hH hl58 rfl rfl fun a120 h120 => ?_
       exact wpL_nil ⟨_, h120, Kept.refl _, rfl⟩
      ·
       intro L a w_ hH hb hR hd ho
       have hl2 := hb 2 _ rfl
       obtain ⟨_, hl56, rfl⟩ := hd 20 rfl
       refine gon hH rfl hl56 hNo ?_
       refine fab hH hl2 Try.underlying32 rfl Try.sizeOf9 rfl 0 rfl rfl fun a121 h121 => ?_
       exact wpL_nil ⟨_, h121, Kept.refl _, rfl⟩
      ·
       intro L a w_ hH hb hR hd ho
       obtain ⟨_, hl60, rfl⟩ := hd 24 rfl
       obtain ⟨_, hl56, rfl⟩ := hd 20 rfl
       replace hg2 := hg2.kept hR
       refine gon hH rfl hl56 hNo ?_
       refine ldb hH hg2 hl60 Try.isAgg9 rfl rfl fun a122 h122 => ?_
       exact wpL_nil ⟨_, h122, Kept.refl _, rfl⟩
      ·
       intro L a w_ hH hb hR hd ho
       obtain ⟨_, hl61, rfl⟩ := hd 25 rfl
       obtain ⟨_, hl56, rfl⟩ := hd 20 rfl
       refine gon hH rfl hl56 hNo ?_
       refine lens hH rfl Try.underlying9 hl61 rfl fun a123 h123 => ?_
       exact wpL_nil ⟨_, h123, Kept.refl _, rfl⟩
      ·
       intro L a w_ hH hb hR hd ho
       obtain ⟨_, hl62, rfl⟩ := hd 26 rfl
       obtain ⟨_, hl56, rfl⟩ := hd 20 rfl
       refine gon hH rfl hl56 hNo ?_
       refine gtr hH hl62 rfl rfl fun a124 h124 => ?_
       exact wpL_nil ⟨_, h124, Kept.refl _, rfl⟩
      ·
       intro L a w_ hH hb hR hd ho
       obtain ⟨_, hl59, rfl⟩ := hd 23 rfl
       obtain ⟨_, hl63, rfl⟩ := hd 27 rfl
       obtain ⟨_, hl56, rfl⟩ := hd 20 rfl
       refine gon hH rfl hl56 hNo ?_
       refine beqv hH Try.underlying4 hl59 hl63 rfl fun a125 h125 => ?_
       exact wpL_nil ⟨_, h125, Kept.refl _, rfl⟩
      ·
       intro L a w_ hH hb hR hd ho
       obtain ⟨_, hl56, rfl⟩ := hd 20 rfl
       obtain ⟨_, hl64, rfl⟩ := hd 28 rfl
       refine pkt hH hl56 hNo hl64 rfl fun a126 h126 => ?_
       exact wpL_nil ⟨_, h126, Kept.refl _, rfl⟩
      ·
       intro L a w_ hH hb hR hd ho
       obtain ⟨_, hl65, rfl⟩ := hd 29 rfl
       refine asg hH hl65 rfl fun a127 h127 => ?_
       exact wpL_nil ⟨_, h127, Kept.refl _, rfl⟩
      intro L12 a128 w12 h128 hbh128 hRh128 hdh128
      obtain ⟨_, hl36, rfl⟩ := hdh128 0 (by decide)
      obtain ⟨_, hl37, rfl⟩ := hdh128 1 (by decide)
      obtain ⟨_, hl38, rfl⟩ := hdh128 2 (by decide)
      obtain ⟨_, hl39, rfl⟩ := hdh128 3 (by decide)
      obtain ⟨_, hl40, rfl⟩ := hdh128 4 (by decide)
      obtain ⟨_, hl41, rfl⟩ := hdh128 5 (by decide)
      obtain ⟨_, hl42, rfl⟩ := hdh128 6 (by decide)
      obtain ⟨_, hl43, rfl⟩ := hdh128 7 (by decide)
      obtain ⟨_, hl44, rfl⟩ := hdh128 8 (by decide)
      obtain ⟨_, hl45, rfl⟩ := hdh128 9 (by decide)
      obtain ⟨_, hl46, rfl⟩ := hdh128 10 (by decide)
      obtain ⟨_, hl47, rfl⟩ := hdh128 11 (by decide)
      obtain ⟨_, hl48, rfl⟩ := hdh128 12 (by decide)
      obtain ⟨_, hl49, rfl⟩ := hdh128 13 (by decide)
      obtain ⟨_, hl50, rfl⟩ := hdh128 14 (by decide)
      obtain ⟨_, hl51, rfl⟩ := hdh128 15 (by decide)
      obtain ⟨_, hl52, rfl⟩ := hdh128 16 (by decide)
      obtain ⟨_, hl53, rfl⟩ := hdh128 17 (by decide)
      obtain ⟨_, hl54, rfl⟩ := hdh128 18 (by decide)
      obtain ⟨_, hl55, rfl⟩ := hdh128 19 (by decide)
      obtain ⟨_, hl56, rfl⟩ := hdh128 20 (by decide)
      obtain ⟨_, hl57, rfl⟩ := hdh128 21 (by decide)
      obtain ⟨_, hl58, rfl⟩ := hdh128 22 (by decide)
      obtain ⟨_, hl59, rfl⟩ := hdh128 23 (by decide)
      obtain ⟨_, hl60, rfl⟩ := hdh128 24 (by decide)
      obtain ⟨_, hl61, rfl⟩ := hdh128 25 (by decide)
      obtain ⟨_, hl62, rfl⟩ := hdh128 26 (by decide)
      obtain ⟨_, hl63, rfl⟩ := hdh128 27 (by decide)
      obtain ⟨_, hl64, rfl⟩ := hdh128 28 (by decide)
      obtain ⟨_, hl65, rfl⟩ := hdh128 29 (by decide)
      obtain ⟨_, hl4, rfl⟩ := hdh128 30 (by decide)
      have h129 := Has.under h128 hbh128
      have h130 := (h128.add hl4 (h128.add hl65 (h128.add hl64 (h128.add hl63 (h128.add hl62 (h128.add hl61 (h128.add hl60 (h128.add hl59 (h128.add hl58 (h128.add hl57 (h128.add hl56 (h128.add hl55 (h128.add hl54 (h128.add hl53 (h128.add hl52 (h128.add hl51 (h128.add hl50 (h128.add hl49 (h128.add hl48 (h128.add hl47 (h128.add hl46 (h128.add hl45 (h128.add hl44 (h128.add hl43 (h128.add hl42 (h128.add hl41 (h128.add hl40 (h128.add hl39 (h128.add hl38 (h128.add hl37 (h128.add hl36 h129)))))))))))))))))))))))))))))))
      clear h129 hl36 hl37 hl38 hl39 hl40 hl41 hl42 hl43 hl44 hl45 hl46 hl47 hl48 hl49 hl50 hl51 hl52 hl53 hl54 hl55 hl56 hl57 hl58 hl59 hl60 hl61 hl62 hl63 hl64 hl65 hl4 hbh128 hdh128
      replace hB := Kept.trans hB hRh128
      refine hK11 _ _ ?_
      refine rtn (leave h130 (res1 h130 rfl (rvt rfl)) ?_)
      first | exact ⟨_, rfl, rfl, hB⟩ | exact ⟨_, rfl, by rw [hp3], hB⟩

/-- reelkeeperlaw15.ContApart -/
theorem c_contApart (n : Pl.Nd) (off : Int) (m : Pl.Nd) (at_ : Int) (w : World) (hof : -9223372036854775808 ≤ off ∧ off ≤ 9223372036854775807) (hat : -9223372036854775808 ≤ at_ ∧ at_ ≤ 9223372036854775807) :
  C Try.prog 11 [ndV n, .int .i64 off, ndV m, .int .i64 at_] w fun v w' => v = .bool true ∧ Kept w w' := by
 refine enterE Try.func11 rfl 81 rfl rfl fun a0 h0 => ?_
 have hB := Kept.refl w
 refine sq fun K1 hK1 => ?_
 refine reg [some 4, some 6, some 8] rfl ?_
 refine bxv h0 rfl rfl rfl fun a1 w1 g4 h1 hk1 hz4 hg4 => ?_
 have hleg4 := Nat.le_trans hB.size hz4
 replace hB := Kept.trans hB hk1
 refine bxv h1 rfl rfl rfl fun a2 w2 g6 h2 hk2 hz6 hg6 => ?_
 have hleg6 := Nat.le_trans hB.size hz6
 have hneg4g6 := Nat.lt_of_lt_of_le hg4.lt hz6
 replace hB := Kept.trans hB hk2
 replace hg4 := hg4.kept hk2
 refine asg h2 rfl rfl fun a3 h3 => ?_
 clear h0 h1 h2 a0 a1 a2
 refine wpL_nil (hK1 _ _ ?_)
 refine sq fun K2 hK2 => ?_
 refine reg [some 19, some 9] rfl ?_
 refine cal h3 Try.call46 rfl (c_wake15 _) rfl ?_
 rintro v3 w3 a4 ⟨rfl, hk3⟩ h4
 replace hB := Kept.trans hB hk3
 replace hg4 := hg4.kept hk3
 replace hg6 := hg6.kept hk3
 refine asg h4 rfl rfl fun a5 h5 => ?_
 clear hK1 h3 h4 K1 a3 a4
 refine wpL_nil (hK2 _ _ ?_)
 refine sq fun K3 hK3 => ?_
 refine reg [some 20, some 21, some 10] rfl ?_
 refine ldbn h5 hg4 ([str n.path, str n.link, u8 n.kind, .int .i64 n.mode, .int .i64 n.uid, .int .i64 n.gid, .int .i64 n.mtime, str n.data]) rfl Try.isAgg32 Try.sizeOf32 rfl rfl fun a6 h6 => ?_
 refine cal h6 Try.call40 rfl (c_few5 _ _) rfl ?_
 rintro v4 w4 a7 ⟨rfl, hk4⟩ h7
 replace hB := Kept.trans hB hk4
 replace hg4 := hg4.kept hk4
 replace hg6 := hg6.kept hk4
 refine asg h7 rfl rfl fun a8 h8 => ?_
 clear hK2 h5 h6 h7 K2 a5 a6 a7
 refine wpL_nil (hK3 _ _ ?_)
 refine sq fun K4 hK4 => ?_
 refine reg [some 22, some 23, some 11] rfl ?_
 refine ldbn h8 hg6 ([str m.path, str m.link, u8 m.kind, .int .i64 m.mode, .int .i64 m.uid, .int .i64 m.gid, .int .i64 m.mtime, str m.data]) rfl Try.isAgg32 Try.sizeOf32 rfl rfl fun a9 h9 => ?_
 refine cal h9 Try.call40 rfl (c_few5 _ _) rfl ?_
 rintro v5 w5 a10 ⟨rfl, hk5⟩ h10
 replace hB := Kept.trans hB hk5
 replace hg4 := hg4.kept hk5
 replace hg6 := hg6.kept hk5
 refine asg h10 rfl rfl fun a11 h11 => ?_
 clear hK3 h8 h9 h10 K3 a8 a9 a10
 refine wpL_nil (hK4 _ _ ?_)
 refine sq fun K5 hK5 => ?_
 refine sq fun K6 hK6 => ?_
 refine reg [some 24, some 25, some 26, some 27, some 28, some 29, some 30, some 31, some 32, some 33] rfl ?_
 refine mv h11 rfl rfl fun a12 h12 => ?_
 refine unot h12 rfl rfl fun a13 h13 => ?_
 refine mv h13 rfl rfl fun a14 h14 => ?_
 refine gon h14 (d := 26) rfl rfl rfl ?_
 refine mv h14 rfl rfl fun a15 h15 => ?_
 refine gon h15 (d := 26) rfl rfl rfl ?_
 refine unot h15 rfl rfl fun a16 h16 => ?_
 refine pkf h16 rfl rfl rfl rfl fun a17 h17 => ?_
 refine mv h17 rfl rfl fun a18 h18 => ?_
 refine spl h18 (d := 30) rfl (fun hb1 => ?_) (fun hb1 => ?_)
 ·
  refine goff h18 (d := 30) rfl rfl (bnf (bunt hb1)) rfl fun a19 h19 => ?_
  refine goff h19 (d := 30) rfl rfl (bnf (bunt hb1)) rfl fun a20 h20 => ?_
  refine pkt h20 rfl (bnf (bunt hb1)) rfl rfl fun a21 h21 => ?_
  clear hK4 h11 h12 h13 h14 h15 h16 h17 h18 h19 h20 K4 a11 a12 a13 a14 a15 a16 a17 a18 a19 a20
  refine wpL_nil (hK6 _ _ ?_)
  refine cdt h21 rfl rfl ?_
  refine sq fun K7 hK7 => ?_
  refine reg [some 34, some 8] rfl ?_
  refine mv h21 rfl rfl fun a22 h22 => ?_
  refine asg h22 rfl rfl fun a23 h23 => ?_
  clear hK6 h21 h22 K6 a21 a22
  refine wpL_nil (hK7 _ _ ?_)
  refine rtn (leave h23 (res1 h23 rfl (rvt rfl)) ?_)
  first | exact ⟨_, rfl, rfl, hB⟩ | exact ⟨_, rfl, by rw [hS]; simp only [(bunt hb1), Bool.true_and, Bool.false_and, Bool.and_false, beq_self_eq_true], hB⟩
 ·
  obtain ⟨hn1, hn2, hn3⟩ := few5_L (bunf hb1)
  refine gon h18 (d := 30) rfl rfl (bnt (bunf hb1)) ?_
  refine mv h18 rfl rfl fun a24 h24 => ?_
  refine gon h24 (d := 30) rfl rfl (bnt (bunf hb1)) ?_
  refine unot h24 rfl rfl fun a25 h25 => ?_
  refine pkf h25 rfl (bnt (bunf hb1)) rfl rfl fun a26 h26 => ?_
  clear hK4 h11 h12 h13 h14 h15 h16 h17 h18 h24 h25 K4 a11 a12 a13 a14 a15 a16 a17 a18 a24 a25
  refine wpL_nil (hK6 _ _ ?_)
  refine spl h26 (d := 33) rfl (fun hb2 => ?_) (fun hb2 => ?_)
  ·
   refine cdt h26 rfl (bnf (bunt hb2)) ?_
   refine sq fun K8 hK8 => ?_
   refine reg [some 34, some 8] rfl ?_
   refine mv h26 rfl rfl fun a27 h27 => ?_
   refine asg h27 rfl rfl fun a28 h28 => ?_
   clear hK6 h26 h27 K6 a26 a27
   refine wpL_nil (hK8 _ _ ?_)
   refine rtn (leave h28 (res1 h28 rfl (rvt rfl)) ?_)
   first | exact ⟨_, rfl, rfl, hB⟩ | exact ⟨_, rfl, by rw [hS]; simp only [(bunf hb1), (bunt hb2), Bool.true_and, Bool.false_and, Bool.and_false, beq_self_eq_true], hB⟩
  ·
   obtain ⟨hm1, hm2, hm3⟩ := few5_L (bunf hb2)
   refine cdf h26 rfl (bnt (bunf hb2)) ?_
   refine skp (hK5 _ _ ?_)
   refine sq fun K9 hK9 => ?_
   refine reg [some 36, some 37, some 38, some 35, some 39, some 40, some 12, some 13] rfl ?_
   refine ldbn h26 hg4 ([str n.path, str n.link, u8 n.kind, .int .i64 n.mode, .int .i64 n.uid, .int .i64 n.gid, .int .i64 n.mtime, str n.data]) rfl Try.isAgg32 Try.sizeOf32 rfl rfl fun a29 h29 => ?_
   refine mv h29 rfl rfl fun a30 h30 => ?_
   have hsz6 := hB.size
   have hlg46 := hg4.lt
   have hlg66 := hg6.lt
   refine cal h30 Try.call48 rfl (c_cPut _ _ _ ⟨hn1, hn2, hn3⟩ ⟨by omega, by omega⟩) rfl ?_
   rintro v6 w6 a31 ⟨⟨qp6, rfl, hp6'⟩, hk6⟩ h31
   replace hB := Kept.trans hB hk6
   replace hg4 := hg4.kept hk6
   replace hg6 := hg6.kept hk6
   replace hp6' := hp6'.lt
   have hlw6 := Nat.le_refl w6.heap.size
   refine mv h31 rfl rfl fun a32 h32 => ?_
   refine ext2_0 h32 rfl rfl fun a33 h33 => ?_
   refine ext2_1 h33 rfl rfl fun a34 h34 => ?_
   refine asg h34 rfl rfl fun a35 h35 => ?_
   refine asg h35 rfl rfl fun a36 h36 => ?_
   clear hK6 hK5 h26 h29 h30 h31 h32 h33 h34 h35 K6 K5 a26 a29 a30 a31 a32 a33 a34 a35
   refine wpL_nil (hK9 _ _ ?_)
   refine sq fun K10 hK10 => ?_
   refine reg [some 42, some 43, some 44, some 41, some 45, some 46, some 14, some 15] rfl ?_
   refine ldbn h36 hg6 ([str m.path, str m.link, u8 m.kind, .int .i64 m.mode, .int .i64 m.uid, .int .i64 m.gid, .int .i64 m.mtime, str m.data]) rfl Try.isAgg32 Try.sizeOf32 rfl rfl fun a37 h37 => ?_
   refine mv h37 rfl rfl fun a38 h38 => ?_
   have hsz7 := hB.size
   have hlg47 := hg4.lt
   have hlg67 := hg6.lt
   refine cal h38 Try.call48 rfl (c_cPut _ _ _ ⟨hm1, hm2, hm3⟩ ⟨by omega, by omega⟩) rfl ?_
   rintro v7 w7 a39 ⟨⟨qp7, rfl, hp7'⟩, hk7⟩ h39
   replace hB := Kept.trans hB hk7
   replace hg4 := hg4.kept hk7
   replace hg6 := hg6.kept hk7
   replace hp6' := hp6'.kept hk7
   replace hlw6 := Nat.le_trans hlw6 hk7.size
   replace hp7' := hp7'.lt
   have hlw7 := Nat.le_refl w7.heap.size
   refine mv h39 rfl rfl fun a40 h40 => ?_
   refine ext2_0 h40 rfl rfl fun a41 h41 => ?_
   refine ext2_1 h41 rfl rfl fun a42 h42 => ?_
   refine asg h42 rfl rfl fun a43 h43 => ?_
   refine asg h43 rfl rfl fun a44 h44 => ?_
   clear hK9 h36 h37 h38 h39 h40 h41 h42 h43 K9 a36 a37 a38 a39 a40 a41 a42 a43
   refine wpL_nil (hK10 _ _ ?_)
   refine sq fun K11 hK11 => ?_
   refine reg [some 47, some 48, some 49, some 16] rfl ?_
   refine mv h44 rfl rfl fun a45 h45 => ?_
   refine mv h45 rfl rfl fun a46 h46 => ?_
   refine cal h46 Try.call30 rfl (c_rsame _ _ _ _ _ hp6' hp7') rfl ?_
   rintro v8 w8 a47 ⟨rfl, hk8⟩ h47
   replace hB := Kept.trans hB hk8
   replace hg4 := hg4.kept hk8
   replace hg6 := hg6.kept hk8
   replace hlw6 := Nat.le_trans hlw6 hk8.size
   replace hlw7 := Nat.le_trans hlw7 hk8.size
   refine asg h47 rfl rfl fun a48 h48 => ?_
   clear hK10 h44 h45 h46 h47 K10 a44 a45 a46 a47
   refine wpL_nil (hK11 _ _ ?_)
   refine sq fun K12 hK12 => ?_
   refine reg [some 50, some 17, none] rfl ?_
   refine ldbn h48 hg4 (ndCells n) rfl Try.isAgg32 Try.sizeOf32 rfl rfl fun a49 h49 => ?_
   refine alc h49 Try.zeroValue32 rfl rfl fun a50 w9 g17 h50 hk9 hz17 hg17 => ?_
   have hleg17 := Nat.le_trans hB.size hz17
   have hneg4g17 := Nat.lt_of_lt_of_le hg4.lt hz17
   have hneg6g17 := Nat.lt_of_lt_of_le hg6.lt hz17
   have hNhlw6g17 := Nat.le_trans hlw6 hz17
   have hNhlw7g17 := Nat.le_trans hlw7 hz17
   replace hB := Kept.trans hB hk9
   replace hg4 := hg4.kept hk9
   replace hg6 := hg6.kept hk9
   replace hlw6 := Nat.le_trans hlw6 hk9.size
   replace hlw7 := Nat.le_trans hlw7 hk9.size
   refine stb h50 hg17 rfl rfl _ rfl Try.sizeOf32 (by first | with_reducible exact nd_one _ | exact nd_one n | exact nd_one m | (simp [Value.oneCell']; done)) _ (by first | (simp; done) | (simp [ndCells]; done)) rfl fun w10 hg17' hk10 => ?_
   replace hB := Kept.but hB hk10 (by omega)
   replace hg4 := hg4.but hk10 (by omega)
   replace hg6 := hg6.but hk10 (by omega)
   replace hlw6 := Nat.le_trans hlw6 hk10.size
   replace hlw7 := Nat.le_trans hlw7 hk10.size
   clear hg17; have hg17 := hg17'; clear hg17'
   clear hK11 h48 h49 K11 a48 a49
   refine wpL_nil (hK12 _ _ ?_)
   refine sq fun K13 hK13 => ?_
   refine reg [some 51, some 18, none] rfl ?_
   refine ldbn h50 hg6 (ndCells m) rfl Try.isAgg32 Try.sizeOf32 rfl rfl fun a51 h51 => ?_
   refine alc h51 Try.zeroValue32 rfl rfl fun a52 w11 g18 h52 hk11 hz18 hg18 => ?_
   have hleg18 := Nat.le_trans hB.size hz18
   have hneg4g18 := Nat.lt_of_lt_of_le hg4.lt hz18
   have hneg6g18 := Nat.lt_of_lt_of_le hg6.lt hz18
   have hNhlw6g18 := Nat.le_trans hlw6 hz18
   have hNhlw7g18 := Nat.le_trans hlw7 hz18
   have hneg17g18 := Nat.lt_of_lt_of_le hg17.lt hz18
   replace hB := Kept.trans hB hk11
   replace hg4 := hg4.kept hk11
   replace hg6 := hg6.kept hk11
   replace hlw6 := Nat.le_trans hlw6 hk11.size
   replace hlw7 := Nat.le_trans hlw7 hk11.size
   replace hg17 := hg17.kept hk11
   refine stb h52 hg18 rfl rfl _ rfl Try.sizeOf32 (by first | with_reducible exact nd_one _ | exact nd_one n | exact nd_one m | (simp [Value.oneCell']; done)) _ (by first | (simp; done) | (simp [ndCells]; done)) rfl fun w12 hg18' hk12 => ?_
   replace hB := Kept.but hB hk12 (by omega)
   replace hg4 := hg4.but hk12 (by omega)
   replace hg6 := hg6.but hk12 (by omega)
   replace hlw6 := Nat.le_trans hlw6 hk12.size
   replace hlw7 := Nat.le_trans hlw7 hk12.size
   replace hg17 := hg17.but hk12 (by omega)
   clear hg18; have hg18 := hg18'; clear hg18'
   clear hK12 h50 h51 K12 a50 a51
   refine wpL_nil (hK13 _ _ ?_)
   refine sq fun K14 hK14 => ?_
   refine reg [some 52, none] rfl ?_
   refine fab h52 rfl Try.underlying32 rfl Try.sizeOf9 rfl 7 rfl rfl fun a53 h53 => ?_
   refine stb h53 hg17 rfl rfl _ rfl Try.sizeOf9 (by simp [Value.oneCell']) _ (by first | (simp; done) | (simp [ndCells]; done)) rfl fun w13 hg17' hk13 => ?_
   replace hB := Kept.but hB hk13 (by omega)
   replace hg4 := hg4.but hk13 (by omega)
   replace hg6 := hg6.but hk13 (by omega)
   replace hlw6 := Nat.le_trans hlw6 hk13.size
   replace hlw7 := Nat.le_trans hlw7 hk13.size
   clear hg17; have hg17 := hg17'; clear hg17'
   replace hg18 := hg18.but hk13 (by omega)
   clear hK13 h52 K13 a52
   refine wpL_nil (hK14 _ _ ?_)
   refine sq fun K15 hK15 => ?_
   refine reg [some 53, none] rfl ?_
   refine fab h53 rfl Try.underlying32 rfl Try.sizeOf9 rfl 7 rfl rfl fun a54 h54 => ?_
   refine stb h54 hg18 rfl rfl _ rfl Try.sizeOf9 (by simp [Value.oneCell']) _ (by first | (simp; done) | (simp [ndCells]; done)) rfl fun w14 hg18' hk14 => ?_
   replace hB := Kept.but hB hk14 (by omega)
   replace hg4 := hg4.but hk14 (by omega)
   replace hg6 := hg6.but hk14 (by omega)
   replace hlw6 := Nat.le_trans hlw6 hk14.size
   replace hlw7 := Nat.le_trans hlw7 hk14.size
   replace hg17 := hg17.but hk14 (by omega)
   clear hg18; have hg18 := hg18'; clear hg18'
   clear hK14 h53 K14 a53
   refine wpL_nil (hK15 _ _ ?_)
   refine sq fun K16 hK16 => ?_
   refine reg [some 54, some 55, some 56, some 57, some 58, some 59, some 60, some 61, some 62, some 63, some 64, some 65, some 66, some 67, some 68, some 69, some 70, some 71, some 72, some 73, some 74, some 75, some 76, some 77, some 78, some 79, some 80, some 8] rfl ?_
   refine mv h54 rfl rfl fun a55 h55 => ?_
   refine unot h55 rfl rfl fun a56 h56 => ?_
   refine mv h56 rfl rfl fun a57 h57 => ?_
   refine spl h57 (d := 56) rfl (fun hb3 => ?_) (fun hb3 => ?_)
   ·
    refine goff h57 (d := 56) rfl rfl (bnf (bunt hb3)) rfl fun a58 h58 => ?_
    refine goff h58 (d := 56) rfl rfl (bnf (bunt hb3)) rfl fun a59 h59 => ?_
    refine pkt h59 rfl (bnf (bunt hb3)) rfl rfl fun a60 h60 => ?_
    refine mv h60 rfl rfl fun a61 h61 => ?_
    refine goff h61 (d := 60) rfl rfl rfl rfl fun a62 h62 => ?_
    refine goff h62 (d := 60) rfl rfl rfl rfl fun a63 h63 => ?_
    refine goff h63 (d := 60) rfl rfl rfl rfl fun a64 h64 => ?_
    refine goff h64 (d := 60) rfl rfl rfl rfl fun a65 h65 => ?_
    refine goff h65 (d := 60) rfl rfl rfl rfl fun a66 h66 => ?_
    refine goffu h66 (d := 65) rfl rfl rfl fun a67 h67 => ?_
    refine goffu h67 (d := 65) rfl rfl rfl fun a68 h68 => ?_
    refine goffu h68 (d := 65) rfl rfl rfl fun a69 h69 => ?_
    refine goff h69 (d := 60) rfl rfl rfl rfl fun a70 h70 => ?_
    refine goff h70 (d := 60) rfl rfl rfl rfl fun a71 h71 => ?_
    refine goffu h71 (d := 70) rfl rfl rfl fun a72 h72 => ?_
    refine goffu h72 (d := 70) rfl rfl rfl fun a73 h73 => ?_
    refine goffu h73 (d := 70) rfl rfl rfl fun a74 h74 => ?_
    refine goffu h74 (d := 70) rfl rfl rfl fun a75 h75 => ?_
    refine goffu h75 (d := 70) rfl rfl rfl fun a76 h76 => ?_
    refine goffu h76 (d := 70) rfl rfl rfl fun a77 h77 => ?_
    refine goffu h77 (d := 70) rfl rfl rfl fun a78 h78 => ?_
    refine goff h78 (d := 60) rfl rfl rfl rfl fun a79 h79 => ?_
    refine goff h79 (d := 60) rfl rfl rfl rfl fun a80 h80 => ?_
    refine pkt h80 rfl rfl rfl rfl fun a81 h81 => ?_
    refine asg h81 rfl rfl fun a82 h82 => ?_
    clear hK15 h54 h55 h56 h57 h58 h59 h60 h61 h62 h63 h64 h65 h66 h67 h68 h69 h70 h71 h72 h73 h74 h75 h76 h77 h78 h79 h80 h81 K15 a54 a55 a56 a57 a58 a59 a60 a61 a62 a63 a64 a65 a66 a67 a68 a69 a70 a71 a72 a73 a74 a75 a76 a77 a78 a79 a80 a81
    refine wpL_nil (hK16 _ _ ?_)
    refine rtn (leave h82 (res1 h82 rfl (rvt rfl)) ?_)
    first | exact ⟨_, rfl, rfl, hB⟩ | exact ⟨_, rfl, by rw [hS]; simp only [(bunf hb1), (bunf hb2), (bunt hb3), Bool.true_and, Bool.false_and, Bool.and_false, beq_self_eq_true], hB⟩
   ·
    have hcs := bunf hb3
    refine gon h57 (d := 56) rfl rfl (bnt (bunf hb3)) ?_
    refine mv h57 rfl rfl fun a83 h83 => ?_
    refine gon h83 (d := 56) rfl rfl (bnt (bunf hb3)) ?_
    refine unot h83 rfl rfl fun a84 h84 => ?_
    refine pkf h84 rfl (bnt (bunf hb3)) rfl rfl fun a85 h85 => ?_
    refine mv h85 rfl rfl fun a86 h86 => ?_
    refine spl h86 (d := 60) rfl (fun hb4 => ?_) (fun hb4 => ?_)
    ·
     refine goff h86 (d := 60) rfl rfl (bnf (bunt hb4)) rfl fun a87 h87 => ?_
     refine goff h87 (d := 60) rfl rfl (bnf (bunt hb4)) rfl fun a88 h88 => ?_
     refine goff h88 (d := 60) rfl rfl (bnf (bunt hb4)) rfl fun a89 h89 => ?_
     refine goff h89 (d := 60) rfl rfl (bnf (bunt hb4)) rfl fun a90 h90 => ?_
     refine goff h90 (d := 60) rfl rfl (bnf (bunt hb4)) rfl fun a91 h91 => ?_
     refine goffu h91 (d := 65) rfl rfl rfl fun a92 h92 => ?_
     refine goffu h92 (d := 65) rfl rfl rfl fun a93 h93 => ?_
     refine goffu h93 (d := 65) rfl rfl rfl fun a94 h94 => ?_
     refine goff h94 (d := 60) rfl rfl (bnf (bunt hb4)) rfl fun a95 h95 => ?_
     refine goff h95 (d := 60) rfl rfl (bnf (bunt hb4)) rfl fun a96 h96 => ?_
     refine goffu h96 (d := 70) rfl rfl rfl fun a97 h97 => ?_
     refine goffu h97 (d := 70) rfl rfl rfl fun a98 h98 => ?_
     refine goffu h98 (d := 70) rfl rfl rfl fun a99 h99 => ?_
     refine goffu h99 (d := 70) rfl rfl rfl fun a100 h100 => ?_
     refine goffu h100 (d := 70) rfl rfl rfl fun a101 h101 => ?_
     refine goffu h101 (d := 70) rfl rfl rfl fun a102 h102 => ?_
     refine goffu h102 (d := 70) rfl rfl rfl fun a103 h103 => ?_
     refine goff h103 (d := 60) rfl rfl (bnf (bunt hb4)) rfl fun a104 h104 => ?_
     refine goff h104 (d := 60) rfl rfl (bnf (bunt hb4)) rfl fun a105 h105 => ?_
     refine pkt h105 rfl (bnf (bunt hb4)) rfl rfl fun a106 h106 => ?_
     refine asg h106 rfl rfl fun a107 h107 => ?_
     clear hK15 h54 h55 h56 h57 h83 h84 h85 h86 h87 h88 h89 h90 h91 h92 h93 h94 h95 h96 h97 h98 h99 h100 h101 h102 h103 h104 h105 h106 K15 a54 a55 a56 a57 a83 a84 a85 a86 a87 a88 a89 a90 a91 a92 a93 a94 a95 a96 a97 a98 a99 a100 a101 a102 a103 a104 a105 a106
     refine wpL_nil (hK16 _ _ ?_)
     refine rtn (leave h107 (res1 h107 rfl (rvt rfl)) ?_)
     first | exact ⟨_, rfl, rfl, hB⟩ | exact ⟨_, rfl, by rw [hS]; simp only [(bunf hb1), (bunf hb2), (bunf hb3), (bunt hb4), Bool.true_and, Bool.false_and, Bool.and_false, beq_self_eq_true], hB⟩
    ·
     have hct := bunf hb4
     have hS := apart_same hcs hct
     refine gon h86 (d := 60) rfl rfl (bnt (bunf hb4)) ?_
     refine mv h86 rfl rfl fun a108 h108 => ?_
     refine gon h108 (d := 60) rfl rfl (bnt (bunf hb4)) ?_
     refine ldbn h108 hg17 (ndCells (Pl.nd0 n)) rfl Try.isAgg32 Try.sizeOf32 rfl rfl fun a109 h109 => ?_
     refine gon h109 (d := 60) rfl rfl (bnt (bunf hb4)) ?_
     refine ldbn h109 hg18 (ndCells (Pl.nd0 m)) rfl Try.isAgg32 Try.sizeOf32 rfl rfl fun a110 h110 => ?_
     refine gon h110 (d := 60) rfl rfl (bnt (bunf hb4)) ?_
     refine steq h110 (eqND (Pl.nd0 n) (Pl.nd0 m)) rfl rfl eqg32 rfl fun a111 h111 => ?_
     refine gon h111 (d := 60) rfl rfl (bnt (bunf hb4)) ?_
     refine mv h111 rfl rfl fun a112 h112 => ?_
     refine spl h112 (d := 65) rfl (fun hb6 => ?_) (fun hb6 => ?_)
     ·
      have hp6 := of_decide_eq_true hb6
      refine gon h112 (d := 65) rfl rfl hb6 ?_
      refine mv h112 rfl rfl fun a113 h113 => ?_
      refine gon h113 (d := 65) rfl rfl hb6 ?_
      refine mv h113 rfl rfl fun a114 h114 => ?_
      refine gon h114 (d := 65) rfl rfl hb6 ?_
      refine ieq h114 rfl rfl rfl fun a115 h115 => ?_
      refine gon h115 (d := 60) rfl rfl (bnt (bunf hb4)) ?_
      refine pkt h115 rfl hb6 rfl rfl fun a116 h116 => ?_
      refine gon h116 (d := 60) rfl rfl (bnt (bunf hb4)) ?_
      refine mv h116 rfl rfl fun a117 h117 => ?_
      refine spl h117 (d := 70) rfl (fun hb7 => ?_) (fun hb7 => ?_)
      ·
       have hp7 := of_decide_eq_true hb7
       refine gon h117 (d := 70) rfl rfl hb7 ?_
       refine fab h117 rfl Try.underlying32 rfl Try.sizeOf9 rfl 7 rfl rfl fun a118 h118 => ?_
       refine gon h118 (d := 70) rfl rfl hb7 ?_
       refine ldb h118 hg4 rfl Try.isAgg9 rfl rfl fun a119 h119 => ?_
       refine gon h119 (d := 70) rfl rfl hb7 ?_
       refine lens h119 rfl Try.underlying9 rfl rfl fun a120 h120 => ?_
       refine gon h120 (d := 70) rfl rfl hb7 ?_
       refine fab h120 rfl Try.underlying32 rfl Try.sizeOf9 rfl 7 rfl rfl fun a121 h121 => ?_
       refine gon h121 (d := 70) rfl rfl hb7 ?_
       refine ldb h121 hg6 rfl Try.isAgg9 rfl rfl fun a122 h122 => ?_
       refine gon h122 (d := 70) rfl rfl hb7 ?_
       refine lens h122 rfl Try.underlying9 rfl rfl fun a123 h123 => ?_
       refine gon h123 (d := 70) rfl rfl hb7 ?_
       refine ieq h123 rfl rfl rfl fun a124 h124 => ?_
       refine gon h124 (d := 60) rfl rfl (bnt (bunf hb4)) ?_
       refine pkt h124 rfl hb7 rfl rfl fun a125 h125 => ?_
       refine gon h125 (d := 60) rfl rfl (bnt (bunf hb4)) ?_
       refine beqv h125 Try.underlying4 rfl rfl rfl fun a126 h126 => ?_
       refine pkf h126 rfl (bnt (bunf hb4)) rfl rfl fun a127 h127 => ?_
       refine asg h127 rfl rfl fun a128 h128 => ?_
       clear hK15 h54 h55 h56 h57 h83 h84 h85 h86 h108 h109 h110 h111 h112 h113 h114 h115 h116 h117 h118 h119 h120 h121 h122 h123 h124 h125 h126 h127 K15 a54 a55 a56 a57 a83 a84 a85 a86 a108 a109 a110 a111 a112 a113 a114 a115 a116 a117 a118 a119 a120 a121 a122 a123 a124 a125 a126 a127
       refine wpL_nil (hK16 _ _ ?_)
       refine rtn (leave h128 (res1 h128 rfl (rvt rfl)) ?_)
       first | exact ⟨_, rfl, rfl, hB⟩ | exact ⟨_, rfl, by rw [hS]; simp only [(bunf hb1), (bunf hb2), (bunf hb3), (bunf hb4), hb6, hb7, Bool.true_and, Bool.false_and, Bool.and_false, beq_self_eq_true], hB⟩
      ·
       have hp7 := of_decide_eq_false hb7
       refine goff h117 (d := 70) rfl rfl hb7 rfl fun a129 h129 => ?_
       refine goff h129 (d := 70) rfl rfl hb7 rfl fun a130 h130 => ?_
       refine goff h130 (d := 70) rfl rfl hb7 rfl fun a131 h131 => ?_
       refine goff h131 (d := 70) rfl rfl hb7 rfl fun a132 h132 => ?_
       refine goff h132 (d := 70) rfl rfl hb7 rfl fun a133 h133 => ?_
       refine goff h133 (d := 70) rfl rfl hb7 rfl fun a134 h134 => ?_
       refine goff h134 (d := 70) rfl rfl hb7 rfl fun a135 h135 => ?_
       refine gon h135 (d := 60) rfl rfl (bnt (bunf hb4)) ?_
       refine pkf h135 rfl hb7 rfl rfl fun a136 h136 => ?_
       refine gon h136 (d := 60) rfl rfl (bnt (bunf hb4)) ?_
       refine beqv h136 Try.underlying4 rfl rfl rfl fun a137 h137 => ?_
       refine pkf h137 rfl (bnt (bunf hb4)) rfl rfl fun a138 h138 => ?_
       refine asg h138 rfl rfl fun a139 h139 => ?_
       clear hK15 h54 h55 h56 h57 h83 h84 h85 h86 h108 h109 h110 h111 h112 h113 h114 h115 h116 h117 h129 h130 h131 h132 h133 h134 h135 h136 h137 h138 K15 a54 a55 a56 a57 a83 a84 a85 a86 a108 a109 a110 a111 a112 a113 a114 a115 a116 a117 a129 a130 a131 a132 a133 a134 a135 a136 a137 a138
       refine wpL_nil (hK16 _ _ ?_)
       refine rtn (leave h139 (res1 h139 rfl (rvt rfl)) ?_)
       first | exact ⟨_, rfl, rfl, hB⟩ | exact ⟨_, rfl, by rw [hS]; simp only [(bunf hb1), (bunf hb2), (bunf hb3), (bunf hb4), hb6, hb7, Bool.true_and, Bool.false_and, Bool.and_false, beq_self_eq_true], hB⟩
     ·
      have hp6 := of_decide_eq_false hb6
      refine goff h112 (d := 65) rfl rfl hb6 rfl fun a140 h140 => ?_
      refine goff h140 (d := 65) rfl rfl hb6 rfl fun a141 h141 => ?_
      refine goff h141 (d := 65) rfl rfl hb6 rfl fun a142 h142 => ?_
      refine gon h142 (d := 60) rfl rfl (bnt (bunf hb4)) ?_
      refine pkf h142 rfl hb6 rfl rfl fun a143 h143 => ?_
      refine gon h143 (d := 60) rfl rfl (bnt (bunf hb4)) ?_
      refine mv h143 rfl rfl fun a144 h144 => ?_
      refine goff h144 (d := 70) rfl rfl rfl rfl fun a145 h145 => ?_
      refine goff h145 (d := 70) rfl rfl rfl rfl fun a146 h146 => ?_
      refine goff h146 (d := 70) rfl rfl rfl rfl fun a147 h147 => ?_
      refine goff h147 (d := 70) rfl rfl rfl rfl fun a148 h148 => ?_
      refine goff h148 (d := 70) rfl rfl rfl rfl fun a149 h149 => ?_
      refine goff h149 (d := 70) rfl rfl rfl rfl fun a150 h150 => ?_
      refine goff h150 (d := 70) rfl rfl rfl rfl fun a151 h151 => ?_
      refine gon h151 (d := 60) rfl rfl (bnt (bunf hb4)) ?_
      refine pkf h151 rfl rfl rfl rfl fun a152 h152 => ?_
      refine gon h152 (d := 60) rfl rfl (bnt (bunf hb4)) ?_
      refine beqv h152 Try.underlying4 rfl rfl rfl fun a153 h153 => ?_
      refine pkf h153 rfl (bnt (bunf hb4)) rfl rfl fun a154 h154 => ?_
      refine asg h154 rfl rfl fun a155 h155 => ?_
      clear hK15 h54 h55 h56 h57 h83 h84 h85 h86 h108 h109 h110 h111 h112 h140 h141 h142 h143 h144 h145 h146 h147 h148 h149 h150 h151 h152 h153 h154 K15 a54 a55 a56 a57 a83 a84 a85 a86 a108 a109 a110 a111 a112 a140 a141 a142 a143 a144 a145 a146 a147 a148 a149 a150 a151 a152 a153 a154
      refine wpL_nil (hK16 _ _ ?_)
      refine rtn (leave h155 (res1 h155 rfl (rvt rfl)) ?_)
      first | exact ⟨_, rfl, rfl, hB⟩ | exact ⟨_, rfl, by rw [hS]; simp only [(bunf hb1), (bunf hb2), (bunf hb3), (bunf hb4), hb6, Bool.true_and, Bool.false_and, Bool.and_false, beq_self_eq_true], hB⟩

set_option maxHeartbeats 1000000 in
/-- reelkeeperlaw15.ContBack -/
theorem c_contBack {S : Nat → Prop} (n : Pl.Nd) (off : Int) (v : Value) (l : List (List UInt8)) (w : World) (hof : -9223372036854775808 ≤ off ∧ off ≤ 9223372036854775807) (hv : Rws S w v l) :
  C Try.prog 13 [ndV n, .int .i64 off, v] w fun v w' => v = .bool true ∧ Kept w w' := by
 have hbd := hv.bound
 replace hv := hv.lt
 obtain ⟨A0, c0, rfl⟩ := hv.isl
 refine enterE Try.func13 rfl 96 rfl rfl fun a0 h0 => ?_
 have hB := Kept.refl w
 refine sq fun K1 hK1 => ?_
 refine reg [some 3, some 6] rfl ?_
 refine bxv h0 rfl rfl rfl fun a1 w1 g3 h1 hk1 hz3 hg3 => ?_
 have hleg3 := Nat.le_trans hB.size hz3
 replace hB := Kept.trans hB hk1
 replace hv := hv.kept hk1
 refine asg h1 rfl rfl fun a2 h2 => ?_
 clear h0 h1 a0 a1
 refine wpL_nil (hK1 _ _ ?_)
 refine sq fun K2 hK2 => ?_
 refine reg [some 17, some 7] rfl ?_
 refine cal h2 Try.call46 rfl (c_wake15 _) rfl ?_
 rintro v2 w2 a3 ⟨rfl, hk2⟩ h3
 replace hB := Kept.trans hB hk2
 replace hv := hv.kept hk2
 replace hg3 := hg3.kept hk2
 refine asg h3 rfl rfl fun a4 h4 => ?_
 clear hK1 h2 h3 K1 a2 a3
 refine wpL_nil (hK2 _ _ ?_)
 refine sq fun K3 hK3 => ?_
 refine reg [some 18, some 19, some 8] rfl ?_
 refine ldbn h4 hg3 ([str n.path, str n.link, u8 n.kind, .int .i64 n.mode, .int .i64 n.uid, .int .i64 n.gid, .int .i64 n.mtime, str n.data]) rfl Try.isAgg32 Try.sizeOf32 rfl rfl fun a5 h5 => ?_
 refine cal h5 Try.call40 rfl (c_few5 _ _) rfl ?_
 rintro v3 w3 a6 ⟨rfl, hk3⟩ h6
 replace hB := Kept.trans hB hk3
 replace hv := hv.kept hk3
 replace hg3 := hg3.kept hk3
 refine asg h6 rfl rfl fun a7 h7 => ?_
 clear hK2 h4 h5 h6 K2 a4 a5 a6
 refine wpL_nil (hK3 _ _ ?_)
 refine sq fun K4 hK4 => ?_
 refine sq fun K5 hK5 => ?_
 refine reg [some 20, some 21, some 22, some 23, some 24, some 25, some 26, some 27, some 28, some 29, some 30] rfl ?_
 refine mv h7 rfl rfl fun a8 h8 => ?_
 refine unot h8 rfl rfl fun a9 h9 => ?_
 refine mv h9 rfl rfl fun a10 h10 => ?_
 refine gon h10 (d := 22) rfl rfl rfl ?_
 refine mv h10 rfl rfl fun a11 h11 => ?_
 refine gon h11 (d := 22) rfl rfl rfl ?_
 refine unot h11 rfl rfl fun a12 h12 => ?_
 refine pkf h12 rfl rfl rfl rfl fun a13 h13 => ?_
 refine mv h13 rfl rfl fun a14 h14 => ?_
 refine spl h14 (d := 26) rfl (fun hb1 => ?_) (fun hb1 => ?_)
 ·
  refine goff h14 (d := 26) rfl rfl (bnf (bunt hb1)) rfl fun a15 h15 => ?_
  refine goff h15 (d := 26) rfl rfl (bnf (bunt hb1)) rfl fun a16 h16 => ?_
  refine goff h16 (d := 26) rfl rfl (bnf (bunt hb1)) rfl fun a17 h17 => ?_
  refine pkt h17 rfl (bnf (bunt hb1)) rfl rfl fun a18 h18 => ?_
  clear hK3 h7 h8 h9 h10 h11 h12 h13 h14 h15 h16 h17 K3 a7 a8 a9 a10 a11 a12 a13 a14 a15 a16 a17
  refine wpL_nil (hK5 _ _ ?_)
  refine cdt h18 rfl rfl ?_
  refine sq fun K6 hK6 => ?_
  refine reg [some 31, some 6] rfl ?_
  refine mv h18 rfl rfl fun a19 h19 => ?_
  refine asg h19 rfl rfl fun a20 h20 => ?_
  clear hK5 h18 h19 K5 a18 a19
  refine wpL_nil (hK6 _ _ ?_)
  refine rtn (leave h20 (res1 h20 rfl (rvt rfl)) ?_)
  first | exact ⟨_, rfl, rfl, hB⟩ | exact ⟨_, rfl, by rw [hno.1]; rfl, hB⟩ | exact ⟨_, rfl, by rw [hmb], hB⟩
 ·
  obtain ⟨hn1, hn2, hn3⟩ := few5_L (bunf hb1)
  refine gon h14 (d := 26) rfl rfl (bnt (bunf hb1)) ?_
  refine mv h14 rfl rfl fun a21 h21 => ?_
  refine gon h21 (d := 26) rfl rfl (bnt (bunf hb1)) ?_
  refine lnx h21 rfl Try.underlying25 rfl hv.isl rfl fun a22 h22 => ?_
  refine gon h22 (d := 26) rfl rfl (bnt (bunf hb1)) ?_
  refine gtr h22 rfl rfl rfl fun a23 h23 => ?_
  refine pkf h23 rfl (bnt (bunf hb1)) rfl rfl fun a24 h24 => ?_
  clear hK3 h7 h8 h9 h10 h11 h12 h13 h14 h21 h22 h23 K3 a7 a8 a9 a10 a11 a12 a13 a14 a21 a22 a23
  refine wpL_nil (hK5 _ _ ?_)
  refine spl h24 (d := 30) rfl (fun hb2 => ?_) (fun hb2 => ?_)
  ·
   have hp2 := of_decide_eq_true hb2
   refine cdt h24 rfl hb2 ?_
   refine sq fun K7 hK7 => ?_
   refine reg [some 31, some 6] rfl ?_
   refine mv h24 rfl rfl fun a25 h25 => ?_
   refine asg h25 rfl rfl fun a26 h26 => ?_
   clear hK5 h24 h25 K5 a24 a25
   refine wpL_nil (hK7 _ _ ?_)
   refine rtn (leave h26 (res1 h26 rfl (rvt rfl)) ?_)
   first | exact ⟨_, rfl, rfl, hB⟩ | exact ⟨_, rfl, by rw [hno.1]; rfl, hB⟩ | exact ⟨_, rfl, by rw [hmb], hB⟩
  ·
   have hp2 := of_decide_eq_false hb2
   have hl60 := of_decide_eq_false hb2
   refine cdf h24 rfl hb2 ?_
   refine skp (hK4 _ _ ?_)
   refine sq fun K8 hK8 => ?_
   refine reg [some 33, some 34, some 35, some 32, some 36, some 37, some 9, some 10] rfl ?_
   refine ldbn h24 hg3 ([str n.path, str n.link, u8 n.kind, .int .i64 n.mode, .int .i64 n.uid, .int .i64 n.gid, .int .i64 n.mtime, str n.data]) rfl Try.isAgg32 Try.sizeOf32 rfl rfl fun a27 h27 => ?_
   refine mv h27 rfl rfl fun a28 h28 => ?_
   have hsz4 := hB.size
   have hlg34 := hg3.lt
   refine cal h28 Try.call48 rfl (c_cPut _ _ _ ⟨hn1, hn2, hn3⟩ ⟨by omega, by omega⟩) rfl ?_
   rintro v4 w4 a29 ⟨⟨qp4, rfl, hp4'⟩, hk4⟩ h29
   replace hB := Kept.trans hB hk4
   replace hv := hv.kept hk4
   replace hg3 := hg3.kept hk4
   replace hp4' := hp4'.lt
   have hlw4 := Nat.le_refl w4.heap.size
   refine mv h29 rfl rfl fun a30 h30 => ?_
   refine ext2_0 h30 rfl rfl fun a31 h31 => ?_
   refine ext2_1 h31 rfl rfl fun a32 h32 => ?_
   refine asg h32 rfl rfl fun a33 h33 => ?_
   refine asg h33 rfl rfl fun a34 h34 => ?_
   clear hK5 hK4 h24 h27 h28 h29 h30 h31 h32 h33 K5 K4 a24 a27 a28 a29 a30 a31 a32 a33
   refine wpL_nil (hK8 _ _ ?_)
   refine sq fun K9 hK9 => ?_
   refine sq fun K10 hK10 => ?_
   refine reg [some 38, some 39] rfl ?_
   refine mv h34 rfl rfl fun a35 h35 => ?_
   refine unot h35 rfl rfl fun a36 h36 => ?_
   clear hK8 h34 h35 K8 a34 a35
   refine wpL_nil (hK10 _ _ ?_)
   refine spl h36 (d := 39) rfl (fun hb3 => ?_) (fun hb3 => ?_)
   ·
    have hno := Pl.contPut_none (bunt hb3)
    refine cdt h36 rfl (bnf (bunt hb3)) ?_
    refine sq fun K11 hK11 => ?_
    refine reg [some 40, some 41, some 42, some 43, some 44, some 45, some 46, some 47, some 48, some 6] rfl ?_
    refine mv h36 rfl rfl fun a37 h37 => ?_
    refine lnx h37 rfl Try.underlying25 rfl hp4'.isl rfl fun a38 h38 => ?_
    refine ieq h38 rfl rfl rfl fun a39 h39 => ?_
    refine mv h39 rfl rfl fun a40 h40 => ?_
    refine knownT h40 (d := 43) rfl (by rw [hno.2]; rfl) fun hb4 => ?_
    have hp4 := of_decide_eq_true hb4
    refine gon h40 (d := 43) rfl rfl hb4 ?_
    refine ldbn h40 hg3 ([str n.path, str n.link, u8 n.kind, .int .i64 n.mode, .int .i64 n.uid, .int .i64 n.gid, .int .i64 n.mtime, str n.data]) rfl Try.isAgg32 Try.sizeOf32 rfl rfl fun a41 h41 => ?_
    refine gon h41 (d := 43) rfl rfl hb4 ?_
    refine mv h41 rfl rfl fun a42 h42 => ?_
    refine gon h42 (d := 43) rfl rfl hb4 ?_
    refine cal h42 Try.call53 rfl (c_contMay _ _ _ ⟨hn1, hn2, hn3⟩ ⟨by omega, by omega⟩) rfl ?_
    rintro v5 w5 a43 ⟨rfl, hk5⟩ h43
    replace hB := Kept.trans hB hk5
    replace hlw4 := Nat.le_trans hlw4 hk5.size
    refine gon h43 (d := 43) rfl rfl hb4 ?_
    refine unot h43 rfl rfl fun a44 h44 => ?_
    refine pkt h44 rfl hb4 rfl rfl fun a45 h45 => ?_
    refine asg h45 rfl rfl fun a46 h46 => ?_
    clear hK10 h36 h37 h38 h39 h40 h41 h42 h43 h44 h45 K10 a36 a37 a38 a39 a40 a41 a42 a43 a44 a45
    refine wpL_nil (hK11 _ _ ?_)
    refine rtn (leave h46 (res1 h46 rfl (rvt rfl)) ?_)
    first | exact ⟨_, rfl, rfl, hB⟩ | exact ⟨_, rfl, by rw [hno.1]; rfl, hB⟩ | exact ⟨_, rfl, by rw [hmb], hB⟩
   ·
    have hcs := Pl.contPut_some (bunf hb3)
    have hcr : ((Pl.contPut n off).getD []) = (Pl.contRaw n off n.data.length) := by rw [hcs.2]; rfl
    have hall := Pl.contMay_all hcs.1
    have hone := (Pl.file_parts hall.1).2.1
    have hle : ((Pl.contPut n off).getD []).length ≤ 3 ∧ 1 ≤ ((Pl.contPut n off).getD []).length := by rw [hcr]; exact contRaw_le hall.1
    have hq : Pl.contGet (((Pl.contPut n off).getD []) ++ l) = some (Pl.nd0 n, off, (n.data.length : Int), ((Pl.contPut n off).getD []).length) := by rw [hcr]; exact Pl.contGet_back hall.1 hall.2.1 hall.2.2.1 hall.2.2.2.2 hall.2.2.2.1
    have hmb : Pl.mayB ((Pl.contPut n off).getD []) = true := by rw [hcr]; exact Pl.contRaw_mayB hone hall.2.1 hall.2.2.1 (by omega)
    obtain ⟨Ap, cpp, rfl⟩ := hp4'.isl
    refine cdf h36 rfl (bnt (bunf hb3)) ?_
    refine skp (hK9 _ _ ?_)
    refine sq fun K12 hK12 => ?_
    refine reg [some 50, some 51, some 52, some 53, some 54, some 49, some 55, some 56, some 57, some 58, some 59, some 11, none, some 12, some 13, some 14, some 15] rfl ?_
    refine mv h36 rfl rfl fun a47 h47 => ?_
    have hlo51 := hB.size
    have hgl3 := hg3.lt
    replace hp4' := hp4'.lt
    replace hv := hv.lt
    obtain ⟨A1, c1, vp, eq1, hIp, hVp⟩ := hp4'.vec
    injection eq1 with e1 _ e2; subst e1; subst e2
    obtain ⟨A2, c2, vl, eq2, hIl, hVl⟩ := hv.vec
    injection eq2 with e3 _ e4; subst e3; subst e4
    have hvp : vp.length = ((Pl.contPut n off).getD []).length := hVp.1
    have hvl : vl.length = l.length := hVl.1
        
    refine apn (sz := 1) h47 rfl rfl Try.underlying25 Try.type35 rfl rfl rfl (by decide) (Own.nil w4.heap.size _ 35 1) (Nat.le_refl _) (hIp) (by simp [hvp]) (hVp.oneCell) (by show (_ + _) * 24 ≤ _; simp only [List.length_nil]; omega) (by decide) rfl fun a48 v6 w6 h48 hO51' hk6 hat6 => ?_
    replace hB := ButV.kept0 hB hk6 (Own.nil w4.heap.size _ 35 1) (hB.size)
    replace hg3 := hg3.butV hk6 (by simp [Value.ownBlock])
    replace hp4' := hp4'.butV hk6 (fun b hb _ => by simp [Value.ownBlock])
    replace hlw4 := Nat.le_trans hlw4 hk6.size
    replace hVp := hVp.butV hk6 (fun b hb _ => by simp [Value.ownBlock])
    replace hIl := hIl.butV hk6 (fun b hb _ => by simp [Value.ownBlock])
    replace hVl := hVl.butV hk6 (fun b hb _ => by simp [Value.ownBlock])
    have hls51 := hk6.size
    have hO51 := hO51'; clear hO51'
    refine mv h48 rfl rfl fun a49 h49 => ?_
    refine apn (sz := 1) h49 rfl rfl Try.underlying25 Try.type35 rfl rfl rfl (by decide) hO51 (hls51) (hIl) (by simp [hvl]) (hVl.oneCell) (by show (_ + _) * 24 ≤ _; simp only [List.length_nil, List.nil_append]; omega) (by decide) rfl fun a50 v7 w7 h50 hO53' hk7 hat7 => ?_
    replace hB := ButV.kept0 hB hk7 hO51 (hlo51)
    replace hg3 := hg3.butV hk7 (hO51.ne (by omega))
    replace hp4' := hp4'.butV hk7 (fun b hb _ => hO51.ne hb.2)
    replace hlw4 := Nat.le_trans hlw4 hk7.size
    replace hVp := hVp.butV hk7 (fun b hb _ => hO51.ne hb.2)
    replace hVl := hVl.butV hk7 (fun b hb _ => hO51.ne hb.2)
    have hR53 := Rws.of_vec hO53' (show Vec (fun _ => True) _ (([] ++ vp) ++ vl) (((Pl.contPut n off).getD []) ++ l) by rw [List.nil_append]; exact (hVp.mono (fun _ _ => trivial)).cat (hVl.mono (fun _ _ => trivial)))
    have hO53 := hO53'; clear hO53'
    refine cal h50 Try.call50 rfl (c_contGetU _ _ _ hR53) rfl ?_
    rintro v8 w8 a51 ⟨rfl, hk8⟩ h51
    replace hB := Kept.trans hB hk8
    replace hg3 := hg3.kept hk8
    replace hp4' := hp4'.kept hk8
    replace hlw4 := Nat.le_trans hlw4 hk8.size
    refine mv h51 rfl rfl fun a52 h52 => ?_
    refine ext5_0 h52 rfl rfl fun a53 h53 => ?_
    refine ext5_1 h53 rfl rfl fun a54 h54 => ?_
    refine ext5_2 h54 rfl rfl fun a55 h55 => ?_
    refine ext5_3 h55 rfl rfl fun a56 h56 => ?_
    refine ext5_4 h56 rfl rfl fun a57 h57 => ?_
    refine alc h57 Try.zeroValue32 rfl rfl fun a58 w9 g11 h58 hk9 hz11 hg11 => ?_
    have hleg11 := Nat.le_trans hB.size hz11
    have hneg3g11 := Nat.lt_of_lt_of_le hg3.lt hz11
    have hNhlw4g11 := Nat.le_trans hlw4 hz11
    replace hB := Kept.trans hB hk9
    replace hg3 := hg3.kept hk9
    replace hp4' := hp4'.kept hk9
    replace hlw4 := Nat.le_trans hlw4 hk9.size
    refine stb h58 hg11 rfl rfl _ rfl Try.sizeOf32 (by first | with_reducible exact nd_one _ | exact nd_one n | (simp [Value.oneCell']; done)) _ (by first | (simp; done) | (simp [ndCells]; done)) rfl fun w10 hg11' hk10 => ?_
    replace hB := Kept.but hB hk10 (by omega)
    replace hg3 := hg3.but hk10 (by omega)
    replace hp4' := hp4'.but hk10 (by first | (show ¬ (_ < _); omega) | (simp; omega))
    replace hlw4 := Nat.le_trans hlw4 hk10.size
    clear hg11; have hg11 := hg11'; clear hg11'
    refine asg h58 rfl rfl fun a59 h59 => ?_
    refine asg h59 rfl rfl fun a60 h60 => ?_
    refine asg h60 rfl rfl fun a61 h61 => ?_
    refine asg h61 rfl rfl fun a62 h62 => ?_
    clear hK10 hK9 h36 h47 h48 h49 h50 h51 h52 h53 h54 h55 h56 h57 h58 h59 h60 h61 K10 K9 a36 a47 a48 a49 a50 a51 a52 a53 a54 a55 a56 a57 a58 a59 a60 a61
    refine wpL_nil (hK12 _ _ ?_)
    refine sq fun K13 hK13 => ?_
    refine reg [some 60, some 16, none] rfl ?_
    refine ldbn h62 hg3 (ndCells n) rfl Try.isAgg32 Try.sizeOf32 rfl rfl fun a63 h63 => ?_
    refine alc h63 Try.zeroValue32 rfl rfl fun a64 w11 g16 h64 hk11 hz16 hg16 => ?_
    have hleg16 := Nat.le_trans hB.size hz16
    have hneg3g16 := Nat.lt_of_lt_of_le hg3.lt hz16
    have hNhlw4g16 := Nat.le_trans hlw4 hz16
    have hneg11g16 := Nat.lt_of_lt_of_le hg11.lt hz16
    replace hB := Kept.trans hB hk11
    replace hg3 := hg3.kept hk11
    replace hp4' := hp4'.kept hk11
    replace hlw4 := Nat.le_trans hlw4 hk11.size
    replace hg11 := hg11.kept hk11
    refine stb h64 hg16 rfl rfl _ rfl Try.sizeOf32 (by first | with_reducible exact nd_one _ | exact nd_one n | (simp [Value.oneCell']; done)) _ (by first | (simp; done) | (simp [ndCells]; done)) rfl fun w12 hg16' hk12 => ?_
    replace hB := Kept.but hB hk12 (by omega)
    replace hg3 := hg3.but hk12 (by omega)
    replace hp4' := hp4'.but hk12 (by first | (show ¬ (_ < _); omega) | (simp; omega))
    replace hlw4 := Nat.le_trans hlw4 hk12.size
    replace hg11 := hg11.but hk12 (by omega)
    clear hg16; have hg16 := hg16'; clear hg16'
    clear hK12 h62 h63 K12 a62 a63
    refine wpL_nil (hK13 _ _ ?_)
    refine sq fun K14 hK14 => ?_
    refine reg [some 61, none] rfl ?_
    refine fab h64 rfl Try.underlying32 rfl Try.sizeOf9 rfl 7 rfl rfl fun a65 h65 => ?_
    refine stb h65 hg16 rfl rfl _ rfl Try.sizeOf9 (by simp [Value.oneCell']) _ (by first | (simp; done) | (simp [ndCells]; done)) rfl fun w13 hg16' hk13 => ?_
    replace hB := Kept.but hB hk13 (by omega)
    replace hg3 := hg3.but hk13 (by omega)
    replace hp4' := hp4'.but hk13 (by first | (show ¬ (_ < _); omega) | (simp; omega))
    replace hlw4 := Nat.le_trans hlw4 hk13.size
    replace hg11 := hg11.but hk13 (by omega)
    clear hg16; have hg16 := hg16'; clear hg16'
    clear hK13 h64 K13 a64
    refine wpL_nil (hK14 _ _ ?_)
    refine sq fun K15 hK15 => ?_
    refine reg [some 62, some 63, some 64, some 65, some 66, some 67, some 68, some 69, some 70, some 71, some 72, some 73, some 74, some 75, some 76, some 77, some 78, some 79, some 80, some 81, some 82, some 83, some 84, some 85, some 86, some 87, some 88, some 89, some 90, some 91, some 92, some 93, some 94, some 95, some 6] rfl ?_
    refine mv h65 rfl rfl fun a66 h66 => ?_
    refine mv h66 rfl rfl fun a67 h67 => ?_
    refine knownT h67 (d := 63) rfl (by rw [hq]; rfl) fun hb6 => ?_
    refine gon h67 (d := 63) rfl rfl hb6 ?_
    refine ldbn h67 hg11 (ndCells (gN (Pl.contGet (((Pl.contPut n off).getD []) ++ l)))) rfl Try.isAgg32 Try.sizeOf32 rfl rfl fun a68 h68 => ?_
    refine gon h68 (d := 63) rfl rfl hb6 ?_
    refine ldbn h68 hg16 (ndCells (Pl.nd0 n)) rfl Try.isAgg32 Try.sizeOf32 rfl rfl fun a69 h69 => ?_
    refine gon h69 (d := 63) rfl rfl hb6 ?_
    refine steq h69 (eqND (gN (Pl.contGet (((Pl.contPut n off).getD []) ++ l))) (Pl.nd0 n)) rfl rfl eqg32 rfl fun a70 h70 => ?_
    refine pkt h70 rfl hb6 rfl rfl fun a71 h71 => ?_
    refine mv h71 rfl rfl fun a72 h72 => ?_
    refine knownT h72 (d := 68) rfl (by rw [hq]; exact decide_eq_true rfl) fun hb7 => ?_
    have hp7 := of_decide_eq_true hb7
    refine gon h72 (d := 68) rfl rfl hb7 ?_
    refine mv h72 rfl rfl fun a73 h73 => ?_
    refine gon h73 (d := 68) rfl rfl hb7 ?_
    refine mv h73 rfl rfl fun a74 h74 => ?_
    refine gon h74 (d := 68) rfl rfl hb7 ?_
    refine ieq h74 rfl rfl rfl fun a75 h75 => ?_
    refine pkt h75 rfl hb7 rfl rfl fun a76 h76 => ?_
    refine mv h76 rfl rfl fun a77 h77 => ?_
    refine knownT h77 (d := 73) rfl (by rw [hq]; exact decide_eq_true rfl) fun hb8 => ?_
    have hp8 := of_decide_eq_true hb8
    refine gon h77 (d := 73) rfl rfl hb8 ?_
    refine mv h77 rfl rfl fun a78 h78 => ?_
    refine gon h78 (d := 73) rfl rfl hb8 ?_
    refine fab h78 rfl Try.underlying32 rfl Try.sizeOf9 rfl 7 rfl rfl fun a79 h79 => ?_
    refine gon h79 (d := 73) rfl rfl hb8 ?_
    refine ldb h79 hg3 rfl Try.isAgg9 rfl rfl fun a80 h80 => ?_
    refine gon h80 (d := 73) rfl rfl hb8 ?_
    refine lens h80 rfl Try.underlying9 rfl rfl fun a81 h81 => ?_
    refine gon h81 (d := 73) rfl rfl hb8 ?_
    refine ieq h81 rfl rfl rfl fun a82 h82 => ?_
    refine pkt h82 rfl hb8 rfl rfl fun a83 h83 => ?_
    refine mv h83 rfl rfl fun a84 h84 => ?_
    refine knownT h84 (d := 80) rfl (by rw [hq]; exact decide_eq_true rfl) fun hb9 => ?_
    have hp9 := of_decide_eq_true hb9
    refine gon h84 (d := 80) rfl rfl hb9 ?_
    refine mv h84 rfl rfl fun a85 h85 => ?_
    refine gon h85 (d := 80) rfl rfl hb9 ?_
    refine mv h85 rfl rfl fun a86 h86 => ?_
    refine gon h86 (d := 80) rfl rfl hb9 ?_
    refine lnx h86 rfl Try.underlying25 rfl hp4'.isl rfl fun a87 h87 => ?_
    refine gon h87 (d := 80) rfl rfl hb9 ?_
    refine ieq h87 rfl rfl rfl fun a88 h88 => ?_
    refine pkt h88 rfl hb9 rfl rfl fun a89 h89 => ?_
    refine mv h89 rfl rfl fun a90 h90 => ?_
    refine knownT h90 (d := 86) rfl (by rw [hq]; exact decide_eq_true rfl) fun hb10 => ?_
    have hp10 := of_decide_eq_true hb10
    refine gon h90 (d := 86) rfl rfl hb10 ?_
    refine mv h90 rfl rfl fun a91 h91 => ?_
    refine gon h91 (d := 86) rfl rfl hb10 ?_
    refine ldbn h91 hg3 ([str n.path, str n.link, u8 n.kind, .int .i64 n.mode, .int .i64 n.uid, .int .i64 n.gid, .int .i64 n.mtime, str n.data]) rfl Try.isAgg32 Try.sizeOf32 rfl rfl fun a92 h92 => ?_
    refine gon h92 (d := 86) rfl rfl hb10 ?_
    refine cal h92 Try.call54 rfl (c_contMany _ _ ⟨hn1, hn2, hn3⟩) rfl ?_
    rintro v14 w14 a93 ⟨rfl, hk14⟩ h93
    replace hB := Kept.trans hB hk14
    replace hp4' := hp4'.kept hk14
    replace hlw4 := Nat.le_trans hlw4 hk14.size
    refine gon h93 (d := 86) rfl rfl hb10 ?_
    refine ieq h93 rfl rfl rfl fun a94 h94 => ?_
    refine pkt h94 rfl hb10 rfl rfl fun a95 h95 => ?_
    refine mv h95 rfl rfl fun a96 h96 => ?_
    refine knownT h96 (d := 92) rfl (by rw [hq]; exact decide_eq_true (by show (((Pl.contPut n off).getD []).length : Int) = _; rw [hcr]; exact Pl.contRaw_len hall.1)) fun hb11 => ?_
    have hp11 := of_decide_eq_true hb11
    refine gon h96 (d := 92) rfl rfl hb11 ?_
    refine mv h96 rfl rfl fun a97 h97 => ?_
    refine gon h97 (d := 92) rfl rfl hb11 ?_
    refine cal h97 Try.call38 rfl (c_bmay _ _ _ hp4') rfl ?_
    rintro v15 w15 a98 ⟨rfl, hk15⟩ h98
    replace hB := Kept.trans hB hk15
    replace hlw4 := Nat.le_trans hlw4 hk15.size
    refine pkt h98 rfl hb11 rfl rfl fun a99 h99 => ?_
    refine asg h99 rfl rfl fun a100 h100 => ?_
    clear hK14 h65 h66 h67 h68 h69 h70 h71 h72 h73 h74 h75 h76 h77 h78 h79 h80 h81 h82 h83 h84 h85 h86 h87 h88 h89 h90 h91 h92 h93 h94 h95 h96 h97 h98 h99 K14 a65 a66 a67 a68 a69 a70 a71 a72 a73 a74 a75 a76 a77 a78 a79 a80 a81 a82 a83 a84 a85 a86 a87 a88 a89 a90 a91 a92 a93 a94 a95 a96 a97 a98 a99
    refine wpL_nil (hK15 _ _ ?_)
    refine rtn (leave h100 (res1 h100 rfl (rvt rfl)) ?_)
    first | exact ⟨_, rfl, rfl, hB⟩ | exact ⟨_, rfl, by rw [hno.1]; rfl, hB⟩ | exact ⟨_, rfl, by rw [hmb], hB⟩

set_option maxHeartbeats 1000000 in
/-- reelkeeperlaw15.ContGot -/
theorem c_contGot {S : Nat → Prop} (v : Value) (l : List (List UInt8)) (w : World) (hv : Rws S w v l) :
  C Try.prog 10 [v] w fun v w' => v = .bool true ∧ Kept w w' := by
 have hbd := hv.bound
 replace hv := hv.lt
 obtain ⟨A0, c0, rfl⟩ := hv.isl
 refine enterE Try.func10 rfl 88 rfl rfl fun a0 h0 => ?_
 have hB := Kept.refl w
 refine sq fun K1 hK1 => ?_
 refine reg [some 2] rfl ?_
 refine asg h0 rfl rfl fun a1 h1 => ?_
 clear h0 a0
 refine wpL_nil (hK1 _ _ ?_)
 refine sq fun K2 hK2 => ?_
 refine reg [some 13, some 3] rfl ?_
 refine cal h1 Try.call46 rfl (c_wake15 _) rfl ?_
 rintro v1 w1 a2 ⟨rfl, hk1⟩ h2
 replace hB := Kept.trans hB hk1
 replace hv := hv.kept hk1
 refine asg h2 rfl rfl fun a3 h3 => ?_
 clear hK1 h1 h2 K1 a1 a2
 refine wpL_nil (hK2 _ _ ?_)
 refine sq fun K3 hK3 => ?_
 refine reg [some 14, some 15, some 4] rfl ?_
 refine mv h3 rfl rfl fun a4 h4 => ?_
 refine cal h4 Try.call47 rfl (c_few3 _ _ _ hv) rfl ?_
 rintro v2 w2 a5 ⟨rfl, hk2⟩ h5
 replace hB := Kept.trans hB hk2
 replace hv := hv.kept hk2
 refine asg h5 rfl rfl fun a6 h6 => ?_
 clear hK2 h3 h4 h5 K2 a3 a4 a5
 refine wpL_nil (hK3 _ _ ?_)
 refine sq fun K4 hK4 => ?_
 refine sq fun K5 hK5 => ?_
 refine reg [some 16, some 17, some 18, some 19, some 20, some 21] rfl ?_
 refine mv h6 rfl rfl fun a7 h7 => ?_
 refine unot h7 rfl rfl fun a8 h8 => ?_
 refine mv h8 rfl rfl fun a9 h9 => ?_
 refine gon h9 (d := 18) rfl rfl rfl ?_
 refine mv h9 rfl rfl fun a10 h10 => ?_
 refine gon h10 (d := 18) rfl rfl rfl ?_
 refine unot h10 rfl rfl fun a11 h11 => ?_
 refine pkf h11 rfl rfl rfl rfl fun a12 h12 => ?_
 clear hK3 h6 h7 h8 h9 h10 h11 K3 a6 a7 a8 a9 a10 a11
 refine wpL_nil (hK5 _ _ ?_)
 refine spl h12 (d := 21) rfl (fun hb1 => ?_) (fun hb1 => ?_)
 ·
  refine cdt h12 rfl (bnf (bunt hb1)) ?_
  refine sq fun K6 hK6 => ?_
  refine reg [some 22, some 2] rfl ?_
  refine mv h12 rfl rfl fun a13 h13 => ?_
  refine asg h13 rfl rfl fun a14 h14 => ?_
  clear hK5 h12 h13 K5 a12 a13
  refine wpL_nil (hK6 _ _ ?_)
  refine rtn (leave h14 (res1 h14 rfl (rvt rfl)) ?_)
  first | exact ⟨_, rfl, rfl, hB⟩ | exact ⟨_, rfl, by rw [hnn]; rfl, hB⟩ | exact ⟨_, rfl, by rw [hP, e4, List.drop_zero]; exact congrArg Value.bool (decide_eq_true rfl), hB⟩
 ·
  refine cdf h12 rfl (bnt (bunf hb1)) ?_
  refine skp (hK4 _ _ ?_)
  refine sq fun K7 hK7 => ?_
  refine reg [some 24, some 25, some 23, some 26, some 27, some 28, some 29, some 30, some 5, none, some 6, some 7, some 8, some 9] rfl ?_
  refine mv h12 rfl rfl fun a15 h15 => ?_
  refine cal h15 Try.call50 rfl (c_contGetU _ _ _ hv) rfl ?_
  rintro v3 w3 a16 ⟨rfl, hk3⟩ h16
  replace hB := Kept.trans hB hk3
  replace hv := hv.kept hk3
  refine mv h16 rfl rfl fun a17 h17 => ?_
  refine ext5_0 h17 rfl rfl fun a18 h18 => ?_
  refine ext5_1 h18 rfl rfl fun a19 h19 => ?_
  refine ext5_2 h19 rfl rfl fun a20 h20 => ?_
  refine ext5_3 h20 rfl rfl fun a21 h21 => ?_
  refine ext5_4 h21 rfl rfl fun a22 h22 => ?_
  refine alc h22 Try.zeroValue32 rfl rfl fun a23 w4 g5 h23 hk4 hz5 hg5 => ?_
  have hleg5 := Nat.le_trans hB.size hz5
  replace hB := Kept.trans hB hk4
  replace hv := hv.kept hk4
  refine stb h23 hg5 rfl rfl _ rfl Try.sizeOf32 (by first | with_reducible exact nd_one _ | (simp [Value.oneCell']; done)) _ (by first | (simp; done) | (simp [ndCells]; done)) rfl fun w5 hg5' hk5 => ?_
  replace hB := Kept.but hB hk5 (by omega)
  replace hv := hv.but hk5 (by first | (show ¬ (_ < _); omega) | (simp; omega))
  clear hg5; have hg5 := hg5'; clear hg5'
  refine asg h23 rfl rfl fun a24 h24 => ?_
  refine asg h24 rfl rfl fun a25 h25 => ?_
  refine asg h25 rfl rfl fun a26 h26 => ?_
  refine asg h26 rfl rfl fun a27 h27 => ?_
  clear hK5 hK4 h12 h15 h16 h17 h18 h19 h20 h21 h22 h23 h24 h25 h26 K5 K4 a12 a15 a16 a17 a18 a19 a20 a21 a22 a23 a24 a25 a26
  refine wpL_nil (hK7 _ _ ?_)
  refine sq fun K8 hK8 => ?_
  refine sq fun K9 hK9 => ?_
  refine reg [some 31, some 32] rfl ?_
  refine mv h27 rfl rfl fun a28 h28 => ?_
  refine unot h28 rfl rfl fun a29 h29 => ?_
  clear hK7 h27 h28 K7 a27 a28
  refine wpL_nil (hK9 _ _ ?_)
  refine spl h29 (d := 32) rfl (fun hb2 => ?_) (fun hb2 => ?_)
  ·
   have hnn : Pl.contGet l = none := Option.isNone_iff_eq_none.1 (by rw [Option.isNone_iff_eq_none, ← Option.not_isSome_iff_eq_none, bunt hb2]; decide)
   refine cdt h29 rfl (bnf (bunt hb2)) ?_
   refine sq fun K10 hK10 => ?_
   refine reg [some 33, some 34, some 35, some 36, some 37, some 38, some 39, some 40, some 41, some 42, some 43, some 44, some 45, some 46, some 47, some 2] rfl ?_
   refine ldbn h29 hg5 (ndCells (gN (Pl.contGet l))) rfl Try.isAgg32 Try.sizeOf32 rfl rfl fun a30 h30 => ?_
   refine bld h30 rfl (bld32_) rfl fun a31 h31 => ?_
   refine steq h31 (eqND (gN (Pl.contGet l)) Pl.Nd.none) rfl rfl eqg32 rfl fun a32 h32 => ?_
   refine mv h32 rfl rfl fun a33 h33 => ?_
   refine knownT h33 (d := 36) rfl (by rw [hnn]; exact decide_eq_true rfl) fun hb3 => ?_
   have hp3 := of_decide_eq_true hb3
   refine gon h33 (d := 36) rfl rfl hb3 ?_
   refine mv h33 rfl rfl fun a34 h34 => ?_
   refine gon h34 (d := 36) rfl rfl hb3 ?_
   refine ieq h34 rfl rfl rfl fun a35 h35 => ?_
   refine pkt h35 rfl hb3 rfl rfl fun a36 h36 => ?_
   refine mv h36 rfl rfl fun a37 h37 => ?_
   refine knownT h37 (d := 40) rfl (by rw [hnn]; rfl) fun hb4 => ?_
   have hp4 := of_decide_eq_true hb4
   refine gon h37 (d := 40) rfl rfl hb4 ?_
   refine mv h37 rfl rfl fun a38 h38 => ?_
   refine gon h38 (d := 40) rfl rfl hb4 ?_
   refine ieq h38 rfl rfl rfl fun a39 h39 => ?_
   refine pkt h39 rfl hb4 rfl rfl fun a40 h40 => ?_
   refine mv h40 rfl rfl fun a41 h41 => ?_
   refine knownT h41 (d := 44) rfl (by rw [hnn]; rfl) fun hb5 => ?_
   have hp5 := of_decide_eq_true hb5
   refine gon h41 (d := 44) rfl rfl hb5 ?_
   refine mv h41 rfl rfl fun a42 h42 => ?_
   refine gon h42 (d := 44) rfl rfl hb5 ?_
   refine ieq h42 rfl rfl rfl fun a43 h43 => ?_
   refine pkt h43 rfl hb5 rfl rfl fun a44 h44 => ?_
   refine asg h44 rfl rfl fun a45 h45 => ?_
   clear hK9 h29 h30 h31 h32 h33 h34 h35 h36 h37 h38 h39 h40 h41 h42 h43 h44 K9 a29 a30 a31 a32 a33 a34 a35 a36 a37 a38 a39 a40 a41 a42 a43 a44
   refine wpL_nil (hK10 _ _ ?_)
   refine rtn (leave h45 (res1 h45 rfl (rvt rfl)) ?_)
   first | exact ⟨_, rfl, rfl, hB⟩ | exact ⟨_, rfl, by rw [hnn]; rfl, hB⟩ | exact ⟨_, rfl, by rw [hP, e4, List.drop_zero]; exact congrArg Value.bool (decide_eq_true rfl), hB⟩
  ·
   obtain ⟨⟨gn, go, gw, gk⟩, hq⟩ := Option.isSome_iff_exists.1 (bunf hb2)
   have hgot := Pl.contGet_got hq
   have e1 : gN (Pl.contGet l) = gn := by rw [hq]; rfl
   have e2 : gO (Pl.contGet l) = go := by rw [hq]; rfl
   have e3 : gW (Pl.contGet l) = gw := by rw [hq]; rfl
   have e4 : gK (Pl.contGet l) = (gk : Int) := by rw [hq]; rfl
   have hfp := Pl.file_parts hgot.2.1
   have hpm := Pl.may_ne (one_parts hfp.2.1).2.1
   have hNL : NdL ({ gN (Pl.contGet l) with data := List.replicate (gW (Pl.contGet l)).toNat 0 } : Pl.Nd) := by rw [e1, e3]; exact ⟨by show gn.path.length ≤ _; omega, by show gn.link.length ≤ _; rw [hfp.2.2.1]; simp, by show (List.replicate gw.toNat (0 : UInt8)).length ≤ _; rw [List.length_replicate]; omega⟩
   have hP : Pl.contPut ({ gN (Pl.contGet l) with data := List.replicate (gW (Pl.contGet l)).toNat 0 } : Pl.Nd) (gO (Pl.contGet l)) = some (l.take gk) := by rw [e1, e2, e3, Pl.contGot_put hgot.2.1 hgot.2.2.1 hgot.2.2.2.1 hgot.2.2.2.2.1 hgot.2.2.2.2.2.1 (by rw [List.length_replicate]; omega), hgot.2.2.2.2.2.2.2]
   refine cdf h29 rfl (bnt (bunf hb2)) ?_
   refine skp (hK8 _ _ ?_)
   refine sq fun K11 hK11 => ?_
   refine sq fun K12 hK12 => ?_
   refine reg [some 48, some 49, some 50, some 51, some 52, some 53, some 54, some 55, some 56, some 57, some 58, some 59, some 60, some 61, some 62, some 63, some 64, some 65, some 66, some 67, some 68] rfl ?_
   refine mv h29 rfl rfl fun a46 h46 => ?_
   refine lss h46 rfl rfl rfl fun a47 h47 => ?_
   refine mv h47 rfl rfl fun a48 h48 => ?_
   refine knownF h48 (d := 50) rfl (decide_eq_false (by omega)) fun hb7 => ?_
   have hp7 := of_decide_eq_false hb7
   refine gon h48 (d := 50) rfl rfl hb7 ?_
   refine mv h48 rfl rfl fun a49 h49 => ?_
   refine gon h49 (d := 50) rfl rfl hb7 ?_
   refine mv h49 rfl rfl fun a50 h50 => ?_
   refine gon h50 (d := 50) rfl rfl hb7 ?_
   refine lnx h50 rfl Try.underlying25 rfl hv.isl rfl fun a51 h51 => ?_
   refine gon h51 (d := 50) rfl rfl hb7 ?_
   refine gtr h51 rfl rfl rfl fun a52 h52 => ?_
   refine pkf h52 rfl hb7 rfl rfl fun a53 h53 => ?_
   refine mv h53 rfl rfl fun a54 h54 => ?_
   refine knownF h54 (d := 56) rfl (decide_eq_false (by omega)) fun hb8 => ?_
   have hp8 := of_decide_eq_false hb8
   refine gon h54 (d := 56) rfl rfl hb8 ?_
   refine mv h54 rfl rfl fun a55 h55 => ?_
   refine gon h55 (d := 56) rfl rfl hb8 ?_
   refine lss h55 rfl rfl rfl fun a56 h56 => ?_
   refine pkf h56 rfl hb8 rfl rfl fun a57 h57 => ?_
   refine mv h57 rfl rfl fun a58 h58 => ?_
   refine knownF h58 (d := 60) rfl (decide_eq_false (by omega)) fun hb9 => ?_
   have hp9 := of_decide_eq_false hb9
   refine gon h58 (d := 60) rfl rfl hb9 ?_
   refine mv h58 rfl rfl fun a59 h59 => ?_
   refine gon h59 (d := 60) rfl rfl hb9 ?_
   refine gtr h59 rfl rfl rfl fun a60 h60 => ?_
   refine pkf h60 rfl hb9 rfl rfl fun a61 h61 => ?_
   refine mv h61 rfl rfl fun a62 h62 => ?_
   refine knownF h62 (d := 64) rfl (decide_eq_false (by omega)) fun hb10 => ?_
   have hp10 := of_decide_eq_false hb10
   refine gon h62 (d := 64) rfl rfl hb10 ?_
   refine fab h62 rfl Try.underlying32 rfl Try.sizeOf9 rfl 7 rfl rfl fun a63 h63 => ?_
   refine gon h63 (d := 64) rfl rfl hb10 ?_
   refine ldb h63 hg5 rfl Try.isAgg9 rfl rfl fun a64 h64 => ?_
   refine gon h64 (d := 64) rfl rfl hb10 ?_
   refine sneq h64 rfl rfl rfl fun a65 h65 => ?_
   refine pkf h65 rfl hb10 rfl rfl fun a66 h66 => ?_
   clear hK9 hK8 h29 h46 h47 h48 h49 h50 h51 h52 h53 h54 h55 h56 h57 h58 h59 h60 h61 h62 h63 h64 h65 K9 K8 a29 a46 a47 a48 a49 a50 a51 a52 a53 a54 a55 a56 a57 a58 a59 a60 a61 a62 a63 a64 a65
   refine wpL_nil (hK12 _ _ ?_)
   refine knownF h66 (d := 68) rfl (by rw [e1, hgot.1]; rfl) fun hb11 => ?_
   have hp11 := of_decide_eq_true (bunf hb11)
   refine cdf h66 rfl (bnt (bunf hb11)) ?_
   refine skp (hK11 _ _ ?_)
   refine sq fun K13 hK13 => ?_
   refine reg [some 69, some 70, some 71, some 72, none] rfl ?_
   refine mv h66 rfl rfl fun a67 h67 => ?_
   refine mks h67 (m := (gW (Pl.contGet l)).toNat) (z := .int .u8 0) rfl rfl (by omega) Try.underlying35 (b := 1) (by kernel_rfl) rfl (by omega) (by omega) rfl fun a68 w6 g70 h68 hk6 hz70 hg70 => ?_
   have hleg70 := Nat.le_trans hB.size hz70
   have hneg5g70 := Nat.lt_of_lt_of_le hg5.lt hz70
   replace hB := Kept.trans hB hk6
   replace hv := hv.kept hk6
   replace hg5 := hg5.kept hk6
   refine btos h68 rfl Try.underlying35 Try.underlying5 Try.underlying9 (Blk.byt (bs := List.replicate (gW (Pl.contGet l)).toNat 0) (by rw [List.map_replicate]; exact hg70) (gW (Pl.contGet l)).toNat (by rw [List.length_replicate]) (by first | omega | (rw [List.length_replicate]; omega)) (by first | omega | (rw [List.length_replicate]; omega))) rfl fun a69 h69 => ?_
   refine fab h69 rfl Try.underlying32 rfl Try.sizeOf9 rfl 7 rfl rfl fun a70 h70 => ?_
   refine stb h70 hg5 rfl rfl _ rfl Try.sizeOf9 (by simp [Value.oneCell']) _ (by first | (simp; done) | (simp [ndCells]; done)) rfl fun w7 hg5' hk7 => ?_
   replace hB := Kept.but hB hk7 (by omega)
   replace hv := hv.but hk7 (by first | (show ¬ (_ < _); omega) | (simp; omega))
   clear hg5; have hg5 := hg5'; clear hg5'
   replace hg70 := hg70.but hk7 (by omega)
   clear hK12 hK11 h66 h67 h68 h69 K12 K11 a66 a67 a68 a69
   refine wpL_nil (hK13 _ _ ?_)
   refine sq fun K14 hK14 => ?_
   refine reg [some 74, some 75, some 76, some 73, some 77, some 78, some 10, some 11] rfl ?_
   refine ldbn h70 hg5 (ndCells ({ gN (Pl.contGet l) with data := List.replicate (gW (Pl.contGet l)).toNat 0 } : Pl.Nd)) rfl Try.isAgg32 Try.sizeOf32 rfl rfl fun a71 h71 => ?_
   refine mv h71 rfl rfl fun a72 h72 => ?_
   have hsz8 := hB.size
   have hlg58 := hg5.lt
   have hlg708 := hg70.lt
   refine cal h72 Try.call48 rfl (c_cPut _ _ _ hNL ⟨by omega, by omega⟩) rfl ?_
   rintro v8 w8 a73 ⟨⟨qp8, rfl, hp8'⟩, hk8⟩ h73
   replace hB := Kept.trans hB hk8
   replace hv := hv.kept hk8
   replace hp8' := hp8'.lt
   have hlw8 := Nat.le_refl w8.heap.size
   refine mv h73 rfl rfl fun a74 h74 => ?_
   refine ext2_0 h74 rfl rfl fun a75 h75 => ?_
   refine ext2_1 h75 rfl rfl fun a76 h76 => ?_
   refine asg h76 rfl rfl fun a77 h77 => ?_
   refine asg h77 rfl rfl fun a78 h78 => ?_
   clear hK13 h70 h71 h72 h73 h74 h75 h76 h77 K13 a70 a71 a72 a73 a74 a75 a76 a77
   refine wpL_nil (hK14 _ _ ?_)
   refine sq fun K15 hK15 => ?_
   refine reg [some 79, some 80, some 81, some 82, some 83, some 12] rfl ?_
   refine mv h78 rfl rfl fun a79 h79 => ?_
   refine mv h79 rfl rfl fun a80 h80 => ?_
   refine mv h80 rfl rfl fun a81 h81 => ?_
   refine slR (0) ((gK (Pl.contGet l)).toNat) hv h81 Try.underlying25 rfl Try.sizeOf35 rfl ⟨_, rfl, by first | omega | (simp; omega)⟩ (by omega) (by omega) rfl fun a82 v82' h82 hs82 => ?_
   refine cal h82 Try.call30 rfl (c_rsame _ _ _ _ _ hp8' hs82) rfl ?_
   rintro v9 w9 a83 ⟨rfl, hk9⟩ h83
   replace hB := Kept.trans hB hk9
   replace hlw8 := Nat.le_trans hlw8 hk9.size
   refine asg h83 rfl rfl fun a84 h84 => ?_
   clear hK14 h78 h79 h80 h81 h82 h83 K14 a78 a79 a80 a81 a82 a83
   refine wpL_nil (hK15 _ _ ?_)
   refine sq fun K16 hK16 => ?_
   refine reg [some 84, some 85, some 86, some 87, some 2] rfl ?_
   refine mv h84 rfl rfl fun a85 h85 => ?_
   refine mv h85 rfl rfl fun a86 h86 => ?_
   refine knownT h86 (d := 85) rfl (by rw [hP]; rfl) fun hb12 => ?_
   refine gon h86 (d := 85) rfl rfl hb12 ?_
   refine mv h86 rfl rfl fun a87 h87 => ?_
   refine pkt h87 rfl hb12 rfl rfl fun a88 h88 => ?_
   refine asg h88 rfl rfl fun a89 h89 => ?_
   clear hK15 h84 h85 h86 h87 h88 K15 a84 a85 a86 a87 a88
   refine wpL_nil (hK16 _ _ ?_)
   refine rtn (leave h89 (res1 h89 rfl (rvt rfl)) ?_)
   first | exact ⟨_, rfl, rfl, hB⟩ | exact ⟨_, rfl, by rw [hnn]; rfl, hB⟩ | exact ⟨_, rfl, by rw [hP, e4, List.drop_zero]; exact congrArg Value.bool (decide_eq_true rfl), hB⟩

end Go.Proofs.Ytpgeogdmjgmimaa
