/-
  Walks, written by wip/gen/gen.py.
-/
import Derived.Test.YtpgeogdmjgmimaaW15
set_option linter.unusedVariables false
set_option linter.unusedSimpArgs false
set_option maxRecDepth 4000
namespace Go.Proofs.Ytpgeogdmjgmimaa
open Go Go.RowKit K

theorem kinds_some {t : UInt8} (h : (kindsF (u8 t)).isSome = true) : ∃ k, (kindsF (u8 t)).getD .nilFunc = .func (.func k) #[] #[] ∧ (∀ (args : Array Value) (w : World), (callFunc k args).run Try.prog w = .ok (.enter k args) w) ∧
    ∀ (n : Pl.Nd) (w : World), n.kind = t → NdL n → C Try.prog k [ndV n] w fun v w' => v = .bool (Pl.kindMay n) ∧ Kept w w' := by
  rw [kindsF_at] at h ⊢
  split
  · rename_i e; exact ⟨_, rfl, Try.call148, fun n w h hn => c_kind4 n w (h.trans e)⟩
  · split
    · rename_i e; exact ⟨_, rfl, Try.call147, fun n w h hn => c_kind3 n w (h.trans e)⟩
    · split
      · rename_i e; exact ⟨_, rfl, Try.call146, fun n w h hn => c_kind2 n w (h.trans e) hn⟩
      · split
        · rename_i e; exact ⟨_, rfl, Try.call145, fun n w h hn => c_kind1 n w (h.trans e)⟩
        · rename_i e1 e2 e3 e4; rw [if_neg e1, if_neg e2, if_neg e3, if_neg e4] at h; cases h
theorem one_no {n : Pl.Nd} (h : (kindsF (u8 n.kind)).isSome = false) : Pl.one n = false := by unfold Pl.one; rw [kind_no h]; rfl
def few5 (n : Pl.Nd) : Bool := decide ((n.path.length : Int) ≤ 400) && (decide ((n.link.length : Int) ≤ 400) && decide ((n.data.length : Int) ≤ 5000))
theorem few5_L {n : Pl.Nd} (h : few5 n = true) : NdL n := by simp [few5] at h; exact ⟨by omega, by omega, by omega⟩
theorem nd_one (x : Pl.Nd) : ∀ v ∈ ndCells x, v.oneCell' = true := by intro v hv; simp [ndCells] at hv; rcases hv with rfl | rfl | rfl | rfl | rfl | rfl | rfl | rfl <;> rfl

/-- tree.One -/
theorem c_one (n : Pl.Nd) (w : World) (hn : NdL n) :
  C Try.prog 41 [ndV n] w fun v w' => v = .bool (Pl.one n) ∧ Kept w w' := by
 obtain ⟨hn1, hn2, hn3⟩ := hn
 refine enterE Try.func41 rfl 43 rfl rfl fun a0 h0 => ?_
 have hB := Kept.refl w
 refine sq fun K1 hK1 => ?_
 refine reg [some 1, some 2] rfl ?_
 refine bxv h0 rfl rfl rfl fun a1 w1 g1 h1 hk1 hz1 hg1 => ?_
 have hleg1 := Nat.le_trans hB.size hz1
 replace hB := Kept.trans hB hk1
 refine asg h1 rfl rfl fun a2 h2 => ?_
 clear h0 h1 a0 a1
 refine wpL_nil (hK1 _ _ ?_)
 refine sq fun K2 hK2 => ?_
 clear hK1 K1
 refine drw h2 [some 6, some 7, some 8, some 9, some 5, some 10, some 11, some 3, some 4] rfl [fun v w' => ∃ b, v = .map (some b) ∧ Mp (.int .u8) kindsF w' b, Fx (.pointer (some ⟨g1, 2, none⟩)), Fx (u8 n.kind), Fx (.tuple #[(kindsF (u8 n.kind)).getD .nilFunc, .bool (kindsF (u8 n.kind)).isSome]), Fx (.tuple #[(kindsF (u8 n.kind)).getD .nilFunc, .bool (kindsF (u8 n.kind)).isSome]), Fx ((kindsF (u8 n.kind)).getD .nilFunc), Fx (.bool (kindsF (u8 n.kind)).isSome), Fx ((kindsF (u8 n.kind)).getD .nilFunc), Fx (.bool (kindsF (u8 n.kind)).isSome)] Kept rfl rfl rfl rfl (drewKept _) keptT (mcons (fun v w w' hk h => ⟨h.choose, h.choose_spec.1, h.choose_spec.2.kept hk⟩) (mcons mfx (mcons mfx (mcons mfx (mcons mfx (mcons mfx (mcons mfx (mcons mfx (mcons mfx mnil))))))))) ⟨?_, ?_, ?_, ?_, ?_, ?_, ?_, ?_, ?_, trivial⟩ ?_
 ·
  intro L a w_ hH hb hR hd ho
  refine cal hH Try.call98 evs0 (c_kinds _) rfl ?_
  rintro v2 w2 a3 ⟨hm2, hk2⟩ h3
  exact wpL_nil ⟨_, h3, hk2, hm2⟩
 ·
  intro L a w_ hH hb hR hd ho
  have hl1 := hb 1 _ rfl
  refine fab hH hl1 Try.underlying32 rfl Try.sizeOf5 rfl 2 rfl rfl fun a4 h4 => ?_
  exact wpL_nil ⟨_, h4, Kept.refl _, rfl⟩
 ·
  intro L a w_ hH hb hR hd ho
  obtain ⟨_, hl7, rfl⟩ := hd 1 rfl
  replace hg1 := hg1.kept hR
  refine ldb hH hg1 hl7 Try.isAgg5 rfl rfl fun a5 h5 => ?_
  exact wpL_nil ⟨_, h5, Kept.refl _, rfl⟩
 ·
  intro L a w_ hH hb hR hd ho
  obtain ⟨v6, hl6, hf6⟩ := hd 0 rfl
  obtain ⟨_, hl8, rfl⟩ := hd 2 rfl
  obtain ⟨b6, rfl, hM6⟩ := hf6
  refine lkc hH hM6 hl6 hl8 rfl Try.underlying130 Try.underlying5 Try.zeroValue49 rfl fun a6 h6 => ?_
  exact wpL_nil ⟨_, h6, Kept.refl _, rfl⟩
 ·
  intro L a w_ hH hb hR hd ho
  obtain ⟨_, hl9, rfl⟩ := hd 3 rfl
  refine mv hH hl9 rfl fun a7 h7 => ?_
  exact wpL_nil ⟨_, h7, Kept.refl _, rfl⟩
 ·
  intro L a w_ hH hb hR hd ho
  obtain ⟨_, hl5, rfl⟩ := hd 4 rfl
  refine ext2_0 hH hl5 rfl fun a8 h8 => ?_
  exact wpL_nil ⟨_, h8, Kept.refl _, rfl⟩
 ·
  intro L a w_ hH hb hR hd ho
  obtain ⟨_, hl5, rfl⟩ := hd 4 rfl
  refine ext2_1 hH hl5 rfl fun a9 h9 => ?_
  exact wpL_nil ⟨_, h9, Kept.refl _, rfl⟩
 ·
  intro L a w_ hH hb hR hd ho
  obtain ⟨_, hl10, rfl⟩ := hd 5 rfl
  refine asg hH hl10 rfl fun a10 h10 => ?_
  exact wpL_nil ⟨_, h10, Kept.refl _, rfl⟩
 ·
  intro L a w_ hH hb hR hd ho
  obtain ⟨_, hl11, rfl⟩ := hd 6 rfl
  refine asg hH hl11 rfl fun a11 h11 => ?_
  exact wpL_nil ⟨_, h11, Kept.refl _, rfl⟩
 intro L3 a12 w3 h12 hbh12 hRh12 hdh12
 obtain ⟨v6, hl6, hf6⟩ := hdh12 0 (by decide)
 obtain ⟨_, hl7, rfl⟩ := hdh12 1 (by decide)
 obtain ⟨_, hl8, rfl⟩ := hdh12 2 (by decide)
 obtain ⟨_, hl9, rfl⟩ := hdh12 3 (by decide)
 obtain ⟨_, hl5, rfl⟩ := hdh12 4 (by decide)
 obtain ⟨_, hl10, rfl⟩ := hdh12 5 (by decide)
 obtain ⟨_, hl11, rfl⟩ := hdh12 6 (by decide)
 obtain ⟨_, hl3, rfl⟩ := hdh12 7 (by decide)
 obtain ⟨_, hl4, rfl⟩ := hdh12 8 (by decide)
 have h13 := Has.under h12 hbh12
 have h14 := (h12.add hl4 (h12.add hl3 (h12.add hl11 (h12.add hl10 (h12.add hl5 (h12.add hl9 (h12.add hl8 (h12.add hl7 (h12.add hl6 h13)))))))))
 clear h13 hl6 hl7 hl8 hl9 hl5 hl10 hl11 hl3 hl4 hbh12 hdh12
 replace hB := Kept.trans hB hRh12
 replace hg1 := hg1.kept hRh12
 refine hK2 _ _ ?_
 refine sq fun K3 hK3 => ?_
 refine reg [some 12, some 13, some 14, some 15, some 16, some 17, some 18, some 19, some 20, some 21, some 22, some 23, some 24, some 25, some 26, some 27, some 28, some 29, some 30, some 31, some 32, some 33, some 34, some 35, some 36, some 37, some 38, some 39, some 40, some 41, some 42, some 2] rfl ?_
 refine mv h14 rfl rfl fun a15 h15 => ?_
 refine mv h15 rfl rfl fun a16 h16 => ?_
 refine spl h16 (d := 13) rfl (fun hb9001 => ?_) (fun hb9001 => ?_)
 ·
  obtain ⟨kf, hkv, hke, hkc⟩ := kinds_some hb9001
  refine gon h16 (d := 13) rfl rfl hb9001 ?_
  refine mv h16 rfl rfl fun a17 h17 => ?_
  refine gon h17 (d := 13) rfl rfl hb9001 ?_
  refine ldbn h17 hg1 ([str n.path, str n.link, u8 n.kind, .int .i64 n.mode, .int .i64 n.uid, .int .i64 n.gid, .int .i64 n.mtime, str n.data]) rfl Try.isAgg32 Try.sizeOf32 rfl rfl fun a18 h18 => ?_
  refine gon h18 (d := 13) rfl rfl hb9001 ?_
  refine clv h18 (lke rfl hkv) hke rfl _ rfl (hkc n _ rfl ⟨hn1, hn2, hn3⟩) rfl ?_
  rintro v4 w4 a19 ⟨rfl, hk4⟩ h19
  replace hB := Kept.trans hB hk4
  replace hg1 := hg1.kept hk4
  refine pkt h19 rfl hb9001 rfl rfl fun a20 h20 => ?_
  refine mv h20 rfl rfl fun a21 h21 => ?_
  refine spl h21 (d := 18) rfl (fun hb2 => ?_) (fun hb2 => ?_)
  ·
   refine gon h21 (d := 18) rfl rfl hb2 ?_
   refine fab h21 rfl Try.underlying32 rfl Try.sizeOf9 rfl 0 rfl rfl fun a22 h22 => ?_
   refine gon h22 (d := 18) rfl rfl hb2 ?_
   refine ldb h22 hg1 rfl Try.isAgg9 rfl rfl fun a23 h23 => ?_
   refine gon h23 (d := 18) rfl rfl hb2 ?_
   refine cal h23 Try.call61 rfl (c_pathMay _ _ (by omega)) rfl ?_
   rintro v5 w5 a24 ⟨rfl, hk5⟩ h24
   replace hB := Kept.trans hB hk5
   replace hg1 := hg1.kept hk5
   refine pkt h24 rfl hb2 rfl rfl fun a25 h25 => ?_
   refine mv h25 rfl rfl fun a26 h26 => ?_
   refine spl h26 (d := 23) rfl (fun hb3 => ?_) (fun hb3 => ?_)
   ·
    refine gon h26 (d := 23) rfl rfl hb3 ?_
    refine fab h26 rfl Try.underlying32 rfl Try.sizeOf3 rfl 3 rfl rfl fun a27 h27 => ?_
    refine gon h27 (d := 23) rfl rfl hb3 ?_
    refine ldb h27 hg1 rfl Try.isAgg3 rfl rfl fun a28 h28 => ?_
    refine gon h28 (d := 23) rfl rfl hb3 ?_
    refine cal h28 Try.call99 rfl (c_in _ _ _) rfl ?_
    rintro v6 w6 a29 ⟨rfl, rfl⟩ h29
    refine pkt h29 rfl hb3 rfl rfl fun a30 h30 => ?_
    refine mv h30 rfl rfl fun a31 h31 => ?_
    refine spl h31 (d := 28) rfl (fun hb4 => ?_) (fun hb4 => ?_)
    ·
     refine gon h31 (d := 28) rfl rfl hb4 ?_
     refine fab h31 rfl Try.underlying32 rfl Try.sizeOf3 rfl 4 rfl rfl fun a32 h32 => ?_
     refine gon h32 (d := 28) rfl rfl hb4 ?_
     refine ldb h32 hg1 rfl Try.isAgg3 rfl rfl fun a33 h33 => ?_
     refine gon h33 (d := 28) rfl rfl hb4 ?_
     refine cal h33 Try.call99 rfl (c_in _ _ _) rfl ?_
     rintro v7 w7 a34 ⟨rfl, rfl⟩ h34
     refine pkt h34 rfl hb4 rfl rfl fun a35 h35 => ?_
     refine mv h35 rfl rfl fun a36 h36 => ?_
     refine spl h36 (d := 33) rfl (fun hb5 => ?_) (fun hb5 => ?_)
     ·
      refine gon h36 (d := 33) rfl rfl hb5 ?_
      refine fab h36 rfl Try.underlying32 rfl Try.sizeOf3 rfl 5 rfl rfl fun a37 h37 => ?_
      refine gon h37 (d := 33) rfl rfl hb5 ?_
      refine ldb h37 hg1 rfl Try.isAgg3 rfl rfl fun a38 h38 => ?_
      refine gon h38 (d := 33) rfl rfl hb5 ?_
      refine cal h38 Try.call99 rfl (c_in _ _ _) rfl ?_
      rintro v8 w8 a39 ⟨rfl, rfl⟩ h39
      refine pkt h39 rfl hb5 rfl rfl fun a40 h40 => ?_
      refine mv h40 rfl rfl fun a41 h41 => ?_
      refine spl h41 (d := 38) rfl (fun hb6 => ?_) (fun hb6 => ?_)
      ·
       refine gon h41 (d := 38) rfl rfl hb6 ?_
       refine fab h41 rfl Try.underlying32 rfl Try.sizeOf3 rfl 6 rfl rfl fun a42 h42 => ?_
       refine gon h42 (d := 38) rfl rfl hb6 ?_
       refine ldb h42 hg1 rfl Try.isAgg3 rfl rfl fun a43 h43 => ?_
       refine gon h43 (d := 38) rfl rfl hb6 ?_
       refine cal h43 Try.call99 rfl (c_in _ _ _) rfl ?_
       rintro v9 w9 a44 ⟨rfl, rfl⟩ h44
       refine pkt h44 rfl hb6 rfl rfl fun a45 h45 => ?_
       refine asg h45 rfl rfl fun a46 h46 => ?_
       clear hK2 h14 h15 h16 h17 h18 h19 h20 h21 h22 h23 h24 h25 h26 h27 h28 h29 h30 h31 h32 h33 h34 h35 h36 h37 h38 h39 h40 h41 h42 h43 h44 h45 K2 a15 a16 a17 a18 a19 a20 a21 a22 a23 a24 a25 a26 a27 a28 a29 a30 a31 a32 a33 a34 a35 a36 a37 a38 a39 a40 a41 a42 a43 a44 a45
       refine wpL_nil (hK3 _ _ ?_)
       refine rtn (leave h46 (res1 h46 rfl (rvt rfl)) ?_)
       exact ⟨_, rfl, by simp only [Pl.one, hb9001, hb2, hb3, hb4, hb5, hb6, Bool.true_and, Bool.false_and, Bool.and_true, Bool.and_false], hB⟩
      ·
       refine goff h41 (d := 38) rfl rfl hb6 rfl fun a47 h47 => ?_
       refine goff h47 (d := 38) rfl rfl hb6 rfl fun a48 h48 => ?_
       refine goff h48 (d := 38) rfl rfl hb6 rfl fun a49 h49 => ?_
       refine pkf h49 rfl hb6 rfl rfl fun a50 h50 => ?_
       refine asg h50 rfl rfl fun a51 h51 => ?_
       clear hK2 h14 h15 h16 h17 h18 h19 h20 h21 h22 h23 h24 h25 h26 h27 h28 h29 h30 h31 h32 h33 h34 h35 h36 h37 h38 h39 h40 h41 h47 h48 h49 h50 K2 a15 a16 a17 a18 a19 a20 a21 a22 a23 a24 a25 a26 a27 a28 a29 a30 a31 a32 a33 a34 a35 a36 a37 a38 a39 a40 a41 a47 a48 a49 a50
       refine wpL_nil (hK3 _ _ ?_)
       refine rtn (leave h51 (res1 h51 rfl (rvt rfl)) ?_)
       exact ⟨_, rfl, by simp only [Pl.one, hb9001, hb2, hb3, hb4, hb5, hb6, Bool.true_and, Bool.false_and, Bool.and_true, Bool.and_false], hB⟩
     ·
      refine goff h36 (d := 33) rfl rfl hb5 rfl fun a52 h52 => ?_
      refine goff h52 (d := 33) rfl rfl hb5 rfl fun a53 h53 => ?_
      refine goff h53 (d := 33) rfl rfl hb5 rfl fun a54 h54 => ?_
      refine pkf h54 rfl hb5 rfl rfl fun a55 h55 => ?_
      refine mv h55 rfl rfl fun a56 h56 => ?_
      refine goff h56 (d := 38) rfl rfl rfl rfl fun a57 h57 => ?_
      refine goff h57 (d := 38) rfl rfl rfl rfl fun a58 h58 => ?_
      refine goff h58 (d := 38) rfl rfl rfl rfl fun a59 h59 => ?_
      refine pkf h59 rfl rfl rfl rfl fun a60 h60 => ?_
      refine asg h60 rfl rfl fun a61 h61 => ?_
      clear hK2 h14 h15 h16 h17 h18 h19 h20 h21 h22 h23 h24 h25 h26 h27 h28 h29 h30 h31 h32 h33 h34 h35 h36 h52 h53 h54 h55 h56 h57 h58 h59 h60 K2 a15 a16 a17 a18 a19 a20 a21 a22 a23 a24 a25 a26 a27 a28 a29 a30 a31 a32 a33 a34 a35 a36 a52 a53 a54 a55 a56 a57 a58 a59 a60
      refine wpL_nil (hK3 _ _ ?_)
      refine rtn (leave h61 (res1 h61 rfl (rvt rfl)) ?_)
      exact ⟨_, rfl, by simp only [Pl.one, hb9001, hb2, hb3, hb4, hb5, Bool.true_and, Bool.false_and, Bool.and_true, Bool.and_false], hB⟩
    ·
     refine goff h31 (d := 28) rfl rfl hb4 rfl fun a62 h62 => ?_
     refine goff h62 (d := 28) rfl rfl hb4 rfl fun a63 h63 => ?_
     refine goff h63 (d := 28) rfl rfl hb4 rfl fun a64 h64 => ?_
     refine pkf h64 rfl hb4 rfl rfl fun a65 h65 => ?_
     refine mv h65 rfl rfl fun a66 h66 => ?_
     refine goff h66 (d := 33) rfl rfl rfl rfl fun a67 h67 => ?_
     refine goff h67 (d := 33) rfl rfl rfl rfl fun a68 h68 => ?_
     refine goff h68 (d := 33) rfl rfl rfl rfl fun a69 h69 => ?_
     refine pkf h69 rfl rfl rfl rfl fun a70 h70 => ?_
     refine mv h70 rfl rfl fun a71 h71 => ?_
     refine goff h71 (d := 38) rfl rfl rfl rfl fun a72 h72 => ?_
     refine goff h72 (d := 38) rfl rfl rfl rfl fun a73 h73 => ?_
     refine goff h73 (d := 38) rfl rfl rfl rfl fun a74 h74 => ?_
     refine pkf h74 rfl rfl rfl rfl fun a75 h75 => ?_
     refine asg h75 rfl rfl fun a76 h76 => ?_
     clear hK2 h14 h15 h16 h17 h18 h19 h20 h21 h22 h23 h24 h25 h26 h27 h28 h29 h30 h31 h62 h63 h64 h65 h66 h67 h68 h69 h70 h71 h72 h73 h74 h75 K2 a15 a16 a17 a18 a19 a20 a21 a22 a23 a24 a25 a26 a27 a28 a29 a30 a31 a62 a63 a64 a65 a66 a67 a68 a69 a70 a71 a72 a73 a74 a75
     refine wpL_nil (hK3 _ _ ?_)
     refine rtn (leave h76 (res1 h76 rfl (rvt rfl)) ?_)
     exact ⟨_, rfl, by simp only [Pl.one, hb9001, hb2, hb3, hb4, Bool.true_and, Bool.false_and, Bool.and_true, Bool.and_false], hB⟩
   ·
    refine goff h26 (d := 23) rfl rfl hb3 rfl fun a77 h77 => ?_
    refine goff h77 (d := 23) rfl rfl hb3 rfl fun a78 h78 => ?_
    refine goff h78 (d := 23) rfl rfl hb3 rfl fun a79 h79 => ?_
    refine pkf h79 rfl hb3 rfl rfl fun a80 h80 => ?_
    refine mv h80 rfl rfl fun a81 h81 => ?_
    refine goff h81 (d := 28) rfl rfl rfl rfl fun a82 h82 => ?_
    refine goff h82 (d := 28) rfl rfl rfl rfl fun a83 h83 => ?_
    refine goff h83 (d := 28) rfl rfl rfl rfl fun a84 h84 => ?_
    refine pkf h84 rfl rfl rfl rfl fun a85 h85 => ?_
    refine mv h85 rfl rfl fun a86 h86 => ?_
    refine goff h86 (d := 33) rfl rfl rfl rfl fun a87 h87 => ?_
    refine goff h87 (d := 33) rfl rfl rfl rfl fun a88 h88 => ?_
    refine goff h88 (d := 33) rfl rfl rfl rfl fun a89 h89 => ?_
    refine pkf h89 rfl rfl rfl rfl fun a90 h90 => ?_
    refine mv h90 rfl rfl fun a91 h91 => ?_
    refine goff h91 (d := 38) rfl rfl rfl rfl fun a92 h92 => ?_
    refine goff h92 (d := 38) rfl rfl rfl rfl fun a93 h93 => ?_
    refine goff h93 (d := 38) rfl rfl rfl rfl fun a94 h94 => ?_
    refine pkf h94 rfl rfl rfl rfl fun a95 h95 => ?_
    refine asg h95 rfl rfl fun a96 h96 => ?_
    clear hK2 h14 h15 h16 h17 h18 h19 h20 h21 h22 h23 h24 h25 h26 h77 h78 h79 h80 h81 h82 h83 h84 h85 h86 h87 h88 h89 h90 h91 h92 h93 h94 h95 K2 a15 a16 a17 a18 a19 a20 a21 a22 a23 a24 a25 a26 a77 a78 a79 a80 a81 a82 a83 a84 a85 a86 a87 a88 a89 a90 a91 a92 a93 a94 a95
    refine wpL_nil (hK3 _ _ ?_)
    refine rtn (leave h96 (res1 h96 rfl (rvt rfl)) ?_)
    exact ⟨_, rfl, by simp only [Pl.one, hb9001, hb2, hb3, Bool.true_and, Bool.false_and, Bool.and_true, Bool.and_false], hB⟩
  ·
   refine goff h21 (d := 18) rfl rfl hb2 rfl fun a97 h97 => ?_
   refine goff h97 (d := 18) rfl rfl hb2 rfl fun a98 h98 => ?_
   refine goff h98 (d := 18) rfl rfl hb2 rfl fun a99 h99 => ?_
   refine pkf h99 rfl hb2 rfl rfl fun a100 h100 => ?_
   refine mv h100 rfl rfl fun a101 h101 => ?_
   refine goff h101 (d := 23) rfl rfl rfl rfl fun a102 h102 => ?_
   refine goff h102 (d := 23) rfl rfl rfl rfl fun a103 h103 => ?_
   refine goff h103 (d := 23) rfl rfl rfl rfl fun a104 h104 => ?_
   refine pkf h104 rfl rfl rfl rfl fun a105 h105 => ?_
   refine mv h105 rfl rfl fun a106 h106 => ?_
   refine goff h106 (d := 28) rfl rfl rfl rfl fun a107 h107 => ?_
   refine goff h107 (d := 28) rfl rfl rfl rfl fun a108 h108 => ?_
   refine goff h108 (d := 28) rfl rfl rfl rfl fun a109 h109 => ?_
   refine pkf h109 rfl rfl rfl rfl fun a110 h110 => ?_
   refine mv h110 rfl rfl fun a111 h111 => ?_
   refine goff h111 (d := 33) rfl rfl rfl rfl fun a112 h112 => ?_
   refine goff h112 (d := 33) rfl rfl rfl rfl fun a113 h113 => ?_
   refine goff h113 (d := 33) rfl rfl rfl rfl fun a114 h114 => ?_
   refine pkf h114 rfl rfl rfl rfl fun a115 h115 => ?_
   refine mv h115 rfl rfl fun a116 h116 => ?_
   refine goff h116 (d := 38) rfl rfl rfl rfl fun a117 h117 => ?_
   refine goff h117 (d := 38) rfl rfl rfl rfl fun a118 h118 => ?_
   refine goff h118 (d := 38) rfl rfl rfl rfl fun a119 h119 => ?_
   refine pkf h119 rfl rfl rfl rfl fun a120 h120 => ?_
   refine asg h120 rfl rfl fun a121 h121 => ?_
   clear hK2 h14 h15 h16 h17 h18 h19 h20 h21 h97 h98 h99 h100 h101 h102 h103 h104 h105 h106 h107 h108 h109 h110 h111 h112 h113 h114 h115 h116 h117 h118 h119 h120 K2 a15 a16 a17 a18 a19 a20 a21 a97 a98 a99 a100 a101 a102 a103 a104 a105 a106 a107 a108 a109 a110 a111 a112 a113 a114 a115 a116 a117 a118 a119 a120
   refine wpL_nil (hK3 _ _ ?_)
   refine rtn (leave h121 (res1 h121 rfl (rvt rfl)) ?_)
   exact ⟨_, rfl, by simp only [Pl.one, hb9001, hb2, Bool.true_and, Bool.false_and, Bool.and_true, Bool.and_false], hB⟩
 ·
  have hno := one_no hb9001
  refine goff h16 (d := 13) rfl rfl hb9001 rfl fun a122 h122 => ?_
  refine goff h122 (d := 13) rfl rfl hb9001 rfl fun a123 h123 => ?_
  refine goff h123 (d := 13) rfl rfl hb9001 rfl fun a124 h124 => ?_
  refine pkf h124 rfl hb9001 rfl rfl fun a125 h125 => ?_
  refine mv h125 rfl rfl fun a126 h126 => ?_
  refine goff h126 (d := 18) rfl rfl rfl rfl fun a127 h127 => ?_
  refine goff h127 (d := 18) rfl rfl rfl rfl fun a128 h128 => ?_
  refine goff h128 (d := 18) rfl rfl rfl rfl fun a129 h129 => ?_
  refine pkf h129 rfl rfl rfl rfl fun a130 h130 => ?_
  refine mv h130 rfl rfl fun a131 h131 => ?_
  refine goff h131 (d := 23) rfl rfl rfl rfl fun a132 h132 => ?_
  refine goff h132 (d := 23) rfl rfl rfl rfl fun a133 h133 => ?_
  refine goff h133 (d := 23) rfl rfl rfl rfl fun a134 h134 => ?_
  refine pkf h134 rfl rfl rfl rfl fun a135 h135 => ?_
  refine mv h135 rfl rfl fun a136 h136 => ?_
  refine goff h136 (d := 28) rfl rfl rfl rfl fun a137 h137 => ?_
  refine goff h137 (d := 28) rfl rfl rfl rfl fun a138 h138 => ?_
  refine goff h138 (d := 28) rfl rfl rfl rfl fun a139 h139 => ?_
  refine pkf h139 rfl rfl rfl rfl fun a140 h140 => ?_
  refine mv h140 rfl rfl fun a141 h141 => ?_
  refine goff h141 (d := 33) rfl rfl rfl rfl fun a142 h142 => ?_
  refine goff h142 (d := 33) rfl rfl rfl rfl fun a143 h143 => ?_
  refine goff h143 (d := 33) rfl rfl rfl rfl fun a144 h144 => ?_
  refine pkf h144 rfl rfl rfl rfl fun a145 h145 => ?_
  refine mv h145 rfl rfl fun a146 h146 => ?_
  refine goff h146 (d := 38) rfl rfl rfl rfl fun a147 h147 => ?_
  refine goff h147 (d := 38) rfl rfl rfl rfl fun a148 h148 => ?_
  refine goff h148 (d := 38) rfl rfl rfl rfl fun a149 h149 => ?_
  refine pkf h149 rfl rfl rfl rfl fun a150 h150 => ?_
  refine asg h150 rfl rfl fun a151 h151 => ?_
  clear hK2 h14 h15 h16 h122 h123 h124 h125 h126 h127 h128 h129 h130 h131 h132 h133 h134 h135 h136 h137 h138 h139 h140 h141 h142 h143 h144 h145 h146 h147 h148 h149 h150 K2 a15 a16 a122 a123 a124 a125 a126 a127 a128 a129 a130 a131 a132 a133 a134 a135 a136 a137 a138 a139 a140 a141 a142 a143 a144 a145 a146 a147 a148 a149 a150
  refine wpL_nil (hK3 _ _ ?_)
  refine rtn (leave h151 (res1 h151 rfl (rvt rfl)) ?_)
  exact ⟨_, rfl, by rw [hno], hB⟩

/-- reelkeeperlaw05.Few -/
theorem c_few5 (n : Pl.Nd) (w : World) :
  C Try.prog 40 [ndV n] w fun v w' => v = .bool (few5 n) ∧ Kept w w' := by
 refine enterE Try.func40 rfl 19 rfl rfl fun a0 h0 => ?_
 have hB := Kept.refl w
 refine sq fun K1 hK1 => ?_
 refine reg [some 1, some 2] rfl ?_
 refine bxv h0 rfl rfl rfl fun a1 w1 g1 h1 hk1 hz1 hg1 => ?_
 have hleg1 := Nat.le_trans hB.size hz1
 replace hB := Kept.trans hB hk1
 refine asg h1 rfl rfl fun a2 h2 => ?_
 clear h0 h1 a0 a1
 refine wpL_nil (hK1 _ _ ?_)
 refine sq fun K2 hK2 => ?_
 refine reg [some 3, some 4, some 5, some 6, some 7, some 8, some 9, some 10, some 11, some 12, some 13, some 14, some 15, some 16, some 17, some 18, some 2] rfl ?_
 refine fab h2 rfl Try.underlying32 rfl Try.sizeOf9 rfl 0 rfl rfl fun a3 h3 => ?_
 refine ldb h3 hg1 rfl Try.isAgg9 rfl rfl fun a4 h4 => ?_
 refine lens h4 rfl Try.underlying9 rfl rfl fun a5 h5 => ?_
 refine leq h5 rfl rfl rfl fun a6 h6 => ?_
 refine mv h6 rfl rfl fun a7 h7 => ?_
 refine spl h7 (d := 7) rfl (fun hb1 => ?_) (fun hb1 => ?_)
 ·
  have hp1 := of_decide_eq_true hb1
  refine gon h7 (d := 7) rfl rfl hb1 ?_
  refine fab h7 rfl Try.underlying32 rfl Try.sizeOf9 rfl 1 rfl rfl fun a8 h8 => ?_
  refine gon h8 (d := 7) rfl rfl hb1 ?_
  refine ldb h8 hg1 rfl Try.isAgg9 rfl rfl fun a9 h9 => ?_
  refine gon h9 (d := 7) rfl rfl hb1 ?_
  refine lens h9 rfl Try.underlying9 rfl rfl fun a10 h10 => ?_
  refine gon h10 (d := 7) rfl rfl hb1 ?_
  refine leq h10 rfl rfl rfl fun a11 h11 => ?_
  refine pkt h11 rfl hb1 rfl rfl fun a12 h12 => ?_
  refine mv h12 rfl rfl fun a13 h13 => ?_
  refine spl h13 (d := 13) rfl (fun hb2 => ?_) (fun hb2 => ?_)
  ·
   have hp2 := of_decide_eq_true hb2
   refine gon h13 (d := 13) rfl rfl hb2 ?_
   refine fab h13 rfl Try.underlying32 rfl Try.sizeOf9 rfl 7 rfl rfl fun a14 h14 => ?_
   refine gon h14 (d := 13) rfl rfl hb2 ?_
   refine ldb h14 hg1 rfl Try.isAgg9 rfl rfl fun a15 h15 => ?_
   refine gon h15 (d := 13) rfl rfl hb2 ?_
   refine lens h15 rfl Try.underlying9 rfl rfl fun a16 h16 => ?_
   refine gon h16 (d := 13) rfl rfl hb2 ?_
   refine leq h16 rfl rfl rfl fun a17 h17 => ?_
   refine pkt h17 rfl hb2 rfl rfl fun a18 h18 => ?_
   refine asg h18 rfl rfl fun a19 h19 => ?_
   clear hK1 h2 h3 h4 h5 h6 h7 h8 h9 h10 h11 h12 h13 h14 h15 h16 h17 h18 K1 a2 a3 a4 a5 a6 a7 a8 a9 a10 a11 a12 a13 a14 a15 a16 a17 a18
   refine wpL_nil (hK2 _ _ ?_)
   refine rtn (leave h19 (res1 h19 rfl (rvt rfl)) ?_)
   exact ⟨_, rfl, by simp only [few5, hb1, hb2, Bool.true_and, Bool.false_and, Bool.and_true, Bool.and_false], hB⟩
  ·
   have hp2 := of_decide_eq_false hb2
   refine goff h13 (d := 13) rfl rfl hb2 rfl fun a20 h20 => ?_
   refine goff h20 (d := 13) rfl rfl hb2 rfl fun a21 h21 => ?_
   refine goff h21 (d := 13) rfl rfl hb2 rfl fun a22 h22 => ?_
   refine goff h22 (d := 13) rfl rfl hb2 rfl fun a23 h23 => ?_
   refine pkf h23 rfl hb2 rfl rfl fun a24 h24 => ?_
   refine asg h24 rfl rfl fun a25 h25 => ?_
   clear hK1 h2 h3 h4 h5 h6 h7 h8 h9 h10 h11 h12 h13 h20 h21 h22 h23 h24 K1 a2 a3 a4 a5 a6 a7 a8 a9 a10 a11 a12 a13 a20 a21 a22 a23 a24
   refine wpL_nil (hK2 _ _ ?_)
   refine rtn (leave h25 (res1 h25 rfl (rvt rfl)) ?_)
   exact ⟨_, rfl, by simp only [few5, hb1, hb2, Bool.true_and, Bool.false_and, Bool.and_true, Bool.and_false], hB⟩
 ·
  have hp1 := of_decide_eq_false hb1
  refine goff h7 (d := 7) rfl rfl hb1 rfl fun a26 h26 => ?_
  refine goff h26 (d := 7) rfl rfl hb1 rfl fun a27 h27 => ?_
  refine goff h27 (d := 7) rfl rfl hb1 rfl fun a28 h28 => ?_
  refine goff h28 (d := 7) rfl rfl hb1 rfl fun a29 h29 => ?_
  refine pkf h29 rfl hb1 rfl rfl fun a30 h30 => ?_
  refine mv h30 rfl rfl fun a31 h31 => ?_
  refine goff h31 (d := 13) rfl rfl rfl rfl fun a32 h32 => ?_
  refine goff h32 (d := 13) rfl rfl rfl rfl fun a33 h33 => ?_
  refine goff h33 (d := 13) rfl rfl rfl rfl fun a34 h34 => ?_
  refine goff h34 (d := 13) rfl rfl rfl rfl fun a35 h35 => ?_
  refine pkf h35 rfl rfl rfl rfl fun a36 h36 => ?_
  refine asg h36 rfl rfl fun a37 h37 => ?_
  clear hK1 h2 h3 h4 h5 h6 h7 h26 h27 h28 h29 h30 h31 h32 h33 h34 h35 h36 K1 a2 a3 a4 a5 a6 a7 a26 a27 a28 a29 a30 a31 a32 a33 a34 a35 a36
  refine wpL_nil (hK2 _ _ ?_)
  refine rtn (leave h37 (res1 h37 rfl (rvt rfl)) ?_)
  exact ⟨_, rfl, by simp only [few5, hb1, Bool.true_and, Bool.false_and, Bool.and_true, Bool.and_false], hB⟩

end Go.Proofs.Ytpgeogdmjgmimaa
