/-
  Walks, written by wip/gen/gen.py.
-/
import Derived.Test.YtpgeogdmjgmimaaW4
set_option linter.unusedVariables false
set_option linter.unusedSimpArgs false
set_option maxRecDepth 4000
namespace Go.Proofs.Ytpgeogdmjgmimaa
open Go Go.RowKit K

theorem all_next {α : Type} {l : List α} {f : α → Bool} {k : Nat} {x : α} (h : (l.take k).all f = true) (hx : l[k]? = some x) (hf : f x = true) : (l.take (k + 1)).all f = true := by
  rw [List.take_add_one, hx, List.all_append, h]; simpa using hf
theorem all_not {α : Type} {l : List α} {f : α → Bool} {k : Nat} {x : α} (hx : l[k]? = some x) (hf : f x = false) : l.all f = false := by
  rw [List.all_eq_false]; exact ⟨x, List.mem_of_getElem? hx, by simp [hf]⟩

/-- path.May -/
theorem c_pathMay (p : List UInt8) (w : World) (hp : p.length ≤ 4611686018427387904) :
  C Try.prog 61 [str p] w fun v w' => v = .bool (Pl.pathMay p) ∧ Kept w w' := by
 refine enterM Try.func61 rfl 19 rfl rfl fun a0 h0 => ?_
 have hB := Kept.refl w
 refine sq fun K1 hK1 => ?_
 refine reg [some 2] rfl ?_
 refine alc h0 Try.zeroValue4 rfl rfl fun a1 w1 g2 h1 hk1 hz2 hg2 => ?_
 have hleg2 := Nat.le_trans hB.size hz2
 replace hB := Kept.trans hB hk1
 clear h0 a0
 refine wpL_nil (hK1 _ _ ?_)
 refine sq fun K2 hK2 => ?_
 refine reg [some 3, none] rfl ?_
 refine alc h1 Try.zeroValue39 rfl rfl fun a2 w2 g3 h2 hk2 hz3 hg3 => ?_
 have hleg3 := Nat.le_trans hB.size hz3
 have hneg2g3 := Nat.lt_of_lt_of_le hg2.lt hz3
 replace hB := Kept.trans hB hk2
 replace hg2 := hg2.kept hk2
 refine stb h2 hg3 rfl rfl _ rfl Try.sizeOf39 (by simp [Value.oneCell']) _ (by simp) rfl fun w3 hg3' hk3 => ?_
 replace hB := Kept.but hB hk3 (by omega)
 replace hg2 := hg2.but hk3 (by omega)
 clear hg3; have hg3 := hg3'; clear hg3'
 clear hK1 h1 K1 a1
 refine wpL_nil (hK2 _ _ ?_)
 refine sq fun K3 hK3 => ?_
 refine sq fun K4 hK4 => ?_
 refine reg [some 5, some 6] rfl ?_
 refine mv h2 rfl rfl fun a3 h3 => ?_
 have hsz4 := hB.size
 have hlg24 := hg2.lt
 have hlg34 := hg3.lt
 refine cal h3 Try.call122 rfl (c_parts _ _) rfl ?_
 rintro v4 w4 a4 ⟨gp, rfl, hgp0, hgp, hk4⟩ h4
 replace hB := Kept.trans hB hk4
 replace hg2 := hg2.kept hk4
 replace hg3 := hg3.kept hk4
 clear hK2 h2 h3 K2 a2 a3
 refine wpL_nil (hK4 _ _ ?_)
 refine blc ?_
 clear hK4 K4
 have hle0 := hB.size
 have hgl := hgp.lt
 refine rgf h4 rfl Try.call167 rfl (i_parts p gp (by omega)) hgp (trivial) (fun _ _ h _ => h) (fun (k : Nat) (W : World) => (((Pl.parts p).take k).all (fun s => !Pl.odd s) = true) ∧ (Blk W g2 4 [.bool false]) ∧ (Blk W g3 39 [.func (.func 121) #[] #[]]) ∧ (Kept w W)) (fun (c : Code) (W : World) => c = .ret ∧ ((Pl.parts p).all (fun s => !Pl.odd s) = false) ∧ (Blk W g2 4 [.bool false]) ∧ (Kept w W)) ?_ ?_ ⟨rfl, hg2, hg3, hB⟩ (fun _ => rfl) ?_ ?_ ?_
 ·
  rintro k A B ⟨hodd, hg2, hg3, hB⟩ hck; exact ⟨hodd, hg2.ck hck (by omega), hg3.ck hck (by omega), hB.ck hck (by omega) (by omega)⟩
 ·
  rintro c A B ⟨hc, hodd, hg2, hB⟩ hck; exact ⟨hc, hodd, hg2.ck hck (by omega), hB.ck hck (by omega) (by omega)⟩
 ·
  intro k s lr a5 w5 hx h5
  refine reg [some 4] rfl ?_
  refine asg h5 rfl rfl fun a6 h6 => ?_
  clear h5 a5
  refine wpL_nil ?_
  refine And.intro rfl ?_
  rintro w6 ⟨hodd, hg2, hg3, hB⟩ hBit hMit
  have hN := KeepsOthers.refl w6
  refine blc ?_
  refine sq fun K5 hK5 => ?_
  refine reg [some 8, some 9, some 10] rfl ?_
  refine ldb h6 hg3 rfl Try.isAgg39 rfl rfl fun a7 h7 => ?_
  refine mv h7 rfl rfl fun a8 h8 => ?_
  refine clv h8 rfl Try.call121 rfl _ rfl (c_odd _ _) rfl ?_
  rintro v7 w7 a9 ⟨rfl, rfl⟩ h9
  clear h6 h7 h8 a6 a7 a8
  refine wpL_nil (hK5 _ _ ?_)
  refine spl h9 (d := 10) rfl (fun hb1 => ?_) (fun hb1 => ?_)
  ·
   refine cdt h9 rfl hb1 ?_
   refine sq fun K6 hK6 => ?_
   refine reg [none] rfl ?_
   refine stb h9 hg2 rfl rfl _ rfl Try.sizeOf4 (by simp [Value.oneCell']) _ (by simp) rfl fun w8 hg2' hk8 => ?_
   replace hN := hN.trans (But.nc hk8 hg2)
   clear hg2; have hg2 := hg2'; clear hg2'
   replace hB := Kept.but hB hk8 (by omega)
   clear hK5 K5
   refine wpL_nil (hK6 _ _ ?_)
   refine rtn ?_
   refine And.intro hN ?_
   exact ⟨rfl, (all_not hx (by simp [*])), hg2, hB⟩
  ·
   refine cdf h9 rfl hb1 ?_
   refine skp ?_
   exact And.intro hN (And.intro ⟨(all_next hodd hx (by simp [*])), hg2, hg3, hB⟩ (And.intro hBit hMit))
 ·
  rintro D a10 w9 hDle hD ⟨hodd, hg2, hg3, hB⟩ h10
  refine hK3 _ _ ?_
  refine sq fun K7 hK7 => ?_
  refine reg [some 11, some 12, some 13, some 14, some 15, some 16, some 17, some 18, none] rfl ?_
  refine mv h10 rfl rfl fun a11 h11 => ?_
  refine lens h11 rfl Try.underlying9 rfl rfl fun a12 h12 => ?_
  refine leq h12 rfl rfl rfl fun a13 h13 => ?_
  refine mv h13 rfl rfl fun a14 h14 => ?_
  refine spl h14 (d := 14) rfl (fun hb2 => ?_) (fun hb2 => ?_)
  ·
   have hp2 := of_decide_eq_true hb2
   refine gon h14 (d := 14) rfl rfl hb2 ?_
   refine mv h14 rfl rfl fun a15 h15 => ?_
   refine gon h15 (d := 14) rfl rfl hb2 ?_
   refine cal h15 Try.call87 rfl (c_indexByte _ 0 _) rfl ?_
   rintro v10 w10 a16 ⟨rfl, rfl⟩ h16
   refine gon h16 (d := 14) rfl rfl hb2 ?_
   refine lss h16 rfl rfl rfl fun a17 h17 => ?_
   refine pkt h17 rfl hb2 rfl rfl fun a18 h18 => ?_
   refine stb h18 hg2 rfl rfl _ rfl Try.sizeOf4 (by simp [Value.oneCell']) _ (by simp) rfl fun w11 hg2' hk11 => ?_
   replace hD := (But.nc hk11 hg2).same _ _ hD rfl
   clear hg2; have hg2 := hg2'; clear hg2'
   replace hB := Kept.but hB hk11 (by omega)
   clear hK3 h10 h11 h12 h13 h14 h15 h16 h17 K3 a10 a11 a12 a13 a14 a15 a16 a17
   refine wpL_nil (hK7 _ _ ?_)
   have hck := CK.putObj (g := gp) (n0 := w4.heap.size) (.deferred none) hD rfl hDle
   replace hg2 := hg2.ck hck  (by omega)
   replace hB := hB.ck hck  (by omega) (by omega)
   refine rtn (leaveM h18 hD (res1 h18 rfl (rvc hg2 rfl Try.isAgg4 rfl)) ?_)
   have hall : (Pl.parts p).all (fun s => !Pl.odd s) = true := by simpa using hodd
   exact ⟨_, rfl, by rw [Pl.pathMay, hall]; simp [*], hB⟩
  ·
   have hp2 := of_decide_eq_false hb2
   refine goff h14 (d := 14) rfl rfl hb2 rfl fun a19 h19 => ?_
   refine goff h19 (d := 14) rfl rfl hb2 rfl fun a20 h20 => ?_
   refine goff h20 (d := 14) rfl rfl hb2 rfl fun a21 h21 => ?_
   refine pkf h21 rfl hb2 rfl rfl fun a22 h22 => ?_
   refine stb h22 hg2 rfl rfl _ rfl Try.sizeOf4 (by simp [Value.oneCell']) _ (by simp) rfl fun w12 hg2' hk12 => ?_
   replace hD := (But.nc hk12 hg2).same _ _ hD rfl
   clear hg2; have hg2 := hg2'; clear hg2'
   replace hB := Kept.but hB hk12 (by omega)
   clear hK3 h10 h11 h12 h13 h14 h19 h20 h21 K3 a10 a11 a12 a13 a14 a19 a20 a21
   refine wpL_nil (hK7 _ _ ?_)
   have hck := CK.putObj (g := gp) (n0 := w4.heap.size) (.deferred none) hD rfl hDle
   replace hg2 := hg2.ck hck  (by omega)
   replace hB := hB.ck hck  (by omega) (by omega)
   refine rtn (leaveM h22 hD (res1 h22 rfl (rvc hg2 rfl Try.isAgg4 rfl)) ?_)
   have hall : (Pl.parts p).all (fun s => !Pl.odd s) = true := by simpa using hodd
   exact ⟨_, rfl, by rw [Pl.pathMay, hall]; simp [*], hB⟩
 ·
  rintro D a23 c w13 hDle hD ⟨rfl, hodd, hg2, hB⟩ h23
  have hck := CK.putObj (g := gp) (n0 := w4.heap.size) (.deferred none) hD rfl hDle
  replace hg2 := hg2.ck hck  (by omega)
  replace hB := hB.ck hck  (by omega) (by omega)
  refine rtn (leaveM h23 hD (res1 h23 rfl (rvc hg2 rfl Try.isAgg4 rfl)) ?_)
  exact ⟨_, rfl, by simp [Pl.pathMay, hodd], hB⟩

/-- path.Join -/
theorem c_join (a b : List UInt8) (w : World) (hl : a.length + b.length ≤ 4611686018427387904) :
  C Try.prog 187 [str a, str b] w fun v w' => v = str (Pl.join a b) ∧ w = w' := by
 refine enterE Try.func187 rfl 12 rfl rfl fun a0 h0 => ?_
 have hB := Kept.refl w
 refine sq fun K1 hK1 => ?_
 refine reg [some 4] rfl ?_
 refine asg h0 rfl rfl fun a1 h1 => ?_
 clear h0 a0
 refine wpL_nil (hK1 _ _ ?_)
 refine sq fun K2 hK2 => ?_
 refine sq fun K3 hK3 => ?_
 refine reg [some 5, some 6] rfl ?_
 refine mv h1 rfl rfl fun a2 h2 => ?_
 refine seq h2 rfl rfl rfl fun a3 h3 => ?_
 clear hK1 h1 h2 K1 a1 a2
 refine wpL_nil (hK3 _ _ ?_)
 refine spl h3 (d := 6) rfl (fun hb1 => ?_) (fun hb1 => ?_)
 ·
  have hp1 := of_decide_eq_true hb1
  refine cdt h3 rfl hb1 ?_
  refine sq fun K4 hK4 => ?_
  refine reg [some 7, some 4] rfl ?_
  refine mv h3 rfl rfl fun a4 h4 => ?_
  refine asg h4 rfl rfl fun a5 h5 => ?_
  clear hK3 h3 h4 K3 a3 a4
  refine wpL_nil (hK4 _ _ ?_)
  refine rtn (leave h5 (res1 h5 rfl (rvt rfl)) ?_)
  exact ⟨_, rfl, by simp [Pl.join, hp1], rfl⟩
 ·
  have hp1 := of_decide_eq_false hb1
  refine cdf h3 rfl hb1 ?_
  refine skp (hK2 _ _ ?_)
  refine sq fun K5 hK5 => ?_
  refine reg [some 8, some 9, some 10, some 11, some 4] rfl ?_
  refine mv h3 rfl rfl fun a6 h6 => ?_
  refine sadd h6 rfl rfl rfl (by simp; omega) fun a7 h7 => ?_
  refine mv h7 rfl rfl fun a8 h8 => ?_
  refine sadd h8 rfl rfl rfl (by simp; omega) fun a9 h9 => ?_
  refine asg h9 rfl rfl fun a10 h10 => ?_
  clear hK3 hK2 h3 h6 h7 h8 h9 K3 K2 a3 a6 a7 a8 a9
  refine wpL_nil (hK5 _ _ ?_)
  refine rtn (leave h10 (res1 h10 rfl (rvt rfl)) ?_)
  exact ⟨_, rfl, by simp [Pl.join, hp1], rfl⟩

/-- path.Parent -/
theorem c_parent (p : List UInt8) (w : World) (hp : p.length ≤ 4611686018427387904) :
  C Try.prog 74 [str p] w fun v w' => v = parentV (Pl.parent p) ∧ Kept w w' := by
 have hr := Pl.lastByte_range p 47 p.length
 refine enterE Try.func74 rfl 17 rfl rfl fun a0 h0 => ?_
 have hB := Kept.refl w
 refine sq fun K1 hK1 => ?_
 refine reg [some 2, some 3] rfl ?_
 refine asg h0 rfl rfl fun a1 h1 => ?_
 refine asg h1 rfl rfl fun a2 h2 => ?_
 clear h0 h1 a0 a1
 refine wpL_nil (hK1 _ _ ?_)
 refine sq fun K2 hK2 => ?_
 refine reg [some 5, some 6, some 4] rfl ?_
 refine mv h2 rfl rfl fun a3 h3 => ?_
 refine cal h3 Try.call127 rfl (c_last _ 47 _ (by omega)) rfl ?_
 rintro v1 w1 a4 ⟨rfl, rfl⟩ h4
 refine asg h4 rfl rfl fun a5 h5 => ?_
 clear hK1 h2 h3 h4 K1 a2 a3 a4
 refine wpL_nil (hK2 _ _ ?_)
 refine sq fun K3 hK3 => ?_
 refine sq fun K4 hK4 => ?_
 refine reg [some 7, some 8, some 9, some 10, some 11, some 12, some 13] rfl ?_
 refine mv h5 rfl rfl fun a6 h6 => ?_
 refine lss h6 rfl rfl rfl fun a7 h7 => ?_
 refine mv h7 rfl rfl fun a8 h8 => ?_
 refine spl h8 (d := 9) rfl (fun hb1 => ?_) (fun hb1 => ?_)
 ·
  have hp1 := of_decide_eq_true hb1
  refine goff h8 (d := 9) rfl rfl hb1 rfl fun a9 h9 => ?_
  refine goff h9 (d := 9) rfl rfl hb1 rfl fun a10 h10 => ?_
  refine goff h10 (d := 9) rfl rfl hb1 rfl fun a11 h11 => ?_
  refine pkt h11 rfl hb1 rfl rfl fun a12 h12 => ?_
  clear hK2 h5 h6 h7 h8 h9 h10 h11 K2 a5 a6 a7 a8 a9 a10 a11
  refine wpL_nil (hK4 _ _ ?_)
  refine cdt h12 rfl rfl ?_
  refine sq fun K5 hK5 => ?_
  refine reg [some 2, some 3] rfl ?_
  refine asg h12 rfl rfl fun a13 h13 => ?_
  refine asg h13 rfl rfl fun a14 h14 => ?_
  clear hK4 h12 h13 K4 a12 a13
  refine wpL_nil (hK5 _ _ ?_)
  refine rtn (leave h14 (res2 h14 rfl (rvt rfl) (rvt rfl)) ?_)
  exact ⟨_, rfl, by rw [Pl.parent_none (.inl hp1)]; rfl, hB⟩
 ·
  have hp1 := of_decide_eq_false hb1
  refine gon h8 (d := 9) rfl rfl hb1 ?_
  refine mv h8 rfl rfl fun a15 h15 => ?_
  refine gon h15 (d := 9) rfl rfl hb1 ?_
  refine cal h15 Try.call61 rfl (c_pathMay _ _ (by omega)) rfl ?_
  rintro v2 w2 a16 ⟨rfl, hk2⟩ h16
  replace hB := Kept.trans hB hk2
  refine gon h16 (d := 9) rfl rfl hb1 ?_
  refine unot h16 rfl rfl fun a17 h17 => ?_
  refine pkf h17 rfl hb1 rfl rfl fun a18 h18 => ?_
  clear hK2 h5 h6 h7 h8 h15 h16 h17 K2 a5 a6 a7 a8 a15 a16 a17
  refine wpL_nil (hK4 _ _ ?_)
  refine spl h18 (d := 13) rfl (fun hb2 => ?_) (fun hb2 => ?_)
  ·
   refine cdt h18 rfl (bnf (bunt hb2)) ?_
   refine sq fun K6 hK6 => ?_
   refine reg [some 2, some 3] rfl ?_
   refine asg h18 rfl rfl fun a19 h19 => ?_
   refine asg h19 rfl rfl fun a20 h20 => ?_
   clear hK4 h18 h19 K4 a18 a19
   refine wpL_nil (hK6 _ _ ?_)
   refine rtn (leave h20 (res2 h20 rfl (rvt rfl) (rvt rfl)) ?_)
   exact ⟨_, rfl, by rw [Pl.parent_none (.inr hb2)]; rfl, hB⟩
  ·
   refine cdf h18 rfl (bnt (bunf hb2)) ?_
   refine skp (hK3 _ _ ?_)
   refine sq fun K7 hK7 => ?_
   refine reg [some 14, some 15, some 16, some 2, some 3] rfl ?_
   refine mv h18 rfl rfl fun a21 h21 => ?_
   refine mv h21 rfl rfl fun a22 h22 => ?_
   refine slct ((Pl.lastByte p 47 p.length).toNat) h22 Try.underlying9 rfl ⟨_, rfl, by first | omega | (simp; omega)⟩ (by omega) rfl fun a23 h23 => ?_
   refine asg h23 rfl rfl fun a24 h24 => ?_
   refine asg h24 rfl rfl fun a25 h25 => ?_
   clear hK4 hK3 h18 h21 h22 h23 h24 K4 K3 a18 a21 a22 a23 a24
   refine wpL_nil (hK7 _ _ ?_)
   refine rtn (leave h25 (res2 h25 rfl (rvt rfl) (rvt rfl)) ?_)
   exact ⟨_, rfl, by rw [Pl.parent_some hp1 hb2]; rfl, hB⟩

/-- path.Split -/
theorem c_split (p : List UInt8) (w : World) (hp : p.length ≤ 4611686018427387904) :
  C Try.prog 135 [str p] w fun v w' => v = splitV (Pl.split p) ∧ Kept w w' := by
 refine enterE Try.func135 rfl 41 rfl rfl fun a0 h0 => ?_
 have hB := Kept.refl w
 refine sq fun K1 hK1 => ?_
 refine reg [some 2, some 3, some 4] rfl ?_
 refine asg h0 rfl rfl fun a1 h1 => ?_
 refine asg h1 rfl rfl fun a2 h2 => ?_
 refine asg h2 rfl rfl fun a3 h3 => ?_
 clear h0 h1 h2 a0 a1 a2
 refine wpL_nil (hK1 _ _ ?_)
 refine sq fun K2 hK2 => ?_
 refine sq fun K3 hK3 => ?_
 refine reg [some 7, some 8, some 9] rfl ?_
 refine mv h3 rfl rfl fun a4 h4 => ?_
 refine cal h4 Try.call61 rfl (c_pathMay _ _ (by omega)) rfl ?_
 rintro v1 w1 a5 ⟨rfl, hk1⟩ h5
 replace hB := Kept.trans hB hk1
 refine unot h5 rfl rfl fun a6 h6 => ?_
 clear hK1 h3 h4 h5 K1 a3 a4 a5
 refine wpL_nil (hK3 _ _ ?_)
 refine spl h6 (d := 9) rfl (fun hb1 => ?_) (fun hb1 => ?_)
 ·
  refine cdt h6 rfl (bnf (bunt hb1)) ?_
  refine sq fun K4 hK4 => ?_
  refine reg [some 2, some 3, some 4] rfl ?_
  refine asg h6 rfl rfl fun a7 h7 => ?_
  refine asg h7 rfl rfl fun a8 h8 => ?_
  refine asg h8 rfl rfl fun a9 h9 => ?_
  clear hK3 h6 h7 h8 K3 a6 a7 a8
  refine wpL_nil (hK4 _ _ ?_)
  refine rtn (leave h9 (res3 h9 rfl (rvt rfl) (rvt rfl) (rvt rfl)) ?_)
  exact ⟨_, rfl, by rw [Pl.split_no hb1]; rfl, hB⟩
 ·
  have hl := Pl.pathMay_len (bunf hb1)
  refine cdf h6 rfl (bnt (bunf hb1)) ?_
  refine skp (hK2 _ _ ?_)
  refine sq fun K5 hK5 => ?_
  refine sq fun K6 hK6 => ?_
  refine reg [some 10, some 11, some 12] rfl ?_
  refine mv h6 rfl rfl fun a10 h10 => ?_
  refine lens h10 rfl Try.underlying9 rfl rfl fun a11 h11 => ?_
  refine leq h11 rfl rfl rfl fun a12 h12 => ?_
  clear hK3 hK2 h6 h10 h11 K3 K2 a6 a10 a11
  refine wpL_nil (hK6 _ _ ?_)
  refine spl h12 (d := 12) rfl (fun hb2 => ?_) (fun hb2 => ?_)
  ·
   have hp2 := of_decide_eq_true hb2
   refine cdt h12 rfl hb2 ?_
   refine sq fun K7 hK7 => ?_
   refine reg [some 13, some 2, some 3, some 4] rfl ?_
   refine mv h12 rfl rfl fun a13 h13 => ?_
   refine asg h13 rfl rfl fun a14 h14 => ?_
   refine asg h14 rfl rfl fun a15 h15 => ?_
   refine asg h15 rfl rfl fun a16 h16 => ?_
   clear hK6 h12 h13 h14 h15 K6 a12 a13 a14 a15
   refine wpL_nil (hK7 _ _ ?_)
   refine rtn (leave h16 (res3 h16 rfl (rvt rfl) (rvt rfl) (rvt rfl)) ?_)
   exact ⟨_, rfl, by rw [Pl.split_short (by assumption) hp2]; rfl, hB⟩
  ·
   have hp2 := of_decide_eq_false hb2
   have hlt := Pl.indexByte_lt' (p.drop (p.length - 101)) 47
   rw [List.length_drop] at hlt
   have hge := Lib.indexByte_ge (p.drop (p.length - 101)) 47
   have hr := Pl.indexByte_range (p.drop (p.length - 101)) 47 (by simp; omega)
   refine cdf h12 rfl hb2 ?_
   refine skp (hK5 _ _ ?_)
   refine sq fun K8 hK8 => ?_
   refine reg [some 14, some 15, some 16, some 17, some 5] rfl ?_
   refine mv h12 rfl rfl fun a17 h17 => ?_
   refine lens h17 rfl Try.underlying9 rfl rfl fun a18 h18 => ?_
   refine sub h18 rfl rfl rfl (by omega) fun a19 h19 => ?_
   refine sub h19 rfl rfl rfl (by omega) fun a20 h20 => ?_
   refine asg h20 rfl rfl fun a21 h21 => ?_
   clear hK6 hK5 h12 h17 h18 h19 h20 K6 K5 a12 a17 a18 a19 a20
   refine wpL_nil (hK8 _ _ ?_)
   refine sq fun K9 hK9 => ?_
   refine reg [some 18, some 19, some 20, some 21, some 6] rfl ?_
   refine mv h21 rfl rfl fun a22 h22 => ?_
   refine mv h22 rfl rfl fun a23 h23 => ?_
   refine slcd (p.length - 101) h23 Try.underlying9 rfl ⟨_, rfl, by first | omega | (simp; omega)⟩ (by omega) rfl fun a24 h24 => ?_
   refine cal h24 Try.call87 rfl (c_indexByte _ 47 _) rfl ?_
   rintro v2 w2 a25 ⟨rfl, rfl⟩ h25
   refine asg h25 rfl rfl fun a26 h26 => ?_
   clear hK8 h21 h22 h23 h24 h25 K8 a21 a22 a23 a24 a25
   refine wpL_nil (hK9 _ _ ?_)
   refine sq fun K10 hK10 => ?_
   refine sq fun K11 hK11 => ?_
   refine reg [some 22, some 23, some 24, some 25, some 26, some 27, some 28, some 29] rfl ?_
   refine mv h26 rfl rfl fun a27 h27 => ?_
   refine lss h27 rfl rfl rfl fun a28 h28 => ?_
   refine mv h28 rfl rfl fun a29 h29 => ?_
   refine spl h29 (d := 24) rfl (fun hb3 => ?_) (fun hb3 => ?_)
   ·
    have hp3 := of_decide_eq_true hb3
    refine goff h29 (d := 24) rfl rfl hb3 rfl fun a30 h30 => ?_
    refine goff h30 (d := 24) rfl rfl hb3 rfl fun a31 h31 => ?_
    refine goff h31 (d := 24) rfl rfl hb3 rfl fun a32 h32 => ?_
    refine goff h32 (d := 24) rfl rfl hb3 rfl fun a33 h33 => ?_
    refine pkt h33 rfl hb3 rfl rfl fun a34 h34 => ?_
    clear hK9 h26 h27 h28 h29 h30 h31 h32 h33 K9 a26 a27 a28 a29 a30 a31 a32 a33
    refine wpL_nil (hK11 _ _ ?_)
    refine cdt h34 rfl rfl ?_
    refine sq fun K12 hK12 => ?_
    refine reg [some 2, some 3, some 4] rfl ?_
    refine asg h34 rfl rfl fun a35 h35 => ?_
    refine asg h35 rfl rfl fun a36 h36 => ?_
    refine asg h36 rfl rfl fun a37 h37 => ?_
    clear hK11 h34 h35 h36 K11 a34 a35 a36
    refine wpL_nil (hK12 _ _ ?_)
    refine rtn (leave h37 (res3 h37 rfl (rvt rfl) (rvt rfl) (rvt rfl)) ?_)
    exact ⟨_, rfl, by rw [Pl.split_none hb1 hp2 (.inl hp3)]; rfl, hB⟩
   ·
    have hp3 := of_decide_eq_false hb3
    refine gon h29 (d := 24) rfl rfl hb3 ?_
    refine mv h29 rfl rfl fun a38 h38 => ?_
    refine gon h38 (d := 24) rfl rfl hb3 ?_
    refine mv h38 rfl rfl fun a39 h39 => ?_
    refine gon h39 (d := 24) rfl rfl hb3 ?_
    refine add h39 rfl rfl rfl (by omega) fun a40 h40 => ?_
    refine gon h40 (d := 24) rfl rfl hb3 ?_
    refine gtr h40 rfl rfl rfl fun a41 h41 => ?_
    refine pkf h41 rfl hb3 rfl rfl fun a42 h42 => ?_
    clear hK9 h26 h27 h28 h29 h38 h39 h40 h41 K9 a26 a27 a28 a29 a38 a39 a40 a41
    refine wpL_nil (hK11 _ _ ?_)
    refine spl h42 (d := 29) rfl (fun hb4 => ?_) (fun hb4 => ?_)
    ·
     have hp4 := of_decide_eq_true hb4
     refine cdt h42 rfl hb4 ?_
     refine sq fun K13 hK13 => ?_
     refine reg [some 2, some 3, some 4] rfl ?_
     refine asg h42 rfl rfl fun a43 h43 => ?_
     refine asg h43 rfl rfl fun a44 h44 => ?_
     refine asg h44 rfl rfl fun a45 h45 => ?_
     clear hK11 h42 h43 h44 K11 a42 a43 a44
     refine wpL_nil (hK13 _ _ ?_)
     refine rtn (leave h45 (res3 h45 rfl (rvt rfl) (rvt rfl) (rvt rfl)) ?_)
     exact ⟨_, rfl, by rw [Pl.split_none hb1 hp2 (.inr hp4)]; rfl, hB⟩
    ·
     have hp4 := of_decide_eq_false hb4
     refine cdf h42 rfl hb4 ?_
     refine skp (hK10 _ _ ?_)
     refine sq fun K14 hK14 => ?_
     clear hK11 hK10 K11 K10
     refine drw h42 [some 30, some 31, some 32, some 33, some 34, some 35, some 36, some 37, some 38, some 39, some 40, some 2, some 3, some 4] rfl [Fx (str p), Fx (.int .i64 ((p.length : Int) - 100 - 1)), Fx (.int .i64 (Lib.indexByte (p.drop (p.length - 101)) 47)), Fx (.int .i64 (((p.length : Int) - 100 - 1) + (Lib.indexByte (p.drop (p.length - 101)) 47))), Fx (str (p.take (p.length - 101 + (Lib.indexByte (p.drop (p.length - 101)) 47).toNat))), Fx (str p), Fx (.int .i64 ((p.length : Int) - 100 - 1)), Fx (.int .i64 (Lib.indexByte (p.drop (p.length - 101)) 47)), Fx (.int .i64 (((p.length : Int) - 100 - 1) + (Lib.indexByte (p.drop (p.length - 101)) 47))), Fx (.int .i64 ((((p.length : Int) - 100 - 1) + (Lib.indexByte (p.drop (p.length - 101)) 47)) + 1)), Fx (str (p.drop (p.length - 101 + (Lib.indexByte (p.drop (p.length - 101)) 47).toNat + 1))), Fx (str (p.take (p.length - 101 + (Lib.indexByte (p.drop (p.length - 101)) 47).toNat))), Fx (str (p.drop (p.length - 101 + (Lib.indexByte (p.drop (p.length - 101)) 47).toNat + 1))), Fx ((.bool true))] Kept rfl rfl rfl rfl (drewKept _) keptT (mcons mfx (mcons mfx (mcons mfx (mcons mfx (mcons mfx (mcons mfx (mcons mfx (mcons mfx (mcons mfx (mcons mfx (mcons mfx (mcons mfx (mcons mfx (mcons mfx mnil)))))))))))))) ⟨?_, ?_, ?_, ?_, ?_, ?_, ?_, ?_, ?_, ?_, ?_, ?_, ?_, ?_, trivial⟩ ?_
     ·
      intro L a w_ hH hb hR hd ho
      have hl0 := hb 0 _ rfl
      refine mv hH hl0 rfl fun a46 h46 => ?_
      exact wpL_nil ⟨_, h46, Kept.refl _, rfl⟩
     ·
      intro L a w_ hH hb hR hd ho
      have hl5 := hb 5 _ rfl
      refine mv hH hl5 rfl fun a47 h47 => ?_
      exact wpL_nil ⟨_, h47, Kept.refl _, rfl⟩
     ·
      intro L a w_ hH hb hR hd ho
      have hl6 := hb 6 _ rfl
      refine mv hH hl6 rfl fun a48 h48 => ?_
      exact wpL_nil ⟨_, h48, Kept.refl _, rfl⟩
     ·
      intro L a w_ hH hb hR hd ho
      obtain ⟨_, hl31, rfl⟩ := hd 1 rfl
      obtain ⟨_, hl32, rfl⟩ := hd 2 rfl
      refine add hH hl31 hl32 rfl (by omega) fun a49 h49 => ?_
      exact wpL_nil ⟨_, h49, Kept.refl _, rfl⟩
     ·
      intro L a w_ hH hb hR hd ho
      obtain ⟨_, hl30, rfl⟩ := hd 0 rfl
      obtain ⟨_, hl33, rfl⟩ := hd 3 rfl
      refine slct (p.length - 101 + (Lib.indexByte (p.drop (p.length - 101)) 47).toNat) hH Try.underlying9 hl30 ⟨_, hl33, by first | omega | (simp; omega)⟩ (by omega) rfl fun a50 h50 => ?_
      exact wpL_nil ⟨_, h50, Kept.refl _, rfl⟩
     ·
      intro L a w_ hH hb hR hd ho
      have hl0 := hb 0 _ rfl
      refine mv hH hl0 rfl fun a51 h51 => ?_
      exact wpL_nil ⟨_, h51, Kept.refl _, rfl⟩
     ·
      intro L a w_ hH hb hR hd ho
      have hl5 := hb 5 _ rfl
      refine mv hH hl5 rfl fun a52 h52 => ?_
      exact wpL_nil ⟨_, h52, Kept.refl _, rfl⟩
     ·
      intro L a w_ hH hb hR hd ho
      have hl6 := hb 6 _ rfl
      refine mv hH hl6 rfl fun a53 h53 => ?_
      exact wpL_nil ⟨_, h53, Kept.refl _, rfl⟩
     ·
      intro L a w_ hH hb hR hd ho
      obtain ⟨_, hl36, rfl⟩ := hd 6 rfl
      obtain ⟨_, hl37, rfl⟩ := hd 7 rfl
      refine add hH hl36 hl37 rfl (by omega) fun a54 h54 => ?_
      exact wpL_nil ⟨_, h54, Kept.refl _, rfl⟩
     ·
      intro L a w_ hH hb hR hd ho
      obtain ⟨_, hl38, rfl⟩ := hd 8 rfl
      refine add hH hl38 rfl rfl (by omega) fun a55 h55 => ?_
      exact wpL_nil ⟨_, h55, Kept.refl _, rfl⟩
     ·
      intro L a w_ hH hb hR hd ho
      obtain ⟨_, hl35, rfl⟩ := hd 5 rfl
      obtain ⟨_, hl39, rfl⟩ := hd 9 rfl
      refine slcd (p.length - 101 + (Lib.indexByte (p.drop (p.length - 101)) 47).toNat + 1) hH Try.underlying9 hl35 ⟨_, hl39, by first | omega | (simp; omega)⟩ (by omega) rfl fun a56 h56 => ?_
      exact wpL_nil ⟨_, h56, Kept.refl _, rfl⟩
     ·
      intro L a w_ hH hb hR hd ho
      obtain ⟨_, hl34, rfl⟩ := hd 4 rfl
      refine asg hH hl34 rfl fun a57 h57 => ?_
      exact wpL_nil ⟨_, h57, Kept.refl _, rfl⟩
     ·
      intro L a w_ hH hb hR hd ho
      obtain ⟨_, hl40, rfl⟩ := hd 10 rfl
      refine asg hH hl40 rfl fun a58 h58 => ?_
      exact wpL_nil ⟨_, h58, Kept.refl _, rfl⟩
     ·
      intro L a w_ hH hb hR hd ho
      refine asg hH rfl rfl fun a59 h59 => ?_
      exact wpL_nil ⟨_, h59, Kept.refl _, rfl⟩
     intro L3 a60 w3 h60 hbh60 hRh60 hdh60
     obtain ⟨_, hl30, rfl⟩ := hdh60 0 (by decide)
     obtain ⟨_, hl31, rfl⟩ := hdh60 1 (by decide)
     obtain ⟨_, hl32, rfl⟩ := hdh60 2 (by decide)
     obtain ⟨_, hl33, rfl⟩ := hdh60 3 (by decide)
     obtain ⟨_, hl34, rfl⟩ := hdh60 4 (by decide)
     obtain ⟨_, hl35, rfl⟩ := hdh60 5 (by decide)
     obtain ⟨_, hl36, rfl⟩ := hdh60 6 (by decide)
     obtain ⟨_, hl37, rfl⟩ := hdh60 7 (by decide)
     obtain ⟨_, hl38, rfl⟩ := hdh60 8 (by decide)
     obtain ⟨_, hl39, rfl⟩ := hdh60 9 (by decide)
     obtain ⟨_, hl40, rfl⟩ := hdh60 10 (by decide)
     obtain ⟨_, hl2, rfl⟩ := hdh60 11 (by decide)
     obtain ⟨_, hl3, rfl⟩ := hdh60 12 (by decide)
     obtain ⟨_, hl4, rfl⟩ := hdh60 13 (by decide)
     have h61 := Has.under h60 hbh60
     have h62 := (h60.add hl4 (h60.add hl3 (h60.add hl2 (h60.add hl40 (h60.add hl39 (h60.add hl38 (h60.add hl37 (h60.add hl36 (h60.add hl35 (h60.add hl34 (h60.add hl33 (h60.add hl32 (h60.add hl31 (h60.add hl30 h61))))))))))))))
     clear h61 hl30 hl31 hl32 hl33 hl34 hl35 hl36 hl37 hl38 hl39 hl40 hl2 hl3 hl4 hbh60 hdh60
     replace hB := Kept.trans hB hRh60
     refine hK14 _ _ ?_
     refine rtn (leave h62 (res3 h62 rfl (rvt rfl) (rvt rfl) (rvt rfl)) ?_)
     exact ⟨_, rfl, by rw [Pl.split_some hb1 hp2 hp3 hp4]; simp [splitV], hB⟩

end Go.Proofs.Ytpgeogdmjgmimaa
