/-
  Walks, written by wip/gen/gen.py.
-/
import Derived.Test.YtpgeogdmjgmimaaW21
set_option linter.unusedVariables false
set_option linter.unusedSimpArgs false
set_option maxRecDepth 4000
namespace Go.Proofs.Ytpgeogdmjgmimaa
open Go Go.RowKit K

theorem ent_len {n : Pl.Nd} (hn : NdL n) : (Pl.entPut n).length ≤ 6003 := by
  have := entBlocks_len hn
  unfold Pl.entPut Pl.entBlocks
  split
  · simp only [List.length_append, List.length_cons, List.length_nil]; omega
  · simp
theorem ents_len : ∀ (l : List Pl.Nd), (∀ n ∈ l, NdL n) → (l.map Pl.entPut).flatten.length ≤ 6003 * l.length
  | [], _ => by simp
  | n :: l, h => by
    have h1 := ent_len (h n (List.mem_cons_self ..))
    have h2 := ents_len l (fun x hx => h x (List.mem_cons_of_mem _ hx))
    simp only [List.map_cons, List.flatten_cons, List.length_append, List.length_cons]; omega
theorem ents_next {l : List Pl.Nd} {k : Nat} {x : Pl.Nd} (hx : l[k]? = some x) : ((l.take (k + 1)).map Pl.entPut).flatten = ((l.take k).map Pl.entPut).flatten ++ Pl.entPut x := by
  rw [List.take_add_one, hx]; simp
theorem may_len {l : List Pl.Nd} (h : Pl.treeMay l = true) : l.length ≤ 20 := by
  unfold Pl.treeMay at h; rw [Bool.and_eq_true] at h; simpa using h.1
theorem take_ents {l : List Pl.Nd} (hl : l.length ≤ 20) (hn : ∀ n ∈ l, NdL n) (k : Nat) : ((l.take k).map Pl.entPut).flatten.length ≤ 120060 := by
  have := ents_len (l.take k) (fun x hx => hn x (List.mem_of_mem_take hx))
  have h2 : (l.take k).length ≤ 20 := by rw [List.length_take]; omega
  omega
theorem zerosB_two : Pl.zerosB 2 = [List.replicate 512 0, List.replicate 512 0] := rfl
theorem all_eq {l : List Pl.Nd} (h : Pl.treeMay l = true) : Pl.allB l = (l.map Pl.entPut).flatten ++ Pl.zerosB 2 := by unfold Pl.allB; rw [if_pos h]
theorem all_no {l : List Pl.Nd} (h : Pl.treeMay l = false) : Pl.allB l = [] := by unfold Pl.allB; rw [if_neg (by rw [h]; decide)]

set_option maxHeartbeats 1000000 in
/-- stream.All -/
theorem c_all {S : Nat → Prop} (v : Value) (l : List Pl.Nd) (w : World) (hv : Sts ndCells S w v l) (hn : ∀ n ∈ l, NdL n) :
  C Try.prog 27 [v] w fun v w' => (∃ q, v = .tuple #[q, .bool (Pl.treeMay l)] ∧ Rws (fun b => w.heap.size ≤ b) w' q (Pl.allB l)) ∧ Kept w w' := by
 have hbd := hv.bound
 replace hv := hv.lt
 obtain ⟨A0, c0, rfl⟩ := hv.isl
 refine enterM Try.func27 rfl 21 rfl rfl fun a0 h0 => ?_
 have hB := Kept.refl w
 refine sq fun K1 hK1 => ?_
 refine reg [some 2, some 3] rfl ?_
 refine asg h0 rfl rfl fun a1 h1 => ?_
 refine asg h1 rfl rfl fun a2 h2 => ?_
 clear h0 h1 a0 a1
 refine wpL_nil (hK1 _ _ ?_)
 refine sq fun K2 hK2 => ?_
 refine sq fun K3 hK3 => ?_
 refine reg [some 7, some 8, some 9] rfl ?_
 refine mv h2 rfl rfl fun a3 h3 => ?_
 refine cal h3 Try.call26 rfl (c_treeMay _ _ _ hv hn) rfl ?_
 rintro v1 w1 a4 ⟨rfl, hk1⟩ h4
 replace hB := Kept.trans hB hk1
 replace hv := hv.kept hk1
 refine unot h4 rfl rfl fun a5 h5 => ?_
 clear hK1 h2 h3 h4 K1 a2 a3 a4
 refine wpL_nil (hK3 _ _ ?_)
 refine spl h5 (d := 9) rfl (fun hb1 => ?_) (fun hb1 => ?_)
 ·
  have hno := bunt hb1
  refine cdt h5 rfl (bnf (bunt hb1)) ?_
  refine sq fun K4 hK4 => ?_
  refine reg [some 2, some 3] rfl ?_
  refine asg h5 rfl rfl fun a6 h6 => ?_
  refine asg h6 rfl rfl fun a7 h7 => ?_
  clear hK3 h5 h6 K3 a5 a6
  refine wpL_nil (hK4 _ _ ?_)
  refine rtn (leave0 h7 (res2 h7 rfl (rvt rfl) (rvt rfl)) ?_)
  exact ⟨_, rfl, ⟨_, by rw [hno], by rw [all_no hno]; exact Rws.nil _ _⟩, hB⟩
 ·
  have hmay := bunf hb1
  have hl20 := may_len hmay
  refine cdf h5 rfl (bnt (bunf hb1)) ?_
  refine skp (hK2 _ _ ?_)
  refine sq fun K5 hK5 => ?_
  refine reg [some 4] rfl ?_
  refine alc h5 Try.zeroValue25 rfl rfl fun a8 w2 g4 h8 hk2 hz4 hg4 => ?_
  have hleg4 := Nat.le_trans hB.size hz4
  replace hB := Kept.trans hB hk2
  replace hv := hv.kept hk2
  clear hK3 hK2 h5 K3 K2 a5
  refine wpL_nil (hK5 _ _ ?_)
  refine sq fun K6 hK6 => ?_
  refine sq fun K7 hK7 => ?_
  refine reg [some 10, some 11] rfl ?_
  refine mv h8 rfl rfl fun a9 h9 => ?_
  have hsz3 := hB.size
  have hlg43 := hg4.lt
  refine cal h9 Try.call75 rfl (c_entries _ _ _ _) rfl ?_
  rintro v3 w3 a10 ⟨gp, rfl, hgp0, hgp, hk3⟩ h10
  replace hB := Kept.trans hB hk3
  replace hv := hv.kept hk3
  replace hg4 := hg4.kept hk3
  clear hK5 h8 h9 K5 a8 a9
  refine wpL_nil (hK7 _ _ ?_)
  refine blc ?_
  clear hK7 K7
  have hle0 := hB.size
  have hgl := hgp.lt
  refine rgf2 h10 rfl Try.call128 rfl (i_entries A0 c0 l gp hn) hgp (hv) (fun A B h hck => h.ck hck (by intro hs; have := hs.2; omega)) (fun (k : Nat) (W : World) => ∃ (vo : Value), ∃ (vs : List Value), (K.Own (gp + 1) W vo 35 1 vs) ∧ (Vec (SV (gp + 1) vo) W vs ((l.take k).map Pl.entPut).flatten) ∧ (Blk W g4 25 [vo]) ∧ (Kept w W)) (fun (c : Code) (W : World) => False) ?_ ?_ ⟨_, _, Own.nil _ _ _ _, Vec.nil _ _, hg4, hB⟩ (fun _ _ _ _ h => h.len) (fun _ _ _ _ _ h hck => h.stays hck) ?_ ?_ ?_
  ·
   rintro k A B ⟨vo, vs, hO, hV, hg4, hB⟩ hck; exact ⟨vo, vs, hO.ck hck (by omega), hV.ck hck (by intro h; have := h.1; omega), hg4.ck hck (by omega), hB.ck hck (by omega) (by omega)⟩
  ·
   rintro c A B h hck; exact h.elim
  ·
   intro k x lv lr a11 w4 hx hE0 h11
   obtain ⟨xn, hxn, rfl⟩ := entList_get hmay hx
   obtain ⟨s0, -, qe, rfl, -⟩ := hE0
   refine reg [some 6] rfl ?_
   refine asg h11 rfl rfl fun a12 h12 => ?_
   clear h11 a11
   refine wpL_nil ?_
   refine And.intro rfl ?_
   rintro w5 w6 ⟨vo, vs, hO, hV, hg4, hB⟩ hck hE hBit hMit
   have hOlt := hO.blt
   replace hO := hO.ck hck (by omega)
   replace hV := hV.ck hck (by intro h; have := h.1; omega)
   replace hg4 := hg4.ck hck (by omega)
   replace hB := hB.ck hck (by omega) (by omega)
   have hN := KeepsOthers.refl w5
   obtain ⟨hgs, q', eq, hq⟩ := hE
   obtain rfl : qe = q' := by simpa using eq
   obtain ⟨Aq, cq, vq, rfl, hIq, hVq⟩ := hq.vec
   have hgl4 := hBit.lt
   replace hV := hV.lt
   replace hVq := hVq.lt
   refine blc ?_
   refine reg [some 14, some 15, some 16, none] rfl ?_
   refine ldb h12 hg4 rfl Try.isAgg25 rfl rfl fun a13 h13 => ?_
   refine mv h13 rfl rfl fun a14 h14 => ?_
   have hV1 := hV.mono (S' := SV (gp + 1) vo) (fun b hb => hb.1)
   have hVq1 := hVq.mono (S' := SV (gp + 1) vo) (fun b hb => ⟨by omega, fun e => by have := hOlt b e; omega⟩)
   have hvl := hV.1
   have hvq : vq.length = (Pl.entPut xn).length := hVq.1
   have hb1 := take_ents hl20 hn k
   have hb2 := ent_len (hn xn (List.mem_of_getElem? hxn))
   refine apn (sz := 1) h14 rfl rfl Try.underlying25 Try.type35 rfl rfl rfl (by decide) hO (by omega) (hIq) (by simp [hvq]) (hVq.oneCell) (by show (_ + _) * 24 ≤ _; omega) (by decide) rfl fun a15 v7 w7 h15 hO16' hk7 hat7 => ?_
   replace hN := hN.trans (ButV.nc hk7 hO)
   replace hg4 := hg4.butV hk7 (hO.ne_type hg4 (by decide))
   replace hB := ButV.kept0 hB hk7 hO (by omega)
   replace hBit := hBit.butV hk7 (hO.ne (by omega))
   replace hMit := hMit.butV hk7 (fun b hb _ => hO.ne (by have := hb.2; omega))
   have hV := Vec.app hV1 hVq1 hk7 hat7
   obtain ⟨Ar, nr, cr, rfl⟩ := hO16'.isl
   have hO16 := hO16'; clear hO16'
   refine stb h15 hg4 rfl rfl _ rfl Try.sizeOf25 (by simp [Value.oneCell']) _ (by simp) rfl fun w8 hg4' hk8 => ?_
   replace hN := hN.trans (But.nc hk8 hg4)
   replace hO16 := hO16.butNe hk8 (hO16.ne_type hg4 (by decide))
   clear hg4; have hg4 := hg4'; clear hg4'
   replace hB := Kept.but hB hk8 (by omega)
   replace hBit := hBit.but hk8 (by omega)
   replace hMit := hMit.but hk8 (by intro h; have := h.2; omega)
   replace hV := hV.but hk8 (by intro h; have := h.1; omega)
   clear h12 h13 h14 a12 a13 a14
   refine wpL_nil ?_
   exact And.intro hN (And.intro ⟨_, _, hO16, (by rw [ents_next hxn]; exact hV), hg4, hB⟩ (And.intro hBit hMit))
  ·
   rintro D a16 w9 hDle hD ⟨vo, vs, hO, hV, hg4, hB⟩ h16
   have hDs := (Array.getElem?_eq_some_iff.1 hD).1
   refine hK6 _ _ ?_
   refine sq fun K8 hK8 => ?_
   rw [entList_len hmay, List.take_length] at hV
   have hlen6 := ents_len l hn
   have hl20 := may_len hmay
   obtain ⟨Aq, nq, cq, rfl⟩ := hO.isl
   have hOut := (Rws.fresh hO hV).mono (S' := (fun b => gp + 1 ≤ b)) (fun b hb => by omega)
   clear hK6 K6
   refine drw h16 [some 17, some 18, some 19, some 20, some 2, some 3] rfl [Fx (.slice Aq nq cq), fun v w' => Rws (fun b => gp + 1 ≤ b) w' v (Pl.zerosB 2), fun v w' => Rrs (fun b => gp + 1 ≤ b) w' v [(l.map Pl.entPut).flatten, Pl.zerosB 2], fun v w' => Rws (fun b => gp + 1 ≤ b) w' v (Pl.allB l), fun v w' => Rws (fun b => gp + 1 ≤ b) w' v (Pl.allB l), Fx ((.bool true))] Kept rfl rfl rfl rfl (drewKept _) keptT (mcons mfx (mcons (fun v w w' hk h => h.kept hk) (mcons (fun v w w' hk h => h.kept hk) (mcons (fun v w w' hk h => h.kept hk) (mcons (fun v w w' hk h => h.kept hk) (mcons mfx mnil)))))) ⟨?_, ?_, ?_, ?_, ?_, ?_, trivial⟩ ?_
   ·
    intro L a w_ hH hb hR hd ho
    have hl4 := hb 4 _ rfl
    replace hg4 := hg4.kept hR
    refine ldb hH hg4 hl4 Try.isAgg25 rfl rfl fun a17 h17 => ?_
    exact wpL_nil ⟨_, h17, Kept.refl _, rfl⟩
   ·
    intro L a w_ hH hb hR hd ho
    refine cal hH Try.call70 (evs1 rfl) (c_zeros 2 _ ⟨by omega, by omega⟩) rfl ?_
    rintro v10 w10 a18 ⟨hA10, hk10⟩ h18
    exact wpL_nil ⟨_, h18, hk10, hA10.mono (fun b hb => by have := hR.size; omega)⟩
   ·
    intro L a w_ hH hb hR hd ho
    obtain ⟨_, hl17, rfl⟩ := hd 0 rfl
    obtain ⟨v18, hl18, hf18⟩ := hd 1 rfl
    replace hg4 := hg4.kept hR
    replace hOut := hOut.kept hR
    obtain ⟨A18, c18, rfl⟩ := hf18.isl
    have hOs := hOut.isl
    refine bsl hH (evpc hl17 (evpc hl18 evp0)) (bsl2_158_0_1 _ _ _ _ _ _) rfl fun a19 w11 g19 h19 hk11 hz19 hg19 => ?_
    have hneg4g19 := Nat.lt_of_lt_of_le hg4.lt hz19
    replace hOut := hOut.kept hk11
    exact wpL_nil ⟨_, h19, hk11, (Rrs.of_blk hg19 (Vec2.cons hOut (Vec2.cons (hf18.kept hk11) (Vec2.nil _ _))) 2 rfl (by omega)).mono (fun b hb => by have := hR.size; rcases hb with rfl | hb <;> omega)⟩
   ·
    intro L a w_ hH hb hR hd ho
    obtain ⟨v19, hl19, hf19⟩ := hd 2 rfl
    refine cal hH Try.call76 (evs1 hl19) (c_concatR _ _ _ hf19 (by simp only [zerosB_two, List.flatten_cons, List.flatten_nil, List.length_append, List.length_cons, List.length_nil]; omega)) rfl ?_
    rintro v12 w12 a20 ⟨hA12, hk12⟩ h20
    exact wpL_nil ⟨_, h20, hk12, (by have hX := hA12.mono (S' := (fun b => gp + 1 ≤ b)) (fun b hb => by have := hR.size; first | omega | (rcases hb with hb | hb <;> omega)); rw [all_eq hmay]; simpa using hX)⟩
   ·
    intro L a w_ hH hb hR hd ho
    obtain ⟨v20, hl20, hf20⟩ := hd 3 rfl
    refine asg hH hl20 rfl fun a21 h21 => ?_
    exact wpL_nil ⟨_, h21, Kept.refl _, hf20⟩
   ·
    intro L a w_ hH hb hR hd ho
    refine asg hH rfl rfl fun a22 h22 => ?_
    exact wpL_nil ⟨_, h22, Kept.refl _, rfl⟩
   intro L13 a23 w13 h23 hbh23 hRh23 hdh23
   obtain ⟨_, hl17, rfl⟩ := hdh23 0 (by decide)
   obtain ⟨v18, hl18, hf18⟩ := hdh23 1 (by decide)
   obtain ⟨v19, hl19, hf19⟩ := hdh23 2 (by decide)
   obtain ⟨v20, hl20, hf20⟩ := hdh23 3 (by decide)
   obtain ⟨v2, hl2, hf2⟩ := hdh23 4 (by decide)
   obtain ⟨_, hl3, rfl⟩ := hdh23 5 (by decide)
   have h24 := Has.under h23 hbh23
   have h25 := (h23.add hl3 (h23.add hl2 (h23.add hl20 (h23.add hl19 (h23.add hl18 (h23.add hl17 h24))))))
   clear h24 hl17 hl18 hl19 hl20 hl2 hl3 hbh23 hdh23
   replace hB := Kept.trans hB hRh23
   replace hD := (Kept.nc hRh23).same _ _ hD rfl
   refine hK8 _ _ ?_
   have hck := CK.putObj (g := gp) (n0 := w3.heap.size) (.deferred none) hD rfl hDle
   replace hB := hB.ck hck  (by omega) (by omega)
   replace hf2 := hf2.ck hck (by intro h; omega)
   refine rtn (leaveM h25 hD (res2 h25 rfl (rvt rfl) (rvt rfl)) ?_)
   exact ⟨_, rfl, ⟨_, by rw [hmay], hf2.mono (fun b hb => by omega)⟩, hB⟩
  ·
   rintro D a' c W hDle hD h _; exact h.elim

/-- stream.Many -/
theorem c_smany {S : Nat → Prop} (v : Value) (l : List Pl.Nd) (w : World) (hv : Sts ndCells S w v l) (hn : ∀ n ∈ l, NdL n) :
  C Try.prog 73 [v] w fun v w' => v = .int .i64 ((Pl.allB l).length : Int) ∧ Kept w w' := by
 refine enterE Try.func73 rfl 12 rfl rfl fun a0 h0 => ?_
 have hB := Kept.refl w
 refine sq fun K1 hK1 => ?_
 refine reg [some 2] rfl ?_
 refine asg h0 rfl rfl fun a1 h1 => ?_
 clear h0 a0
 refine wpL_nil (hK1 _ _ ?_)
 refine sq fun K2 hK2 => ?_
 refine reg [some 6, some 7, some 5, some 8, some 9, some 3, some 4] rfl ?_
 refine mv h1 rfl rfl fun a2 h2 => ?_
 have hsz1 := hB.size
 refine cal h2 Try.call27 rfl (c_all _ _ _ hv hn) rfl ?_
 rintro v1 w1 a3 ⟨⟨qp1, rfl, hp1'⟩, hk1⟩ h3
 replace hB := Kept.trans hB hk1
 replace hp1' := hp1'.lt
 refine mv h3 rfl rfl fun a4 h4 => ?_
 refine ext2_0 h4 rfl rfl fun a5 h5 => ?_
 refine ext2_1 h5 rfl rfl fun a6 h6 => ?_
 refine asg h6 rfl rfl fun a7 h7 => ?_
 refine asg h7 rfl rfl fun a8 h8 => ?_
 clear hK1 h1 h2 h3 h4 h5 h6 h7 K1 a1 a2 a3 a4 a5 a6 a7
 refine wpL_nil (hK2 _ _ ?_)
 refine sq fun K3 hK3 => ?_
 refine reg [some 10, some 11, some 2] rfl ?_
 refine mv h8 rfl rfl fun a9 h9 => ?_
 refine lnx h9 rfl Try.underlying25 rfl hp1'.isl rfl fun a10 h10 => ?_
 refine asg h10 rfl rfl fun a11 h11 => ?_
 clear hK2 h8 h9 h10 K2 a8 a9 a10
 refine wpL_nil (hK3 _ _ ?_)
 refine rtn (leave h11 (res1 h11 rfl (rvt rfl)) ?_)
 exact ⟨_, rfl, rfl, hB⟩

end Go.Proofs.Ytpgeogdmjgmimaa
