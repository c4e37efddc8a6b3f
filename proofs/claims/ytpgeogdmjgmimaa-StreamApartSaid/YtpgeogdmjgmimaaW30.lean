/-
  Walks, written by wip/gen/gen.py.
-/
import Derived.Test.YtpgeogdmjgmimaaW22
import Derived.Test.YtpgeogdmjgmimaaK18
set_option linter.unusedVariables false
set_option linter.unusedSimpArgs false
set_option maxRecDepth 4000
namespace Go.Proofs.Ytpgeogdmjgmimaa
open Go Go.RowKit K

/-- A literal's value. -/
theorem bsl1_28_0 (x0 : Int) (w : World) : (Instr.buildSlice 28 1 [(0, (.int .i64 x0))].toArray).run Try.prog w = .ok (.slice (some ⟨w.heap.size, 0, none⟩) 1 1) (w.alloc (.cells [.int .i64 x0].toArray 3)) := by kernel_rfl
def stF (l : List Pl.Nd) (k : Nat) : Int := (((l.take k).map Pl.entPut).flatten.length : Int)
def stK (l : List Pl.Nd) (k : Nat) : List Int := (List.range (k + 1)).map (stF l)
def startsB (l : List Pl.Nd) : List Int := if Pl.treeMay l = true then stK l l.length else []
theorem startsB_yes {l : List Pl.Nd} (h : Pl.treeMay l = true) : startsB l = stK l l.length := by unfold startsB; rw [if_pos h]
theorem startsB_no {l : List Pl.Nd} (h : Pl.treeMay l = false) : startsB l = [] := by unfold startsB; rw [if_neg (by rw [h]; decide)]
theorem stK_len (l : List Pl.Nd) (k : Nat) : (stK l k).length = k + 1 := by simp [stK]
theorem stK_get (l : List Pl.Nd) (k : Nat) : ((stK l k).map (Value.int .i64))[k]? = some (.int .i64 (stF l k)) := by simp [stK]
theorem stK_next {l : List Pl.Nd} {k : Nat} {x : Pl.Nd} (hx : l[k]? = some x) : stK l (k + 1) = stK l k ++ [stF l k + ((Pl.entPut x).length : Int)] := by
  have h1 : stF l (k + 1) = stF l k + ((Pl.entPut x).length : Int) := by
    unfold stF; rw [ents_next hx, List.length_append]; omega
  unfold stK; rw [List.range_succ (n := k + 1), List.map_append, List.map_cons, List.map_nil, h1]

set_option maxHeartbeats 1000000 in
/-- stream.Starts -/
theorem c_starts {S : Nat → Prop} (v : Value) (l : List Pl.Nd) (w : World) (hv : Sts ndCells S w v l) (hn : ∀ n ∈ l, NdL n) :
  C Try.prog 28 [v] w fun v w' => Ints (fun b => w.heap.size ≤ b) w' v (startsB l) ∧ Kept w w' := by
 have hbd := hv.bound
 replace hv := hv.lt
 obtain ⟨A0, c0, rfl⟩ := hv.isl
 refine enterM Try.func28 rfl 25 rfl rfl fun a0 h0 => ?_
 have hB := Kept.refl w
 refine sq fun K1 hK1 => ?_
 refine reg [some 2] rfl ?_
 refine asg h0 rfl rfl fun a1 h1 => ?_
 clear h0 a0
 refine wpL_nil (hK1 _ _ ?_)
 refine sq fun K2 hK2 => ?_
 refine sq fun K3 hK3 => ?_
 refine reg [some 6, some 7, some 8] rfl ?_
 refine mv h1 rfl rfl fun a2 h2 => ?_
 refine cal h2 Try.call26 rfl (c_treeMay _ _ _ hv hn) rfl ?_
 rintro v1 w1 a3 ⟨rfl, hk1⟩ h3
 replace hB := Kept.trans hB hk1
 replace hv := hv.kept hk1
 refine unot h3 rfl rfl fun a4 h4 => ?_
 clear hK1 h1 h2 h3 K1 a1 a2 a3
 refine wpL_nil (hK3 _ _ ?_)
 refine spl h4 (d := 8) rfl (fun hb1 => ?_) (fun hb1 => ?_)
 ·
  have hno := bunt hb1
  refine cdt h4 rfl (bnf (bunt hb1)) ?_
  refine sq fun K4 hK4 => ?_
  refine reg [some 2] rfl ?_
  refine asg h4 rfl rfl fun a5 h5 => ?_
  clear hK3 h4 K3 a4
  refine wpL_nil (hK4 _ _ ?_)
  refine rtn (leave0 h5 (res1 h5 rfl (rvt rfl)) ?_)
  exact ⟨_, rfl, by rw [startsB_no hno]; exact ⟨none, 0, rfl, by simp, by omega, In.nil _ _ _⟩, hB⟩
 ·
  have hmay := bunf hb1
  have hl20 := may_len hmay
  refine cdf h4 rfl (bnt (bunf hb1)) ?_
  refine skp (hK2 _ _ ?_)
  refine sq fun K5 hK5 => ?_
  refine reg [some 9, some 3, none] rfl ?_
  refine bsl h4 rfl (bsl1_28_0 _) rfl fun a6 w2 g9 h6 hk2 hz9 hg9 => ?_
  have hleg9 := Nat.le_trans hB.size hz9
  replace hB := Kept.trans hB hk2
  replace hv := hv.kept hk2
  refine alc h6 Try.zeroValue28 rfl rfl fun a7 w3 g3 h7 hk3 hz3 hg3 => ?_
  have hleg3 := Nat.le_trans hB.size hz3
  have hneg9g3 := Nat.lt_of_lt_of_le hg9.lt hz3
  replace hB := Kept.trans hB hk3
  replace hv := hv.kept hk3
  replace hg9 := hg9.kept hk3
  refine stb h7 hg3 rfl rfl _ rfl Try.sizeOf28 (by simp [Value.oneCell']) _ (by simp) rfl fun w4 hg3' hk4 => ?_
  replace hB := Kept.but hB hk4 (by omega)
  replace hv := hv.but hk4 (by first | (show ¬ (_ < _); omega) | (simp; omega))
  replace hg9 := hg9.but hk4 (by omega)
  clear hg3; have hg3 := hg3'; clear hg3'
  clear hK3 hK2 h4 h6 K3 K2 a4 a6
  refine wpL_nil (hK5 _ _ ?_)
  refine sq fun K6 hK6 => ?_
  refine sq fun K7 hK7 => ?_
  refine reg [some 10, some 11] rfl ?_
  refine mv h7 rfl rfl fun a8 h8 => ?_
  have hsz5 := hB.size
  have hlg95 := hg9.lt
  have hlg35 := hg3.lt
  refine cal h8 Try.call75 rfl (c_entries _ _ _ _) rfl ?_
  rintro v5 w5 a9 ⟨gp, rfl, hgp0, hgp, hk5⟩ h9
  replace hB := Kept.trans hB hk5
  replace hv := hv.kept hk5
  replace hg9 := hg9.kept hk5
  replace hg3 := hg3.kept hk5
  clear hK5 h7 h8 K5 a7 a8
  refine wpL_nil (hK7 _ _ ?_)
  refine blc ?_
  clear hK7 K7
  have hle0 := hB.size
  have hgl := hgp.lt
  refine rgf2 h9 rfl Try.call128 rfl (i_entries A0 c0 l gp hn) hgp (hv) (fun A B h hck => h.ck hck (by intro hs; have := hs.2; omega)) (fun (k : Nat) (W : World) => ∃ (vo : Value), (K.Own w.heap.size W vo 3 1 ((stK l k).map (Value.int .i64))) ∧ (∀ b, some b = vo.ownBlock → b ≠ gp) ∧ (Blk W g3 28 [vo]) ∧ (Kept w W)) (fun (c : Code) (W : World) => False) ?_ ?_ ⟨_, (Own.of_blk hg9 (by omega) rfl (by omega)), (fun b e => by have e2 : b = g9 := (by simpa [Value.ownBlock] using e); omega), hg3, hB⟩ (fun _ _ _ _ h => h.len) (fun _ _ _ _ _ h hck => h.stays hck) ?_ ?_ ?_
  ·
   rintro k A B ⟨vo, hO, hOn, hg3, hB⟩ hck; exact ⟨vo, hO.ckNe hck hOn, hOn, hg3.ck hck (by omega), hB.ck hck (by omega) (by omega)⟩
  ·
   rintro c A B h hck; exact h.elim
  ·
   intro k x lv lr a10 w6 hx hE0 h10
   obtain ⟨xn, hxn, rfl⟩ := entList_get hmay hx
   obtain ⟨s0, -, qe, rfl, -⟩ := hE0
   refine sq fun K8 hK8 => ?_
   refine reg [some 4] rfl ?_
   refine asg h10 rfl rfl fun a11 h11 => ?_
   clear h10 a10
   refine wpL_nil (hK8 _ _ ?_)
   refine reg [some 5] rfl ?_
   refine asg h11 rfl rfl fun a12 h12 => ?_
   clear hK8 h11 K8 a11
   refine wpL_nil ?_
   refine And.intro rfl ?_
   rintro w7 w8 ⟨vo, hO, hOn, hg3, hB⟩ hck hE hBit hMit
   replace hO := hO.ckNe hck hOn
   replace hg3 := hg3.ck hck (by omega)
   replace hB := hB.ck hck (by omega) (by omega)
   have hN := KeepsOthers.refl w7
   obtain ⟨hgs, q', eq, hq⟩ := hE
   obtain rfl : qe = q' := by simpa using eq
   obtain ⟨Aq, cq, rfl⟩ := hq.isl
   refine blc ?_
   have hIn := Own.intsA hO hOn
   have hOlt := hO.blt
   obtain ⟨Ao, co, rfl, hoc, hoc2, hIv⟩ := hIn
   have hu := stK_get l k
   have hsl := stK_len l k
   obtain ⟨adv, rfl⟩ := hIv.some_ (by rw [List.length_map, hsl]; omega)
   have hb1 := take_ents hl20 hn k
   have hb2 := ent_len (hn xn (List.mem_of_getElem? hxn))
   have hst : 0 ≤ stF l k ∧ stF l k ≤ 120060 := by unfold stF; omega
   have hkl := (List.getElem?_eq_some_iff.1 hxn).1
   have hgl4 := hBit.lt
   have hgl3 := hg3.lt
   refine drwM h12 [some 14, some 15, some 16, some 17, some 18, some 19, some 20, some 21, some 22, some 23, none] rfl [Fx (.slice (some adv) (stK l k).length co), Fx (.slice (some adv) (stK l k).length co), Fx (.int .i64 (k : Int)), Fx (.pointer (some (adv.add ((k : Int).toNat * 1)))), Fx (.int .i64 (stF l k)), Fx (.slice Aq (Pl.entPut xn).length cq), Fx (.int .i64 ((Pl.entPut xn).length : Int)), Fx (.int .i64 (stF l k + ((Pl.entPut xn).length : Int))), fun v w' => ∃ g22, v = .slice (some ⟨g22, 0, none⟩) 1 1 ∧ Blk w' g22 3 [.int .i64 (stF l k + ((Pl.entPut xn).length : Int))] ∧ w7.heap.size ≤ g22, fun v w' => K.Own w.heap.size w' v 3 1 ((stK l (k + 1)).map (Value.int .i64)) ∧ (∀ b, some b = v.ownBlock → b ≠ gp) ∧ some g3 ≠ v.ownBlock, fun _ w' => ∃ v, Blk w' g3 28 [v] ∧ K.Own w.heap.size w' v 3 1 ((stK l (k + 1)).map (Value.int .i64)) ∧ ∀ b, some b = v.ownBlock → b ≠ gp] Kept (ButV (.slice (some adv) (stK l k).length co)) (Two (.slice (some adv) (stK l k).length co) g3) (ButV (.slice (some adv) (stK l k).length co)) (But g3) 9 10 [true, true, true, true, true, true, true, true, true, true, false] [true, true, true, true, true, true, true, true, true, true, true] rfl rfl rfl rfl rfl rfl rfl rfl rfl rfl (drewKept _) keptT (fun _ _ _ h k => Kept.thenV h k) (fun _ _ _ h k => ButV.thenK h k) (fun _ _ _ h k => Two.of h k) (fun _ _ _ h k => Two.thenK h k) (fun _ _ h => Kept.toButV h) (fun _ _ h => Two.of h (But.refl _ _)) ((mcons mfx (mcons mfx (mcons mfx (mcons mfx (mcons mfx (mcons mfx (mcons mfx (mcons mfx (mcons (fun v w w' hk h => ⟨h.choose, h.choose_spec.1, h.choose_spec.2.1.kept hk, h.choose_spec.2.2⟩) (mcons (fun v w w' hk h => ⟨h.1.kept hk, h.2⟩) (mcons (fun v w w' hk h => ⟨h.choose, h.choose_spec.1.kept hk, h.choose_spec.2.1.kept hk, h.choose_spec.2.2⟩) mnil)))))))))))) (MonoY.all (mconsY (fun _ _ => mfx) (mconsY (fun _ _ => mfx) (mconsY (fun _ _ => mfx) (mconsY (fun _ _ => mfx) (mconsY (fun _ _ => mfx) (mconsY (fun _ _ => mfx) (mconsY (fun _ _ => mfx) (mconsY (fun _ _ => mfx) (mconsY (fun _ _ => (fun v w w' hk h => ⟨h.choose, h.choose_spec.1, h.choose_spec.2.1.butV hk (fun e => by have h1 := hOlt _ e; have h2 := h.choose_spec.2.2; omega), h.choose_spec.2.2⟩)) (mconsY (fun h _ => absurd rfl h) (mconsY (fun _ h => absurd rfl h) mnilY)))))))))))) (MonoX.all (mconsX (fun _ => mfx) (mconsX (fun _ => mfx) (mconsX (fun _ => mfx) (mconsX (fun _ => mfx) (mconsX (fun _ => mfx) (mconsX (fun _ => mfx) (mconsX (fun _ => mfx) (mconsX (fun _ => mfx) (mconsX (fun _ => (fun v w w' hk h => ⟨h.choose, h.choose_spec.1, h.choose_spec.2.1.but hk (by have h2 := h.choose_spec.2.2; omega), h.choose_spec.2.2⟩)) (mconsX (fun _ => (fun v w w' hk h => ⟨h.1.butNe hk h.2.2, h.2⟩)) (mconsX (fun h => absurd rfl h) mnilX)))))))))))) ⟨?_, ?_, ?_, ?_, ?_, ?_, ?_, ?_, ?_, ?_, ?_, trivial⟩ ?_
   ·
    intro L a w_ hH hb hR hd ho
    have hl3 := hb 3 _ rfl
    replace hR : Kept w7 w_ := hR
    replace hg3 := hg3.kept hR
    refine ldb hH hg3 hl3 Try.isAgg28 rfl rfl fun a13 h13 => ?_
    exact wpL_nil ⟨_, h13, Kept.refl _, rfl⟩
   ·
    intro L a w_ hH hb hR hd ho
    have hl3 := hb 3 _ rfl
    replace hR : Kept w7 w_ := hR
    replace hg3 := hg3.kept hR
    refine ldb hH hg3 hl3 Try.isAgg28 rfl rfl fun a14 h14 => ?_
    exact wpL_nil ⟨_, h14, Kept.refl _, rfl⟩
   ·
    intro L a w_ hH hb hR hd ho
    have hl4 := hb 4 _ rfl
    replace hR : Kept w7 w_ := hR
    refine mv hH hl4 rfl fun a15 h15 => ?_
    exact wpL_nil ⟨_, h15, Kept.refl _, rfl⟩
   ·
    intro L a w_ hH hb hR hd ho
    obtain ⟨_, hl15, rfl⟩ := hd 1 rfl
    obtain ⟨_, hl16, rfl⟩ := hd 2 rfl
    replace hR : Kept w7 w_ := hR
    refine ixa hH hl15 hl16 Try.underlying28 Try.sizeOf3 ⟨by omega, by omega⟩ rfl fun a16 h16 => ?_
    exact wpL_nil ⟨_, h16, Kept.refl _, rfl⟩
   ·
    intro L a w_ hH hb hR hd ho
    obtain ⟨_, hl17, rfl⟩ := hd 3 rfl
    replace hR : Kept w7 w_ := hR
    replace hIv := hIv.kept hR
    refine ld1 hH hl17 Try.isAgg3 (cellK hIv hu) rfl fun a17 h17 => ?_
    exact wpL_nil ⟨_, h17, Kept.refl _, rfl⟩
   ·
    intro L a w_ hH hb hR hd ho
    have hl5 := hb 5 _ rfl
    replace hR : Kept w7 w_ := hR
    refine mv hH hl5 rfl fun a18 h18 => ?_
    exact wpL_nil ⟨_, h18, Kept.refl _, rfl⟩
   ·
    intro L a w_ hH hb hR hd ho
    obtain ⟨_, hl19, rfl⟩ := hd 5 rfl
    replace hR : Kept w7 w_ := hR
    replace hq := hq.kept hR
    refine lnx hH rfl Try.underlying25 hl19 hq.isl rfl fun a19 h19 => ?_
    exact wpL_nil ⟨_, h19, Kept.refl _, rfl⟩
   ·
    intro L a w_ hH hb hR hd ho
    obtain ⟨_, hl18, rfl⟩ := hd 4 rfl
    obtain ⟨_, hl20, rfl⟩ := hd 6 rfl
    replace hR : Kept w7 w_ := hR
    refine add hH hl18 hl20 rfl (by omega) fun a20 h20 => ?_
    exact wpL_nil ⟨_, h20, Kept.refl _, rfl⟩
   ·
    intro L a w_ hH hb hR hd ho
    obtain ⟨_, hl21, rfl⟩ := hd 7 rfl
    replace hR : Kept w7 w_ := hR
    replace hg3 := hg3.kept hR
    refine bsl hH (evpc hl21 evp0) (bsl1_28_0 _) rfl fun a21 w9 g22 h21 hk9 hz22 hg22 => ?_
    have hneg3g22 := Nat.lt_of_lt_of_le hg3.lt hz22
    exact wpL_nil ⟨_, h21, hk9, ⟨g22, rfl, hg22, by have := hR.size; omega⟩⟩
   ·
    intro L a w_ hH hb hR hd ho
    obtain ⟨_, hl14, rfl⟩ := hd 0 rfl
    obtain ⟨v22, hl22, hf22⟩ := hd 8 rfl
    replace hR : Kept w7 w_ := hR
    replace hg3 := hg3.kept hR
    replace hO := hO.kept hR
    obtain ⟨g22, rfl, hb22, hs22⟩ := hf22
    have hRs := hR.size
    refine apn (sz := 1) hH hl14 hl22 Try.underlying28 Try.type3 rfl rfl rfl (by decide) hO (by omega) (Blk.in_ hb22 0 1 [.int .i64 (stF l k + ((Pl.entPut xn).length : Int))] rfl) (by simp) (by simp [Value.oneCell']) (by show (_ + _) * 8 ≤ _; rw [List.length_map, hsl]; simp; omega) (by decide) rfl fun a22 v10 w10 h22 hO' hk10 hat => ?_
    have hn1 := hO.ne_type hg3 (by decide)
    exact wpL_nil ⟨_, h22, hk10, ⟨by rw [stK_next hxn, List.map_append]; exact hO', fun b e => by rcases hat with h9 | h9 <;> rw [h9] at e; (· exact hOn b e); (· injection e; omega), fun e => by rcases hat with h9 | h9 <;> rw [h9] at e; (· exact hn1 e); (· injection e; omega)⟩⟩
   ·
    intro L a w_ hH hb hR hd ho
    have hl3 := hb 3 _ rfl
    obtain ⟨v23, hl23, hf23⟩ := hd 9 rfl
    replace hR : ButV (.slice (some adv) (stK l k).length co) w7 w_ := hR
    replace hg3 := hg3.butV hR (hO.ne_type hg3 (by decide))
    obtain ⟨A23, n23, c23, rfl⟩ := hf23.1.isl
    refine stb hH hg3 hl3 hl23 _ rfl Try.sizeOf28 (by simp [Value.oneCell']) _ (by simp) rfl fun w11 hg3' hk11 => ?_
    exact wpL_nil ⟨undef, hH, hk11, ⟨_, hg3', hf23.1.butNe hk11 hf23.2.2, hf23.2.1⟩⟩
   intro L12 a23 w12 h23 hbh23 hRh23 hdh23
   obtain ⟨_, hl14, rfl⟩ := hdh23 0 (by decide)
   obtain ⟨_, hl15, rfl⟩ := hdh23 1 (by decide)
   obtain ⟨_, hl16, rfl⟩ := hdh23 2 (by decide)
   obtain ⟨_, hl17, rfl⟩ := hdh23 3 (by decide)
   obtain ⟨_, hl18, rfl⟩ := hdh23 4 (by decide)
   obtain ⟨_, hl19, rfl⟩ := hdh23 5 (by decide)
   obtain ⟨_, hl20, rfl⟩ := hdh23 6 (by decide)
   obtain ⟨_, hl21, rfl⟩ := hdh23 7 (by decide)
   obtain ⟨v22, hl22, hf22⟩ := hdh23 8 (by decide)
   obtain ⟨v23, hl23, hf23⟩ := hdh23 9 (by decide)
   have hs10 := hdh23 10 (by decide)
   have h24 := Has.under h23 hbh23
   have h25 := (h23.add hl23 (h23.add hl22 (h23.add hl21 (h23.add hl20 (h23.add hl19 (h23.add hl18 (h23.add hl17 (h23.add hl16 (h23.add hl15 (h23.add hl14 h24))))))))))
   clear h24 hl14 hl15 hl16 hl17 hl18 hl19 hl20 hl21 hl22 hl23 hbh23 hdh23
   obtain ⟨wm, hRa, hRb⟩ := hRh23
   have hg3m := hg3.butV hRa (hO.ne_type hg3 (by decide))
   replace hN := (hN.trans (ButV.nc hRa hO)).trans (But.nc hRb hg3m)
   replace hB := Kept.but (ButV.kept0 hB hRa hO (Nat.le_refl _)) hRb (by omega)
   replace hMit := (hMit.butV hRa (fun b hb _ => hO.ne (by have := hb.2; omega))).but hRb (by intro h; have := h.2; omega)
   replace hBit := (hBit.butV hRa (hO.ne_type hBit (by decide))).but hRb (by omega)
   obtain ⟨vo', hg3', hO', hOn'⟩ := hs10
   clear hg3 hO hOn hg3m hIv
   have hg3 := hg3'; have hO := hO'; have hOn := hOn'; clear hg3' hO' hOn'
   exact And.intro hN (And.intro ⟨_, hO, hOn, hg3, hB⟩ (And.intro hBit hMit))
  ·
   rintro D a26 w13 hDle hD ⟨vo, hO, hOn, hg3, hB⟩ h26
   have hDs := (Array.getElem?_eq_some_iff.1 hD).1
   rw [entList_len hmay] at hO
   refine hK6 _ _ ?_
   refine sq fun K9 hK9 => ?_
   refine reg [some 24, some 2] rfl ?_
   refine ldb h26 hg3 rfl Try.isAgg28 rfl rfl fun a27 h27 => ?_
   refine asg h27 rfl rfl fun a28 h28 => ?_
   clear hK6 h26 h27 K6 a26 a27
   refine wpL_nil (hK9 _ _ ?_)
   have hck := CK.putObj (g := gp) (n0 := w5.heap.size) (.deferred none) hD rfl hDle
   replace hO := hO.ckNe hck hOn
   replace hB := hB.ck hck  (by omega) (by omega)
   refine rtn (leaveM h28 hD (res1 h28 rfl (rvt rfl)) ?_)
   exact ⟨_, rfl, by rw [startsB_yes hmay]; exact hO.ints, hB⟩
  ·
   rintro D a' c W hDle hD h _; exact h.elim

end Go.Proofs.Ytpgeogdmjgmimaa
namespace Go.Proofs.Ytpgeogdmjgmimaa
open Go Go.RowKit K

def idxGt (i : Int) : List Int → Int → Int
  | [], _ => -1
  | a :: l, k => if i < a then k else idxGt i l (k + 1)
theorem idxGt_at {i x : Int} {l : List Int} {k : Nat} (hx : l[k]? = some x) : idxGt i (l.drop k) k = if i < x then (k : Int) else idxGt i (l.drop (k + 1)) ((k : Int) + 1) := by
  have hk := (List.getElem?_eq_some_iff.1 hx).1
  have e : l.drop k = x :: l.drop (k + 1) := by
    rw [List.drop_eq_getElem_cons hk]; congr 1; exact (List.getElem?_eq_some_iff.1 hx).2
  rw [e]; rfl
theorem idxGt_end {i : Int} {l : List Int} {k : Nat} (hk : l.length ≤ k) : idxGt i (l.drop k) k = -1 := by rw [List.drop_eq_nil_of_le hk]; rfl
theorem idxGt_range (i : Int) : ∀ (l : List Int) (k : Int), idxGt i l k = -1 ∨ (k ≤ idxGt i l k ∧ idxGt i l k < k + l.length)
  | [], _ => .inl rfl
  | a :: l, k => by
    unfold idxGt
    split
    · right; simp only [List.length_cons]; omega
    · rcases idxGt_range i l (k + 1) with h | h
      · exact .inl h
      · right; simp only [List.length_cons]; omega
theorem stK_at {l : List Pl.Nd} {m j : Nat} (h : j ≤ m) : (stK l m)[j]? = some (stF l j) := by
  unfold stK; rw [List.getElem?_map, List.getElem?_range (by omega)]; rfl
theorem startsB_le (l : List Pl.Nd) : (startsB l).length ≤ l.length + 1 := by
  unfold startsB; split
  · rw [stK_len]; omega
  · simp
theorem allB_le {l : List Pl.Nd} (h : Pl.treeMay l = true) (hn : ∀ n ∈ l, NdL n) : (Pl.allB l).length ≤ 120062 := by
  have h1 := ents_len l hn
  have h2 := may_len h
  rw [all_eq h, List.length_append, zerosB_two, List.length_cons, List.length_cons, List.length_nil]; omega
theorem entData_le {x : Pl.Nd} (hx : NdL x) : 0 ≤ Pl.entData x ∧ Pl.entData x ≤ 2000 := by
  have h := (entBlocks_len hx).2
  cases h1 : Pl.one x with
  | true => rw [Pl.entData_eq h1]; omega
  | false => unfold Pl.entData; rw [if_neg (by rw [h1]; decide)]; omega
def whereB (l : List Pl.Nd) (i : Int) : Int × Int :=
  if i < 0 ∨ ((Pl.allB l).length : Int) ≤ i then (-1, -1)
  else if idxGt i (startsB l) 0 - 1 < 0 then ((l.length : Int), -1)
  else (idxGt i (startsB l) 0 - 1, max (-1) (i - (startsB l).getD (idxGt i (startsB l) 0).toNat 0 + Pl.entData (l.getD (idxGt i (startsB l) 0 - 1).toNat Pl.Nd.none)))
theorem where_may {l : List Pl.Nd} {i : Int} (h : idxGt i (startsB l) 0 = -1 ∨ (0 ≤ idxGt i (startsB l) 0 ∧ idxGt i (startsB l) 0 < 0 + ((startsB l).length : Int))) (hz : 0 ≤ idxGt i (startsB l) 0) : Pl.treeMay l = true := by
  cases hm : Pl.treeMay l with
  | true => rfl
  | false => rw [startsB_no hm] at h hz; simp only [List.length_nil] at h; omega

/-- stream.Where$1 -/
theorem c_where1 (a : Int) (g : Nat) (i : Int) (w : World) (hg : Blk w g 3 [.int .i64 i]) :
  C Try.prog 126 [.int .i64 a, .pointer (some ⟨g, 0, none⟩)] w fun v w' => v = .bool (decide (i < a)) ∧ Kept w w' := by
 refine enterE Try.func126 rfl 7 rfl rfl fun a0 h0 => ?_
 have hB := Kept.refl w
 refine sq fun K1 hK1 => ?_
 refine reg [some 3] rfl ?_
 refine asg h0 rfl rfl fun a1 h1 => ?_
 clear h0 a0
 refine wpL_nil (hK1 _ _ ?_)
 refine sq fun K2 hK2 => ?_
 refine reg [some 4, some 5, some 6, some 3] rfl ?_
 refine mv h1 rfl rfl fun a2 h2 => ?_
 refine ldb h2 hg rfl Try.isAgg3 rfl rfl fun a3 h3 => ?_
 refine gtr h3 rfl rfl rfl fun a4 h4 => ?_
 refine asg h4 rfl rfl fun a5 h5 => ?_
 clear hK1 h1 h2 h3 h4 K1 a1 a2 a3 a4
 refine wpL_nil (hK2 _ _ ?_)
 refine rtn (leave h5 (res1 h5 rfl (rvt rfl)) ?_)
 exact ⟨_, rfl, rfl, hB⟩

/-- slices.IndexFunc[[]int,int] -/
theorem c_indexGt {S : Nat → Prop} (v : Value) (l : List Int) (gi : Nat) (i : Int) (w : World) (hv : Ints S w v l) (hgi : Blk w gi 3 [.int .i64 i]) :
  C Try.prog 125 [v, .func (.func 126) #[] #[.pointer (some ⟨gi, 0, none⟩)]] w fun v w' => v = .int .i64 (idxGt i l 0) ∧ Kept w w' := by
 have hbd : l.length ≤ 9223372036854775807 := by obtain ⟨A, c, e, h1, h2, h3⟩ := hv; omega
 refine enterE Try.func125 rfl 19 rfl rfl fun a0 h0 => ?_
 have hB := Kept.refl w
 refine sq fun K1 hK1 => ?_
 refine reg [some 4] rfl ?_
 refine asg h0 rfl rfl fun a1 h1 => ?_
 clear h0 a0
 refine wpL_nil (hK1 _ _ ?_)
 refine sq fun K2 hK2 => ?_
 refine sq fun K3 hK3 => ?_
 refine reg [some 6, some 7, some 8] rfl ?_
 refine mv h1 rfl rfl fun a2 h2 => ?_
 refine lnx h2 rfl Try.underlying28 rfl hv.isl rfl fun a3 h3 => ?_
 refine mv h3 rfl rfl fun a4 h4 => ?_
 clear hK1 h1 h2 h3 K1 a1 a2 a3
 refine wpL_nil (hK3 _ _ ?_)
 refine blc ?_
 clear hK3 K3
 refine lp (fun (k : Nat) (a : Act) (W : World) => Has [] 19 [(0, v), (1, .func (.func 126) #[] #[.pointer (some ⟨gi, 0, none⟩)]), (7, .int .i64 (l.length : Int)), (8, .int .i64 (k : Int))] a ∧ (k ≤ l.length) ∧ (idxGt i l 0 = idxGt i (l.drop k) k) ∧ (Ints S W v l) ∧ (Blk W gi 3 [.int .i64 i]) ∧ (Kept w W)) (fun (k : Nat) => l.length - k) (0) ⟨(h4.cons' rfl (h4.cons' rfl (h4.cons' rfl (h4.cons' rfl (h4.nil'))))), Nat.zero_le _, rfl, hv, hgi, hB⟩ ?_
 clear h4 hgi hv hB
 rintro k a5 w1 ⟨h5, hk, hq, hv, hgi, hB⟩
 refine sq fun K4 hK4 => ?_
 refine reg [some 9] rfl ?_
 refine lss h5 rfl rfl rfl fun a6 h6 => ?_
 clear h5 a5
 refine wpL_nil (hK4 _ _ ?_)
 refine sq fun K5 hK5 => ?_
 refine spl h6 (d := 9) rfl (fun hb1 => ?_) (fun hb1 => ?_)
 ·
  have hp1 := of_decide_eq_true hb1
  obtain ⟨x, hx⟩ : ∃ x, l[k]? = some x := ⟨_, List.getElem?_eq_getElem (by have := of_decide_eq_true hb1; omega)⟩
  refine cdt h6 rfl hb1 ?_
  refine skp (hK5 _ _ ?_)
  refine sq fun K6 hK6 => ?_
  refine blc ?_
  refine sq fun K7 hK7 => ?_
  refine reg [some 10, some 5] rfl ?_
  refine mv h6 rfl rfl fun a7 h7 => ?_
  refine asg h7 rfl rfl fun a8 h8 => ?_
  clear hK4 hK5 h6 h7 K4 K5 a6 a7
  refine wpL_nil (hK7 _ _ ?_)
  refine sq fun K8 hK8 => ?_
  refine reg [some 11, some 12, some 13, some 14, some 15, some 16] rfl ?_
  refine mv h8 rfl rfl fun a9 h9 => ?_
  refine mv h9 rfl rfl fun a10 h10 => ?_
  refine mv h10 rfl rfl fun a11 h11 => ?_
  refine ixI (k := k) hv h11 rfl rfl Try.underlying28 Try.sizeOf3 Try.isAgg3 (by simp) (hx) rfl rfl fun a12 z14 h12 => ?_
  refine clv h12 rfl Try.call126 rfl _ rfl (c_where1 x gi i _ hgi) rfl ?_
  rintro v2 w2 a13 ⟨rfl, hk2⟩ h13
  replace hv := hv.kept hk2
  replace hgi := hgi.kept hk2
  replace hB := Kept.trans hB hk2
  clear hK7 h8 h9 h10 h11 h12 K7 a8 a9 a10 a11 a12
  refine wpL_nil (hK8 _ _ ?_)
  refine spl h13 (d := 16) rfl (fun hb2 => ?_) (fun hb2 => ?_)
  ·
   refine cdt h13 rfl hb2 ?_
   refine sq fun K9 hK9 => ?_
   refine reg [some 17, some 4] rfl ?_
   refine mv h13 rfl rfl fun a14 h14 => ?_
   refine asg h14 rfl rfl fun a15 h15 => ?_
   clear hK8 h13 h14 K8 a13 a14
   refine wpL_nil (hK9 _ _ ?_)
   refine rtn (leave h15 (res1 h15 rfl (rvt rfl)) ?_)
   exact ⟨_, rfl, by rw [hq, idxGt_at hx, if_pos (of_decide_eq_true hb2)], hB⟩
  ·
   refine cdf h13 rfl hb2 ?_
   refine skp (hK6 _ _ ?_)
   refine reg [some 18, some 8] rfl ?_
   refine add h13 rfl rfl rfl (by omega) fun a16 h16 => ?_
   refine mv h16 rfl rfl fun a17 h17 => ?_
   clear hK8 hK6 h13 h16 K8 K6 a13 a16
   refine wpL_nil ?_
   exact ⟨k + 1, ⟨(h17.cons' rfl (h17.cons' rfl (h17.cons' rfl (h17.cons' (lke rfl (by simp)) (h17.nil'))))), by omega, (by rw [hq, idxGt_at hx, if_neg (of_decide_eq_false hb2)]; rfl), hv, hgi, hB⟩, by omega⟩
 ·
  have hp1 := of_decide_eq_false hb1
  refine cdf h6 rfl hb1 ?_
  refine xit (hK2 _ _ ?_)
  refine sq fun K10 hK10 => ?_
  refine reg [some 4] rfl ?_
  refine asg h6 rfl rfl fun a18 h18 => ?_
  clear hK4 hK2 hK5 h6 K4 K2 K5 a6
  refine wpL_nil (hK10 _ _ ?_)
  refine rtn (leave h18 (res1 h18 rfl (rvt rfl)) ?_)
  exact ⟨_, rfl, by rw [hq, idxGt_end (by omega)], hB⟩

set_option maxHeartbeats 1000000 in
/-- stream.Where -/
theorem c_where {S : Nat → Prop} (v : Value) (l : List Pl.Nd) (i : Int) (w : World) (hv : Sts ndCells S w v l) (hn : ∀ n ∈ l, NdL n) (hof : -9223372036854775808 ≤ i ∧ i ≤ 9223372036854775807) :
  C Try.prog 71 [v, .int .i64 i] w fun v w' => v = .tuple #[.int .i64 (whereB l i).1, .int .i64 (whereB l i).2] ∧ Kept w w' := by
 have hbd := hv.bound
 replace hv := hv.lt
 obtain ⟨A0, c0, rfl⟩ := hv.isl
 refine enterE Try.func71 rfl 41 rfl rfl fun a0 h0 => ?_
 have hB := Kept.refl w
 refine sq fun K1 hK1 => ?_
 refine reg [some 3, some 4, some 5] rfl ?_
 refine bxv h0 rfl rfl rfl fun a1 w1 g3 h1 hk1 hz3 hg3 => ?_
 have hleg3 := Nat.le_trans hB.size hz3
 replace hB := Kept.trans hB hk1
 replace hv := hv.kept hk1
 refine asg h1 rfl rfl fun a2 h2 => ?_
 refine asg h2 rfl rfl fun a3 h3 => ?_
 clear h0 h1 h2 a0 a1 a2
 refine wpL_nil (hK1 _ _ ?_)
 refine sq fun K2 hK2 => ?_
 refine reg [some 8, some 9, some 6] rfl ?_
 refine mv h3 rfl rfl fun a4 h4 => ?_
 have hsz2 := hB.size
 have hlg32 := hg3.lt
 refine cal h4 Try.call28 rfl (c_starts _ _ _ hv hn) rfl ?_
 rintro v2 w2 a5 ⟨hS2, hk2⟩ h5
 replace hB := Kept.trans hB hk2
 replace hv := hv.kept hk2
 replace hg3 := hg3.kept hk2
 replace hS2 := hS2.lt
 refine asg h5 rfl rfl fun a6 h6 => ?_
 clear hK1 h3 h4 h5 K1 a3 a4 a5
 refine wpL_nil (hK2 _ _ ?_)
 refine sq fun K3 hK3 => ?_
 refine sq fun K4 hK4 => ?_
 clear hK2 K2
 rcases Bool.eq_false_or_eq_true (decide (i < 0)) with hi0 | hi0
 ·
  refine drw h6 [some 10, some 11, some 12, some 13, some 14, some 15, some 16, some 17] rfl [Fx (.int .i64 i), Fx (.bool (decide (i < 0))), Fx (.bool (decide (i < 0))), Fx (undef), Fx (undef), Fx (undef), Fx (undef), Fx ((.bool true))] Kept rfl rfl rfl rfl (drewKept _) keptT (mcons mfx (mcons mfx (mcons mfx (mcons mfx (mcons mfx (mcons mfx (mcons mfx (mcons mfx mnil)))))))) ⟨?_, ?_, ?_, ?_, ?_, ?_, ?_, ?_, trivial⟩ ?_
  ·
   intro L a w_ hH hb hR hd ho
   have hl3 := hb 3 _ rfl
   replace hg3 := hg3.kept hR
   refine ldb hH hg3 hl3 Try.isAgg3 rfl rfl fun a7 h7 => ?_
   exact wpL_nil ⟨_, h7, Kept.refl _, rfl⟩
  ·
   intro L a w_ hH hb hR hd ho
   obtain ⟨_, hl10, rfl⟩ := hd 0 rfl
   refine lss hH hl10 rfl rfl fun a8 h8 => ?_
   exact wpL_nil ⟨_, h8, Kept.refl _, rfl⟩
  ·
   intro L a w_ hH hb hR hd ho
   obtain ⟨_, hl11, rfl⟩ := hd 1 rfl
   refine mv hH hl11 rfl fun a9 h9 => ?_
   exact wpL_nil ⟨_, h9, Kept.refl _, rfl⟩
  ·
   intro L a w_ hH hb hR hd ho
   have hl3 := hb 3 _ rfl
   obtain ⟨_, hl12, rfl⟩ := hd 2 rfl
   refine goff hH rfl hl12 hi0 rfl fun a10 h10 => ?_
   exact wpL_nil ⟨_, h10, Kept.refl _, rfl⟩
  ·
   intro L a w_ hH hb hR hd ho
   have hl0 := hb 0 _ rfl
   obtain ⟨_, hl12, rfl⟩ := hd 2 rfl
   refine goff hH rfl hl12 hi0 rfl fun a11 h11 => ?_
   exact wpL_nil ⟨_, h11, Kept.refl _, rfl⟩
  ·
   intro L a w_ hH hb hR hd ho
   obtain ⟨_, hl14, rfl⟩ := hd 4 rfl
   obtain ⟨_, hl12, rfl⟩ := hd 2 rfl
   refine goff hH rfl hl12 hi0 rfl fun a12 h12 => ?_
   exact wpL_nil ⟨_, h12, Kept.refl _, rfl⟩
  ·
   intro L a w_ hH hb hR hd ho
   obtain ⟨_, hl13, rfl⟩ := hd 3 rfl
   obtain ⟨_, hl15, rfl⟩ := hd 5 rfl
   obtain ⟨_, hl12, rfl⟩ := hd 2 rfl
   refine goff hH rfl hl12 hi0 rfl fun a13 h13 => ?_
   exact wpL_nil ⟨_, h13, Kept.refl _, rfl⟩
  ·
   intro L a w_ hH hb hR hd ho
   obtain ⟨_, hl12, rfl⟩ := hd 2 rfl
   obtain ⟨_, hl16, rfl⟩ := hd 6 rfl
   refine pkt hH hl12 hi0 rfl rfl fun a14 h14 => ?_
   exact wpL_nil ⟨_, h14, Kept.refl _, rfl⟩
  intro L3 a15 w3 h15 hbh15 hRh15 hdh15
  obtain ⟨_, hl10, rfl⟩ := hdh15 0 (by decide)
  obtain ⟨_, hl11, rfl⟩ := hdh15 1 (by decide)
  obtain ⟨_, hl12, rfl⟩ := hdh15 2 (by decide)
  obtain ⟨_, hl13, rfl⟩ := hdh15 3 (by decide)
  obtain ⟨_, hl14, rfl⟩ := hdh15 4 (by decide)
  obtain ⟨_, hl15, rfl⟩ := hdh15 5 (by decide)
  obtain ⟨_, hl16, rfl⟩ := hdh15 6 (by decide)
  obtain ⟨_, hl17, rfl⟩ := hdh15 7 (by decide)
  have h16 := Has.under h15 hbh15
  have h17 := (h15.add hl17 (h15.add hl16 (h15.add hl15 (h15.add hl14 (h15.add hl13 (h15.add hl12 (h15.add hl11 (h15.add hl10 h16))))))))
  clear h16 hl10 hl11 hl12 hl13 hl14 hl15 hl16 hl17 hbh15 hdh15
  replace hB := Kept.trans hB hRh15
  refine hK4 _ _ ?_
  refine cdt h17 rfl rfl ?_
  refine sq fun K5 hK5 => ?_
  refine reg [some 4, some 5] rfl ?_
  refine asg h17 rfl rfl fun a18 h18 => ?_
  refine asg h18 rfl rfl fun a19 h19 => ?_
  clear hK4 h17 h18 K4 a18
  refine wpL_nil (hK5 _ _ ?_)
  refine rtn (leave h19 (res2 h19 rfl (rvt rfl) (rvt rfl)) ?_)
  exact ⟨_, rfl, by unfold whereB; rw [if_pos (.inl (of_decide_eq_true hi0))], hB⟩
 ·
  have hi1 := of_decide_eq_false hi0
  refine drw h6 [some 10, some 11, some 12, some 13, some 14, some 15, some 16, some 17] rfl [Fx (.int .i64 i), Fx (.bool (decide (i < 0))), Fx (.bool (decide (i < 0))), Fx (.int .i64 i), Fx (.slice A0 l.length c0), Fx (.int .i64 ((Pl.allB l).length : Int)), Fx (.bool (decide (((Pl.allB l).length : Int) ≤ i))), Fx (.bool (decide (((Pl.allB l).length : Int) ≤ i)))] Kept rfl rfl rfl rfl (drewKept _) keptT (mcons mfx (mcons mfx (mcons mfx (mcons mfx (mcons mfx (mcons mfx (mcons mfx (mcons mfx mnil)))))))) ⟨?_, ?_, ?_, ?_, ?_, ?_, ?_, ?_, trivial⟩ ?_
  ·
   intro L a w_ hH hb hR hd ho
   have hl3 := hb 3 _ rfl
   replace hg3 := hg3.kept hR
   refine ldb hH hg3 hl3 Try.isAgg3 rfl rfl fun a20 h20 => ?_
   exact wpL_nil ⟨_, h20, Kept.refl _, rfl⟩
  ·
   intro L a w_ hH hb hR hd ho
   obtain ⟨_, hl10, rfl⟩ := hd 0 rfl
   refine lss hH hl10 rfl rfl fun a21 h21 => ?_
   exact wpL_nil ⟨_, h21, Kept.refl _, rfl⟩
  ·
   intro L a w_ hH hb hR hd ho
   obtain ⟨_, hl11, rfl⟩ := hd 1 rfl
   refine mv hH hl11 rfl fun a22 h22 => ?_
   exact wpL_nil ⟨_, h22, Kept.refl _, rfl⟩
  ·
   intro L a w_ hH hb hR hd ho
   have hl3 := hb 3 _ rfl
   obtain ⟨_, hl12, rfl⟩ := hd 2 rfl
   replace hg3 := hg3.kept hR
   refine gon hH rfl hl12 hi0 ?_
   refine ldb hH hg3 hl3 Try.isAgg3 rfl rfl fun a23 h23 => ?_
   exact wpL_nil ⟨_, h23, Kept.refl _, rfl⟩
  ·
   intro L a w_ hH hb hR hd ho
   have hl0 := hb 0 _ rfl
   obtain ⟨_, hl12, rfl⟩ := hd 2 rfl
   refine gon hH rfl hl12 hi0 ?_
   refine mv hH hl0 rfl fun a24 h24 => ?_
   exact wpL_nil ⟨_, h24, Kept.refl _, rfl⟩
  ·
   intro L a w_ hH hb hR hd ho
   obtain ⟨_, hl14, rfl⟩ := hd 4 rfl
   obtain ⟨_, hl12, rfl⟩ := hd 2 rfl
   replace hv := hv.kept hR
   refine gon hH rfl hl12 hi0 ?_
   refine cal hH Try.call73 (evs1 hl14) (c_smany _ _ _ hv hn) rfl ?_
   rintro v4 w4 a25 ⟨rfl, hk4⟩ h25
   exact wpL_nil ⟨_, h25, hk4, rfl⟩
  ·
   intro L a w_ hH hb hR hd ho
   obtain ⟨_, hl13, rfl⟩ := hd 3 rfl
   obtain ⟨_, hl15, rfl⟩ := hd 5 rfl
   obtain ⟨_, hl12, rfl⟩ := hd 2 rfl
   refine gon hH rfl hl12 hi0 ?_
   refine geq hH hl13 hl15 rfl fun a26 h26 => ?_
   exact wpL_nil ⟨_, h26, Kept.refl _, rfl⟩
  ·
   intro L a w_ hH hb hR hd ho
   obtain ⟨_, hl12, rfl⟩ := hd 2 rfl
   obtain ⟨_, hl16, rfl⟩ := hd 6 rfl
   refine pkf hH hl12 hi0 hl16 rfl fun a27 h27 => ?_
   exact wpL_nil ⟨_, h27, Kept.refl _, rfl⟩
  intro L5 a28 w5 h28 hbh28 hRh28 hdh28
  obtain ⟨_, hl10, rfl⟩ := hdh28 0 (by decide)
  obtain ⟨_, hl11, rfl⟩ := hdh28 1 (by decide)
  obtain ⟨_, hl12, rfl⟩ := hdh28 2 (by decide)
  obtain ⟨_, hl13, rfl⟩ := hdh28 3 (by decide)
  obtain ⟨_, hl14, rfl⟩ := hdh28 4 (by decide)
  obtain ⟨_, hl15, rfl⟩ := hdh28 5 (by decide)
  obtain ⟨_, hl16, rfl⟩ := hdh28 6 (by decide)
  obtain ⟨_, hl17, rfl⟩ := hdh28 7 (by decide)
  have h29 := Has.under h28 hbh28
  have h30 := (h28.add hl17 (h28.add hl16 (h28.add hl15 (h28.add hl14 (h28.add hl13 (h28.add hl12 (h28.add hl11 (h28.add hl10 h29))))))))
  clear h29 hl10 hl11 hl12 hl13 hl14 hl15 hl16 hl17 hbh28 hdh28
  replace hB := Kept.trans hB hRh28
  replace hv := hv.kept hRh28
  replace hg3 := hg3.kept hRh28
  replace hS2 := hS2.kept hRh28
  refine hK4 _ _ ?_
  refine spl h30 (d := 17) rfl (fun hb9005 => ?_) (fun hb9005 => ?_)
  ·
   refine cdt h30 rfl hb9005 ?_
   refine sq fun K6 hK6 => ?_
   refine reg [some 4, some 5] rfl ?_
   refine asg h30 rfl rfl fun a31 h31 => ?_
   refine asg h31 rfl rfl fun a32 h32 => ?_
   clear hK4 h30 h31 K4 a31
   refine wpL_nil (hK6 _ _ ?_)
   refine rtn (leave h32 (res2 h32 rfl (rvt rfl) (rvt rfl)) ?_)
   exact ⟨_, rfl, by unfold whereB; rw [if_pos (.inr (of_decide_eq_true hb9005))], hB⟩
  ·
   refine cdf h30 rfl hb9005 ?_
   refine skp (hK3 _ _ ?_)
   refine sq fun K7 hK7 => ?_
   refine reg [some 18, some 19, some 20, some 21, some 7] rfl ?_
   refine mv h30 rfl rfl fun a33 h33 => ?_
   refine mkf h33 rfl rfl rfl fun a34 h34 => ?_
   refine cal h34 Try.call125 rfl (c_indexGt _ _ _ _ _ hS2 hg3) rfl ?_
   rintro v6 w6 a35 ⟨rfl, hk6⟩ h35
   replace hB := Kept.trans hB hk6
   replace hv := hv.kept hk6
   replace hg3 := hg3.kept hk6
   replace hS2 := hS2.kept hk6
   refine sub h35 rfl rfl rfl (by have h1 := idxGt_range i (startsB l) 0; have h2 := startsB_le l; omega) fun a36 h36 => ?_
   refine asg h36 rfl rfl fun a37 h37 => ?_
   clear hK4 hK3 h30 h33 h34 h35 h36 K4 K3 a33 a34 a35 a36
   refine wpL_nil (hK7 _ _ ?_)
   refine sq fun K8 hK8 => ?_
   refine sq fun K9 hK9 => ?_
   refine reg [some 22, some 23] rfl ?_
   refine mv h37 rfl rfl fun a38 h38 => ?_
   refine lss h38 rfl rfl rfl fun a39 h39 => ?_
   clear hK7 h37 h38 K7 a37 a38
   refine wpL_nil (hK9 _ _ ?_)
   refine spl h39 (d := 23) rfl (fun hb50 => ?_) (fun hb50 => ?_)
   ·
    have hp50 := of_decide_eq_true hb50
    have hz := of_decide_eq_true hb50
    refine cdt h39 rfl hb50 ?_
    refine sq fun K10 hK10 => ?_
    refine reg [some 24, some 25, some 4, some 5] rfl ?_
    refine mv h39 rfl rfl fun a40 h40 => ?_
    refine lnx h40 rfl Try.underlying22 rfl hv.isl rfl fun a41 h41 => ?_
    refine asg h41 rfl rfl fun a42 h42 => ?_
    refine asg h42 rfl rfl fun a43 h43 => ?_
    clear hK9 h39 h40 h41 h42 K9 a39 a40 a41 a42
    refine wpL_nil (hK10 _ _ ?_)
    refine rtn (leave h43 (res2 h43 rfl (rvt rfl) (rvt rfl)) ?_)
    exact ⟨_, rfl, by unfold whereB; rw [if_neg (by rintro (h | h); exact of_decide_eq_false hi0 h; exact of_decide_eq_false hb9005 h), if_pos hz], hB⟩
   ·
    have hp50 := of_decide_eq_false hb50
    have hz := of_decide_eq_false hb50
    refine cdf h39 rfl hb50 ?_
    refine skp (hK8 _ _ ?_)
    refine sq fun K11 hK11 => ?_
    clear hK9 hK8 K9 K8
    have hrg := idxGt_range i (startsB l) 0
    have hmay : Pl.treeMay l = true := where_may hrg (by omega)
    have hal := allB_le hmay hn
    have h95 := of_decide_eq_false hb9005
    have hlen : (startsB l).length = l.length + 1 := by rw [startsB_yes hmay, stK_len]
    obtain ⟨j, hj⟩ : ∃ j : Nat, idxGt i (startsB l) 0 = (j : Int) := ⟨_, (Int.toNat_of_nonneg (by omega)).symm⟩
    have hsj : (startsB l)[j]? = some (stF l j) := by rw [startsB_yes hmay]; exact stK_at (by omega)
    have hst : 0 ≤ stF l j ∧ stF l j ≤ 120060 := by have := take_ents (may_len hmay) hn j; unfold stF; omega
    obtain ⟨xn, hxn⟩ : ∃ x, l[j - 1]? = some x := ⟨_, List.getElem?_eq_getElem (by omega)⟩
    have hxL := hn xn (List.mem_of_getElem? hxn)
    have hde := entData_le hxL
    obtain ⟨hx1, hx2, hx3⟩ := hxL
    obtain ⟨As, cs, rfl, hcs1, hcs2, hIs⟩ := hS2
    obtain ⟨ads, rfl⟩ := hIs.some_ (by rw [List.length_map]; omega)
    have hu : ((startsB l).map (Value.int .i64))[j]? = some (.int .i64 (stF l j)) := by rw [List.getElem?_map, hsj]; rfl
    refine drw h39 [some 26, some 27, some 28, some 29, some 30, some 31, some 32, some 33, some 34, some 35, some 36, some 37, some 38, some 39, some 40, some 4, some 5] rfl [Fx (.int .i64 (idxGt i (startsB l) 0 - 1)), Fx (.int .i64 i), Fx (.slice (some ads) (startsB l).length cs), Fx (.int .i64 (idxGt i (startsB l) 0 - 1)), Fx (.int .i64 ((idxGt i (startsB l) 0 - 1) + 1)), Fx (.pointer (some (ads.add ((idxGt i (startsB l) 0 - 1 + 1).toNat * 1)))), Fx (.int .i64 (stF l j)), Fx (.int .i64 (i - (stF l j))), Fx (.slice A0 l.length c0), Fx (.int .i64 (idxGt i (startsB l) 0 - 1)), fun v w' => ∃ (S9 : Nat → Prop) (ad : Addr), v = .pointer (some ad) ∧ In S9 w' (some ad) (ndCells xn), Fx (ndV xn), Fx (.int .i64 (Pl.entData xn)), Fx (.int .i64 ((i - (stF l j)) + (Pl.entData xn))), Fx (.int .i64 (max (-1) (i - stF l j + Pl.entData xn))), Fx (.int .i64 (idxGt i (startsB l) 0 - 1)), Fx (.int .i64 (max (-1) (i - stF l j + Pl.entData xn)))] Kept rfl rfl rfl rfl (drewKept _) keptT (mcons mfx (mcons mfx (mcons mfx (mcons mfx (mcons mfx (mcons mfx (mcons mfx (mcons mfx (mcons mfx (mcons mfx (mcons (fun v w w' hk h => ⟨h.choose, h.choose_spec.choose, h.choose_spec.choose_spec.1, h.choose_spec.choose_spec.2.kept hk⟩) (mcons mfx (mcons mfx (mcons mfx (mcons mfx (mcons mfx (mcons mfx mnil))))))))))))))))) ⟨?_, ?_, ?_, ?_, ?_, ?_, ?_, ?_, ?_, ?_, ?_, ?_, ?_, ?_, ?_, ?_, ?_, trivial⟩ ?_
    ·
     intro L a w_ hH hb hR hd ho
     have hl7 := hb 7 _ rfl
     refine mv hH hl7 rfl fun a44 h44 => ?_
     exact wpL_nil ⟨_, h44, Kept.refl _, rfl⟩
    ·
     intro L a w_ hH hb hR hd ho
     have hl3 := hb 3 _ rfl
     replace hg3 := hg3.kept hR
     refine ldb hH hg3 hl3 Try.isAgg3 rfl rfl fun a45 h45 => ?_
     exact wpL_nil ⟨_, h45, Kept.refl _, rfl⟩
    ·
     intro L a w_ hH hb hR hd ho
     have hl6 := hb 6 _ rfl
     refine mv hH hl6 rfl fun a46 h46 => ?_
     exact wpL_nil ⟨_, h46, Kept.refl _, rfl⟩
    ·
     intro L a w_ hH hb hR hd ho
     have hl7 := hb 7 _ rfl
     refine mv hH hl7 rfl fun a47 h47 => ?_
     exact wpL_nil ⟨_, h47, Kept.refl _, rfl⟩
    ·
     intro L a w_ hH hb hR hd ho
     obtain ⟨_, hl29, rfl⟩ := hd 3 rfl
     refine add hH hl29 rfl rfl (by omega) fun a48 h48 => ?_
     exact wpL_nil ⟨_, h48, Kept.refl _, rfl⟩
    ·
     intro L a w_ hH hb hR hd ho
     obtain ⟨_, hl28, rfl⟩ := hd 2 rfl
     obtain ⟨_, hl30, rfl⟩ := hd 4 rfl
     refine ixa hH hl28 hl30 Try.underlying28 Try.sizeOf3 ⟨by omega, by omega⟩ rfl fun a49 h49 => ?_
     exact wpL_nil ⟨_, h49, Kept.refl _, rfl⟩
    ·
     intro L a w_ hH hb hR hd ho
     obtain ⟨_, hl31, rfl⟩ := hd 5 rfl
     replace hIs := hIs.kept hR
     refine ld1 hH hl31 Try.isAgg3 (by rw [show (idxGt i (startsB l) 0 - 1 + 1).toNat * 1 = j by omega]; exact hIs.cellAt hu) rfl fun a50 h50 => ?_
     exact wpL_nil ⟨_, h50, Kept.refl _, rfl⟩
    ·
     intro L a w_ hH hb hR hd ho
     obtain ⟨_, hl27, rfl⟩ := hd 1 rfl
     obtain ⟨_, hl32, rfl⟩ := hd 6 rfl
     refine sub hH hl27 hl32 rfl (by omega) fun a51 h51 => ?_
     exact wpL_nil ⟨_, h51, Kept.refl _, rfl⟩
    ·
     intro L a w_ hH hb hR hd ho
     have hl0 := hb 0 _ rfl
     refine mv hH hl0 rfl fun a52 h52 => ?_
     exact wpL_nil ⟨_, h52, Kept.refl _, rfl⟩
    ·
     intro L a w_ hH hb hR hd ho
     have hl7 := hb 7 _ rfl
     refine mv hH hl7 rfl fun a53 h53 => ?_
     exact wpL_nil ⟨_, h53, Kept.refl _, rfl⟩
    ·
     intro L a w_ hH hb hR hd ho
     obtain ⟨_, hl34, rfl⟩ := hd 8 rfl
     obtain ⟨_, hl35, rfl⟩ := hd 9 rfl
     replace hv := hv.kept hR
     refine ixS (k := j - 1) nd_len hv hH hl34 hl35 Try.underlying22 Try.sizeOf32 (by decide) (by omega) hxn rfl fun a54 ad36 h54 hI36 => ?_
     exact wpL_nil ⟨_, h54, Kept.refl _, ⟨_, ad36, rfl, hI36⟩⟩
    ·
     intro L a w_ hH hb hR hd ho
     obtain ⟨v36, hl36, hf36⟩ := hd 10 rfl
     obtain ⟨S9, ad9, rfl, hI9⟩ := hf36
     refine ldS hH hI9 hl36 Try.isAgg32 Try.sizeOf32 rfl fun a55 h55 => ?_
     exact wpL_nil ⟨_, h55, Kept.refl _, rfl⟩
    ·
     intro L a w_ hH hb hR hd ho
     obtain ⟨_, hl37, rfl⟩ := hd 11 rfl
     refine cal hH Try.call42 (evs1 hl37) (c_eData _ _ ⟨hx1, hx2, hx3⟩) rfl ?_
     rintro v7 w7 a56 ⟨rfl, hk7⟩ h56
     exact wpL_nil ⟨_, h56, hk7, rfl⟩
    ·
     intro L a w_ hH hb hR hd ho
     obtain ⟨_, hl33, rfl⟩ := hd 7 rfl
     obtain ⟨_, hl38, rfl⟩ := hd 12 rfl
     refine add hH hl33 hl38 rfl (by omega) fun a57 h57 => ?_
     exact wpL_nil ⟨_, h57, Kept.refl _, rfl⟩
    ·
     intro L a w_ hH hb hR hd ho
     obtain ⟨_, hl39, rfl⟩ := hd 13 rfl
     refine maxv hH rfl hl39 rfl fun a58 h58 => ?_
     exact wpL_nil ⟨_, h58, Kept.refl _, rfl⟩
    ·
     intro L a w_ hH hb hR hd ho
     obtain ⟨_, hl26, rfl⟩ := hd 0 rfl
     refine asg hH hl26 rfl fun a59 h59 => ?_
     exact wpL_nil ⟨_, h59, Kept.refl _, rfl⟩
    ·
     intro L a w_ hH hb hR hd ho
     obtain ⟨_, hl40, rfl⟩ := hd 14 rfl
     refine asg hH hl40 rfl fun a60 h60 => ?_
     exact wpL_nil ⟨_, h60, Kept.refl _, rfl⟩
    intro L8 a61 w8 h61 hbh61 hRh61 hdh61
    obtain ⟨_, hl26, rfl⟩ := hdh61 0 (by decide)
    obtain ⟨_, hl27, rfl⟩ := hdh61 1 (by decide)
    obtain ⟨_, hl28, rfl⟩ := hdh61 2 (by decide)
    obtain ⟨_, hl29, rfl⟩ := hdh61 3 (by decide)
    obtain ⟨_, hl30, rfl⟩ := hdh61 4 (by decide)
    obtain ⟨_, hl31, rfl⟩ := hdh61 5 (by decide)
    obtain ⟨_, hl32, rfl⟩ := hdh61 6 (by decide)
    obtain ⟨_, hl33, rfl⟩ := hdh61 7 (by decide)
    obtain ⟨_, hl34, rfl⟩ := hdh61 8 (by decide)
    obtain ⟨_, hl35, rfl⟩ := hdh61 9 (by decide)
    obtain ⟨v36, hl36, hf36⟩ := hdh61 10 (by decide)
    obtain ⟨_, hl37, rfl⟩ := hdh61 11 (by decide)
    obtain ⟨_, hl38, rfl⟩ := hdh61 12 (by decide)
    obtain ⟨_, hl39, rfl⟩ := hdh61 13 (by decide)
    obtain ⟨_, hl40, rfl⟩ := hdh61 14 (by decide)
    obtain ⟨_, hl4, rfl⟩ := hdh61 15 (by decide)
    obtain ⟨_, hl5, rfl⟩ := hdh61 16 (by decide)
    have h62 := Has.under h61 hbh61
    have h63 := (h61.add hl5 (h61.add hl4 (h61.add hl40 (h61.add hl39 (h61.add hl38 (h61.add hl37 (h61.add hl36 (h61.add hl35 (h61.add hl34 (h61.add hl33 (h61.add hl32 (h61.add hl31 (h61.add hl30 (h61.add hl29 (h61.add hl28 (h61.add hl27 (h61.add hl26 h62)))))))))))))))))
    clear h62 hl26 hl27 hl28 hl29 hl30 hl31 hl32 hl33 hl34 hl35 hl36 hl37 hl38 hl39 hl40 hl4 hl5 hbh61 hdh61
    replace hB := Kept.trans hB hRh61
    refine hK11 _ _ ?_
    refine rtn (leave h63 (res2 h63 rfl (rvt rfl) (rvt rfl)) ?_)
    exact ⟨_, rfl, by unfold whereB; rw [if_neg (by rintro (h | h); exact of_decide_eq_false hi0 h; exact of_decide_eq_false hb9005 h), if_neg hz, List.getD_eq_getElem?_getD, List.getD_eq_getElem?_getD, show (idxGt i (startsB l) 0).toNat = j by omega, show (idxGt i (startsB l) 0 - 1).toNat = j - 1 by omega, hsj, hxn]; rfl, hB⟩

end Go.Proofs.Ytpgeogdmjgmimaa
namespace Go.Proofs.Ytpgeogdmjgmimaa
open Go Go.RowKit K

/-- A literal's value. -/
theorem bld32_0_2_3 (x0 : ByteArray) (x2 : Int) (x3 : Int) (w : World) : (Instr.build 32 [(0, (.string x0)), (2, (.int .u8 x2)), (3, (.int .i64 x3))].toArray).run Try.prog w = .ok (.agg #[.string x0, str [], .int .u8 x2, .int .i64 x3, .int .i64 0, .int .i64 0, .int .i64 0, str []]) w := by kernel_rfl
/-- A literal's value. -/
theorem bld32_0_2_3_6_7 (x0 : ByteArray) (x2 : Int) (x3 : Int) (x6 : Int) (x7 : ByteArray) (w : World) : (Instr.build 32 [(0, (.string x0)), (2, (.int .u8 x2)), (3, (.int .i64 x3)), (6, (.int .i64 x6)), (7, (.string x7))].toArray).run Try.prog w = .ok (.agg #[.string x0, str [], .int .u8 x2, .int .i64 x3, .int .i64 0, .int .i64 0, .int .i64 x6, .string x7]) w := by kernel_rfl
/-- A literal's value. -/
theorem bsl2_22_0_1 (x1000 : ByteArray) (x1001 : ByteArray) (x1002 : Int) (x1003 : Int) (x1004 : Int) (x1005 : Int) (x1006 : Int) (x1007 : ByteArray) (x2000 : ByteArray) (x2001 : ByteArray) (x2002 : Int) (x2003 : Int) (x2004 : Int) (x2005 : Int) (x2006 : Int) (x2007 : ByteArray) (w : World) : (Instr.buildSlice 22 2 [(0, (.agg #[.string x1000, .string x1001, .int .u8 x1002, .int .i64 x1003, .int .i64 x1004, .int .i64 x1005, .int .i64 x1006, .string x1007])), (1, (.agg #[.string x2000, .string x2001, .int .u8 x2002, .int .i64 x2003, .int .i64 x2004, .int .i64 x2005, .int .i64 x2006, .string x2007]))].toArray).run Try.prog w = .ok (.slice (some ⟨w.heap.size, 0, none⟩) 2 2) (w.alloc (.cells [.string x1000, .string x1001, .int .u8 x1002, .int .i64 x1003, .int .i64 x1004, .int .i64 x1005, .int .i64 x1006, .string x1007, .string x2000, .string x2001, .int .u8 x2002, .int .i64 x2003, .int .i64 x2004, .int .i64 x2005, .int .i64 x2006, .string x2007].toArray 32)) := by kernel_rfl
def two1 : Pl.Nd := { Pl.Nd.none with path := [97], kind := 53, mode := 493 }
def two2 : Pl.Nd := { Pl.Nd.none with path := [97, 47, 98], kind := 48, mode := 420, mtime := 7, data := [104, 101, 108, 108, 111] }
abbrev twoL : List Pl.Nd := [two1, two2]
theorem two_where : whereB twoL 2 = (1, 0) := by decide +kernel
theorem two_many : (Pl.allB twoL).length = 5 := by decide +kernel
theorem nil_all : (Pl.allB []).length = 2 := by decide +kernel
theorem nil_starts : (startsB []).length = 1 := by decide +kernel
theorem two_L : ∀ n ∈ twoL, NdL n := by
  intro n hn
  simp at hn
  rcases hn with rfl | rfl <;> (refine ⟨?_, ?_, ?_⟩ <;> decide)
theorem Sts_nil {α : Type} (f : α → List Value) (S : Nat → Prop) (w : World) : Sts f S w (.slice none 0 0) [] := ⟨none, 0, rfl, by simp, by omega, In.nil _ _ _⟩

/-- reelkeeperlaw06.Two -/
theorem c_two  (w : World) :
  C Try.prog 72 [] w fun v w' => Sts ndCells (fun b => w.heap.size ≤ b) w' v [two1, two2] ∧ Kept w w' := by
 refine enterE Try.func72 rfl 4 rfl rfl fun a0 h0 => ?_
 have hB := Kept.refl w
 refine sq fun K1 hK1 => ?_
 refine reg [some 0] rfl ?_
 refine asg h0 rfl rfl fun a1 h1 => ?_
 clear h0 a0
 refine wpL_nil (hK1 _ _ ?_)
 refine sq fun K2 hK2 => ?_
 refine reg [some 1, some 2, some 3, some 0] rfl ?_
 refine bld h1 rfl (bld32_0_2_3 _ _ _) rfl fun a2 h2 => ?_
 refine bld h2 rfl (bld32_0_2_3_6_7 _ _ _ _ _) rfl fun a3 h3 => ?_
 refine bsl h3 rfl (bsl2_22_0_1 _ _ _ _ _ _ _ _ _ _ _ _ _ _ _ _) rfl fun a4 w1 g3 h4 hk1 hz3 hg3 => ?_
 have hleg3 := Nat.le_trans hB.size hz3
 replace hB := Kept.trans hB hk1
 refine asg h4 rfl rfl fun a5 h5 => ?_
 clear hK1 h1 h2 h3 h4 K1 a1 a2 a3 a4
 refine wpL_nil (hK2 _ _ ?_)
 refine rtn (leave h5 (res1 h5 rfl (rvt rfl)) ?_)
 exact ⟨_, rfl, ⟨some ⟨g3, 0, none⟩, 2, rfl, by decide, by decide, (Blk.in_ hg3 0 16 ([two1, two2].flatMap ndCells) rfl).mono (fun b hb => by omega)⟩, hB⟩

/-- reelkeeperlaw08.awake -/
theorem c_wake08  (w : World) :
  C Try.prog 24 [] w fun v w' => v = .bool true ∧ Kept w w' := by
 refine enterE Try.func24 rfl 38 rfl rfl fun a0 h0 => ?_
 have hB := Kept.refl w
 refine sq fun K1 hK1 => ?_
 refine reg [some 0] rfl ?_
 refine asg h0 rfl rfl fun a1 h1 => ?_
 clear h0 a0
 refine wpL_nil (hK1 _ _ ?_)
 refine sq fun K2 hK2 => ?_
 refine reg [some 6, some 5, some 7, some 8, some 1, some 2] rfl ?_
 have hsz1 := hB.size
 refine cal h1 Try.call27 rfl (c_all _ [] _ (Sts_nil ndCells (fun _ => False) _) (by simp)) rfl ?_
 rintro v1 w1 a2 ⟨⟨qp1, rfl, hp1'⟩, hk1⟩ h2
 replace hB := Kept.trans hB hk1
 replace hp1' := hp1'.lt
 have hlw1 := Nat.le_refl w1.heap.size
 refine mv h2 rfl rfl fun a3 h3 => ?_
 refine ext2_0 h3 rfl rfl fun a4 h4 => ?_
 refine ext2_1 h4 rfl rfl fun a5 h5 => ?_
 refine asg h5 rfl rfl fun a6 h6 => ?_
 refine asg h6 rfl rfl fun a7 h7 => ?_
 clear hK1 h1 h2 h3 h4 h5 h6 K1 a1 a2 a3 a4 a5 a6
 refine wpL_nil (hK2 _ _ ?_)
 refine sq fun K3 hK3 => ?_
 refine reg [some 10, some 11, some 9, some 12, some 13, some 3, some 4] rfl ?_
 have hsz2 := hB.size
 refine cal h7 Try.call72 rfl (c_two _) rfl ?_
 rintro v2 w2 a8 ⟨hT2, hk2⟩ h8
 replace hB := Kept.trans hB hk2
 replace hp1' := hp1'.kept hk2
 replace hlw1 := Nat.le_trans hlw1 hk2.size
 replace hT2 := hT2.lt
 have hlw2 := Nat.le_refl w2.heap.size
 refine cal h8 Try.call71 rfl (c_where _ twoL 2 _ hT2 two_L ⟨by omega, by omega⟩) rfl ?_
 rintro v3 w3 a9 ⟨rfl, hk3⟩ h9
 replace hB := Kept.trans hB hk3
 replace hp1' := hp1'.kept hk3
 replace hlw1 := Nat.le_trans hlw1 hk3.size
 replace hlw2 := Nat.le_trans hlw2 hk3.size
 refine mv h9 rfl rfl fun a10 h10 => ?_
 refine ext2_0 h10 rfl rfl fun a11 h11 => ?_
 refine ext2_1 h11 rfl rfl fun a12 h12 => ?_
 refine asg h12 rfl rfl fun a13 h13 => ?_
 refine asg h13 rfl rfl fun a14 h14 => ?_
 clear hK2 h7 h8 h9 h10 h11 h12 h13 K2 a7 a8 a9 a10 a11 a12 a13
 refine wpL_nil (hK3 _ _ ?_)
 refine sq fun K4 hK4 => ?_
 refine reg [some 14, some 15, some 16, some 17, some 18, some 19, some 20, some 21, some 22, some 23, some 24, some 25, some 26, some 27, some 28, some 29, some 30, some 31, some 32, some 33, some 34, some 35, some 36, some 37, some 0] rfl ?_
 refine mv h14 rfl rfl fun a15 h15 => ?_
 refine mv h15 rfl rfl fun a16 h16 => ?_
 refine knownT h16 (d := 15) rfl (rfl) fun hb1 => ?_
 refine gon h16 (d := 15) rfl rfl hb1 ?_
 refine mv h16 rfl rfl fun a17 h17 => ?_
 refine gon h17 (d := 15) rfl rfl hb1 ?_
 refine lnx h17 rfl Try.underlying25 rfl hp1'.isl rfl fun a18 h18 => ?_
 refine gon h18 (d := 15) rfl rfl hb1 ?_
 refine ieq h18 rfl rfl rfl fun a19 h19 => ?_
 refine pkt h19 rfl hb1 rfl rfl fun a20 h20 => ?_
 refine mv h20 rfl rfl fun a21 h21 => ?_
 refine knownT h21 (d := 20) rfl (by rw [nil_all]; rfl) fun hb2 => ?_
 have hp2 := of_decide_eq_true hb2
 refine gon h21 (d := 20) rfl rfl hb2 ?_
 have hsz4 := hB.size
 refine cal h21 Try.call72 rfl (c_two _) rfl ?_
 rintro v4 w4 a22 ⟨hT4, hk4⟩ h22
 replace hB := Kept.trans hB hk4
 replace hlw1 := Nat.le_trans hlw1 hk4.size
 replace hlw2 := Nat.le_trans hlw2 hk4.size
 replace hT4 := hT4.lt
 have hlw4 := Nat.le_refl w4.heap.size
 refine gon h22 (d := 20) rfl rfl hb2 ?_
 refine cal h22 Try.call73 rfl (c_smany _ twoL _ hT4 two_L) rfl ?_
 rintro v5 w5 a23 ⟨rfl, hk5⟩ h23
 replace hB := Kept.trans hB hk5
 replace hlw1 := Nat.le_trans hlw1 hk5.size
 replace hlw2 := Nat.le_trans hlw2 hk5.size
 replace hlw4 := Nat.le_trans hlw4 hk5.size
 refine gon h23 (d := 20) rfl rfl hb2 ?_
 refine ieq h23 rfl rfl rfl fun a24 h24 => ?_
 refine pkt h24 rfl hb2 rfl rfl fun a25 h25 => ?_
 refine mv h25 rfl rfl fun a26 h26 => ?_
 refine knownT h26 (d := 25) rfl (by rw [two_many]; rfl) fun hb3 => ?_
 have hp3 := of_decide_eq_true hb3
 refine gon h26 (d := 25) rfl rfl hb3 ?_
 refine mv h26 rfl rfl fun a27 h27 => ?_
 refine gon h27 (d := 25) rfl rfl hb3 ?_
 refine ieq h27 rfl rfl rfl fun a28 h28 => ?_
 refine pkt h28 rfl hb3 rfl rfl fun a29 h29 => ?_
 refine mv h29 rfl rfl fun a30 h30 => ?_
 refine knownT h30 (d := 29) rfl (by rw [two_where]; rfl) fun hb4 => ?_
 have hp4 := of_decide_eq_true hb4
 refine gon h30 (d := 29) rfl rfl hb4 ?_
 refine mv h30 rfl rfl fun a31 h31 => ?_
 refine gon h31 (d := 29) rfl rfl hb4 ?_
 refine ieq h31 rfl rfl rfl fun a32 h32 => ?_
 refine pkt h32 rfl hb4 rfl rfl fun a33 h33 => ?_
 refine mv h33 rfl rfl fun a34 h34 => ?_
 refine knownT h34 (d := 33) rfl (by rw [two_where]; rfl) fun hb5 => ?_
 have hp5 := of_decide_eq_true hb5
 refine gon h34 (d := 33) rfl rfl hb5 ?_
 have hsz6 := hB.size
 refine cal h34 Try.call28 rfl (c_starts _ [] _ (Sts_nil ndCells (fun _ => False) _) (by simp)) rfl ?_
 rintro v6 w6 a35 ⟨hS6, hk6⟩ h35
 replace hB := Kept.trans hB hk6
 replace hlw1 := Nat.le_trans hlw1 hk6.size
 replace hlw2 := Nat.le_trans hlw2 hk6.size
 replace hlw4 := Nat.le_trans hlw4 hk6.size
 replace hS6 := hS6.lt
 have hlw6 := Nat.le_refl w6.heap.size
 refine gon h35 (d := 33) rfl rfl hb5 ?_
 refine lnx h35 rfl Try.underlying28 rfl hS6.isl rfl fun a36 h36 => ?_
 refine gon h36 (d := 33) rfl rfl hb5 ?_
 refine ieq h36 rfl rfl rfl fun a37 h37 => ?_
 refine pkt h37 rfl hb5 rfl rfl fun a38 h38 => ?_
 refine asg h38 rfl rfl fun a39 h39 => ?_
 clear hK3 h14 h15 h16 h17 h18 h19 h20 h21 h22 h23 h24 h25 h26 h27 h28 h29 h30 h31 h32 h33 h34 h35 h36 h37 h38 K3 a14 a15 a16 a17 a18 a19 a20 a21 a22 a23 a24 a25 a26 a27 a28 a29 a30 a31 a32 a33 a34 a35 a36 a37 a38
 refine wpL_nil (hK4 _ _ ?_)
 refine rtn (leave h39 (res1 h39 rfl (rvt rfl)) ?_)
 exact ⟨_, rfl, by rw [nil_starts]; rfl, hB⟩

end Go.Proofs.Ytpgeogdmjgmimaa
