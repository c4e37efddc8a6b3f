/-
  Walks, written by wip/gen/gen.py.
-/
import Derived.Test.YtpgeogdmjgmimaaW20
import Derived.Test.YtpgeogdmjgmimaaW18
import Derived.Test.YtpgeogdmjgmimaaK17
set_option linter.unusedVariables false
set_option linter.unusedSimpArgs false
set_option maxRecDepth 4000
namespace Go.Proofs.Ytpgeogdmjgmimaa
open Go Go.RowKit K

def entList (t : List Pl.Nd) : List (Nat × List (List UInt8)) := if Pl.treeMay t = true then (List.range t.length).map (fun k => (k, Pl.entPut (t.getD k Pl.Nd.none))) else []
theorem entList_no {t : List Pl.Nd} (h : Pl.treeMay t = false) : entList t = [] := by unfold entList; rw [if_neg (by rw [h]; decide)]
theorem entList_len {t : List Pl.Nd} (h : Pl.treeMay t = true) : (entList t).length = t.length := by unfold entList; rw [if_pos h]; simp
theorem entList_at {t : List Pl.Nd} {k : Nat} {x : Pl.Nd} (h : Pl.treeMay t = true) (hx : t[k]? = some x) : (entList t)[k]? = some (k, Pl.entPut x) := by
  have hk := (List.getElem?_eq_some_iff.1 hx).1
  unfold entList
  rw [if_pos h, List.getElem?_map, List.getElem?_range hk, Option.map_some, List.getD_eq_getElem?_getD, hx]; rfl
theorem entList_get {t : List Pl.Nd} {k : Nat} {y : Nat × List (List UInt8)} (h : Pl.treeMay t = true) (hy : (entList t)[k]? = some y) : ∃ x, t[k]? = some x ∧ y = (k, Pl.entPut x) := by
  have hk : k < t.length := by rw [← entList_len h]; exact (List.getElem?_eq_some_iff.1 hy).1
  have hx := entList_at h (List.getElem?_eq_getElem hk)
  rw [hy] at hx
  exact ⟨_, List.getElem?_eq_getElem hk, by simpa using hx⟩
/-- What the range over a tree's entries hands on. -/
def EnB (g : Nat) (x : Nat × List (List UInt8)) (vs : List Value) (s : Nat) (A : World) : Prop := g < s ∧ ∃ q, vs = [.int .i64 (x.1 : Int), q] ∧ Rws (fun b => s ≤ b) A q x.2
theorem EnB.len {g : Nat} {x : Nat × List (List UInt8)} {vs : List Value} {s : Nat} {A : World} (h : EnB g x vs s A) : vs.length = 2 := by obtain ⟨_, q, rfl, _⟩ := h; rfl
theorem EnB.stays {g n0 : Nat} {x : Nat × List (List UInt8)} {vs : List Value} {s : Nat} {A B : World} (h : EnB g x vs s A) (hck : CK g n0 A B) : EnB g x vs s B := by
  obtain ⟨h0, q, e, h⟩ := h
  exact ⟨h0, q, e, h.ck hck (by omega)⟩

/-- stream.entries -/
theorem c_entries (A0 : Option Addr) (n0 c0 : Nat) (w : World) :
  C Try.prog 75 [.slice A0 n0 c0] w fun v w' => ∃ g, v = .func (.func 128) #[] #[.pointer (some ⟨g, 0, none⟩)] ∧ w.heap.size ≤ g ∧ Blk w' g 22 [.slice A0 n0 c0] ∧ Kept w w' := by
 refine enterE Try.func75 rfl 4 rfl rfl fun a0 h0 => ?_
 have hB := Kept.refl w
 refine sq fun K1 hK1 => ?_
 refine reg [some 1, some 2] rfl ?_
 refine bxv h0 rfl rfl rfl fun a1 w1 g1 h1 hk1 hz1 hg1 => ?_
 have hleg1 := Nat.le_trans hB.size hz1
 replace hB := Kept.trans hB hk1
 refine asg h1 rfl rfl fun a2 h2 => ?_
 clear h0 h1 a0 a1
 refine wpL_nil (hK1 _ _ ?_)
 refine sq fun K2 hK2 => ?_
 refine reg [some 3, some 2] rfl ?_
 refine mkf h2 rfl rfl rfl fun a3 h3 => ?_
 refine asg h3 rfl rfl fun a4 h4 => ?_
 clear hK1 h2 h3 K1 a2 a3
 refine wpL_nil (hK2 _ _ ?_)
 refine rtn (leave h4 (res1 h4 rfl (rvt rfl)) ?_)
 exact ⟨_, rfl, _, rfl, hz1, hg1, hB⟩

/-- stream.entries$1 -/
theorem i_entries {S : Nat → Prop} (A0 : Option Addr) (c0 : Nat) (l : List Pl.Nd) (g1 : Nat) (hn : ∀ n ∈ l, NdL n) : Iter2 Try.prog 128 [.pointer (some ⟨g1, 0, none⟩)] (EnB g1) (entList l) g1 22 [.slice A0 l.length c0] (fun _ => [.slice A0 l.length c0]) (fun W => Sts ndCells S W (.slice A0 l.length c0) l) := by
 intro lr J Jx w hg1 hM hJk hJxk hY hJ
 replace hM := hM
 have hbd := hM.bound
 refine enterI (vs := [_, _]) Try.func128 rfl 28 rfl rfl fun a0 h0 => ?_
 refine sq fun K1 hK1 => ?_
 refine sq fun K2 hK2 => ?_
 refine reg [some 7, some 8, some 9] rfl ?_
 refine ldb h0 hg1 rfl Try.isAgg22 rfl rfl fun a1 h1 => ?_
 refine cal h1 Try.call26 rfl (c_treeMay _ _ _ hM hn) rfl ?_
 rintro v1 w1 a2 ⟨rfl, hk1⟩ h2
 replace hg1 := hg1.kept hk1
 replace hJ := hJk _ _ _ hJ (Kept.toBut hk1 _)
 replace hM := hM.kept hk1
 refine unot h2 rfl rfl fun a3 h3 => ?_
 clear h0 h1 h2 a0 a1 a2
 refine wpL_nil (hK2 _ _ ?_)
 refine spl h3 (d := 9) rfl (fun hb1 => ?_) (fun hb1 => ?_)
 ·
  have hno := bunt hb1
  refine cdt h3 rfl (bnf (bunt hb1)) ?_
  refine rtn (leave h3 (res0 (by rfl)) ?_)
  exact ⟨_, rfl, .inl (by rw [entList_no hno]; exact hJ)⟩
 ·
  have hmay := bunf hb1
  refine cdf h3 rfl (bnt (bunf hb1)) ?_
  refine skp (hK1 _ _ ?_)
  refine sq fun K3 hK3 => ?_
  refine reg [some 10, some 11, some 12] rfl ?_
  refine ldb h3 hg1 rfl Try.isAgg22 rfl rfl fun a4 h4 => ?_
  refine lnx h4 rfl Try.underlying22 rfl hM.isl rfl fun a5 h5 => ?_
  refine mv h5 rfl rfl fun a6 h6 => ?_
  clear hK2 hK1 h3 h4 h5 K2 K1 a3 a4 a5
  refine wpL_nil (hK3 _ _ ?_)
  refine blc ?_
  clear hK3 K3
  refine lp (fun (k : Nat) (a : Act) (W : World) => Has [] 28 [(0, .func (.yield lr) #[] #[]), (1, .pointer (some ⟨g1, 0, none⟩)), (10, .slice A0 l.length c0), (11, .int .i64 (l.length : Int)), (12, .int .i64 (k : Int))] a ∧ (k ≤ l.length) ∧ (Blk W g1 22 [.slice A0 l.length c0]) ∧ (Sts ndCells S W (.slice A0 l.length c0) l) ∧ (J k W)) (fun (k : Nat) => l.length - k) (0) ⟨(h6.cons' rfl (h6.cons' rfl (h6.cons' rfl (h6.cons' rfl (h6.cons' rfl (h6.nil')))))), Nat.zero_le _, hg1, hM, hJ⟩ ?_
  clear h6 hM hJ hg1
  rintro k a7 w2 ⟨h7, hkn, hg1, hM, hJ⟩
  refine sq fun K4 hK4 => ?_
  refine reg [some 13] rfl ?_
  refine lss h7 rfl rfl rfl fun a8 h8 => ?_
  clear h7 a7
  refine wpL_nil (hK4 _ _ ?_)
  refine sq fun K5 hK5 => ?_
  refine spl h8 (d := 13) rfl (fun hb2 => ?_) (fun hb2 => ?_)
  ·
   have hp2 := of_decide_eq_true hb2
   have hlt := of_decide_eq_true hb2
   obtain ⟨x, hx⟩ : ∃ x, l[k]? = some x := ⟨_, List.getElem?_eq_getElem (by omega)⟩
   obtain ⟨hn1, hn2, hn3⟩ := hn x (List.mem_of_getElem? hx)
   have hJ0 := hJ
   have hK0 := Kept.refl w2
   have hg1s := hg1.lt
   replace hM := hM.lt
   refine cdt h8 rfl hb2 ?_
   refine skp (hK5 _ _ ?_)
   refine sq fun K6 hK6 => ?_
   refine blc ?_
   refine sq fun K7 hK7 => ?_
   refine reg [some 14, some 15, some 16, some 4, some 3, none] rfl ?_
   refine mv h8 rfl rfl fun a9 h9 => ?_
   refine ixS (k := k) nd_len hM h9 rfl rfl Try.underlying22 Try.sizeOf32 (by decide) (by simp) (hx) rfl fun a10 ad15 h10 hI15 => ?_
   refine ldS h10 hI15 rfl Try.isAgg32 Try.sizeOf32 rfl fun a11 h11 => ?_
   refine alc h11 Try.zeroValue32 rfl rfl fun a12 w3 g4 h12 hk3 hz4 hg4 => ?_
   have hneg1g4 := Nat.lt_of_lt_of_le hg1.lt hz4
   have hleg4 := Nat.le_trans hK0.size hz4
   replace hg1 := hg1.kept hk3
   replace hM := hM.kept hk3
   replace hK0 := Kept.trans hK0 hk3
   refine asg h12 rfl rfl fun a13 h13 => ?_
   refine stb h13 hg4 rfl rfl _ rfl Try.sizeOf32 (nd_one _) _ (by simp [ndCells]) rfl fun w4 hg4' hk4 => ?_
   replace hg1 := hg1.but hk4 (by omega)
   replace hM := hM.but hk4 (by intro h; have := h.2; omega)
   replace hK0 := Kept.but hK0 hk4 (by omega)
   clear hg4; have hg4 := hg4'; clear hg4'
   clear hK4 hK5 h8 h9 h10 h11 h12 K4 K5 a8 a9 a10 a11 a12
   refine wpL_nil (hK7 _ _ ?_)
   refine sq fun K8 hK8 => ?_
   refine reg [some 18, some 19, some 17, some 20, some 21, some 5, some 6] rfl ?_
   refine ldbn h13 hg4 (ndCells x) rfl Try.isAgg32 Try.sizeOf32 rfl rfl fun a14 h14 => ?_
   have hlg15 := hg1.lt
   have hsz5 := hK0.size
   have hlg45 := hg4.lt
   have hz0 := hK0.size
   refine cal h14 Try.call29 rfl (c_ePut x _ ⟨hn1, hn2, hn3⟩) rfl ?_
   rintro v5 w5 a15 ⟨⟨qp5, rfl, hp5'⟩, hk5⟩ h15
   replace hg1 := hg1.kept hk5
   replace hM := hM.kept hk5
   replace hK0 := Kept.trans hK0 hk5
   replace hp5' := hp5'.lt
   have hlw5 := Nat.le_refl w5.heap.size
   refine mv h15 rfl rfl fun a16 h16 => ?_
   refine ext2_0 h16 rfl rfl fun a17 h17 => ?_
   refine ext2_1 h17 rfl rfl fun a18 h18 => ?_
   refine asg h18 rfl rfl fun a19 h19 => ?_
   refine asg h19 rfl rfl fun a20 h20 => ?_
   clear hK7 h13 h14 h15 h16 h17 h18 h19 K7 a13 a14 a15 a16 a17 a18 a19
   refine wpL_nil (hK8 _ _ ?_)
   refine sq fun K9 hK9 => ?_
   refine reg [some 22, some 23, some 24, some 25, some 26] rfl ?_
   refine mv h20 rfl rfl fun a21 h21 => ?_
   refine mv h21 rfl rfl fun a22 h22 => ?_
   refine mv h22 rfl rfl fun a23 h23 => ?_
   have hxk := entList_at hmay hx
   have hY' := hY k _ _ _ _ hxk hJ0 (Kept.toBut hK0 _) ⟨hg1s, _, rfl, hp5'.mono (fun b hb => by have := hb.1; omega)⟩ hg1 (hM.mono (fun b hb => hb.1))
   refine yld h23 rfl rfl rfl hY' ?_
   rintro e w6 (⟨rfl, hJ, hg1, hM⟩ | ⟨rfl, hJx⟩)
   ·
    refine ⟨_, rfl, fun a24 h24 => ?_⟩
    refine unot h24 rfl rfl fun a25 h25 => ?_
    clear hK8 h20 h21 h22 h23 h24 K8 a20 a21 a22 a23 a24
    refine wpL_nil (hK9 _ _ ?_)
    refine cdf h25 rfl rfl ?_
    refine skp (hK6 _ _ ?_)
    refine reg [some 27, some 12] rfl ?_
    refine add h25 rfl rfl rfl (by omega) fun a26 h26 => ?_
    refine mv h26 rfl rfl fun a27 h27 => ?_
    clear hK9 hK6 h25 h26 K9 K6 a25 a26
    refine wpL_nil ?_
    exact ⟨k + 1, ⟨(h27.cons' rfl (h27.cons' rfl (h27.cons' rfl (h27.cons' rfl (h27.cons' (lke rfl (by simp)) (h27.nil')))))), by omega, hg1, hM, hJ⟩, by omega⟩
   ·
    refine ⟨_, rfl, fun a28 h28 => ?_⟩
    refine unot h28 rfl rfl fun a29 h29 => ?_
    clear hK8 h20 h21 h22 h23 h28 K8 a20 a21 a22 a23 a28
    refine wpL_nil (hK9 _ _ ?_)
    refine cdt h29 rfl rfl ?_
    refine rtn (leave h29 (res0 (by rfl)) ?_)
    exact ⟨_, rfl, .inr hJx⟩
  ·
   have hp2 := of_decide_eq_false hb2
   have hge := of_decide_eq_false hb2
   refine cdf h8 rfl hb2 ?_
   refine xit ?_
   refine leaveE h8 (res0 (by rfl)) ?_
   exact ⟨_, rfl, .inl (by rw [entList_len hmay, show l.length = k by omega]; exact hJ)⟩

end Go.Proofs.Ytpgeogdmjgmimaa
