/-
  Walks, written by wip/gen/gen.py.
-/
import Derived.Test.YtpgeogdmjgmimaaW11
set_option linter.unusedVariables false
set_option linter.unusedSimpArgs false
set_option maxRecDepth 4000
namespace Go.Proofs.Ytpgeogdmjgmimaa
open Go Go.RowKit K

/-- A literal's value. -/
theorem bld41_  (w : World) : (Instr.build 41 [].toArray).run Try.prog w = .ok (.agg #[str [], str [], str [], .int .i64 0, .int .i64 0, .int .i64 0, .int .i64 0, .int .i64 0, .int .u8 0, .int .i64 0, .int .i64 0]) w := by kernel_rfl
/-- A literal's value. -/
theorem bld41_8 (x8 : Int) (w : World) : (Instr.build 41 [(8, (.int .u8 x8))].toArray).run Try.prog w = .ok (.agg #[str [], str [], str [], .int .i64 0, .int .i64 0, .int .i64 0, .int .i64 0, .int .i64 0, .int .u8 x8, .int .i64 0, .int .i64 0]) w := by kernel_rfl
theorem getN_range {b : List UInt8} : -9223372036854775808 ≤ (Pl.getN b).getD 0 ∧ (Pl.getN b).getD 0 ≤ 9223372036854775807 := by
  have run : ∀ (base : Int) (l : List UInt8) (n m : Int), (-9223372036854775808 ≤ n ∧ n ≤ 9223372036854775807) → Pl.getRun base l n = some m → -9223372036854775808 ≤ m ∧ m ≤ 9223372036854775807 := by
    intro base l
    induction l with
    | nil => intro n m hn h; simp [Pl.getRun] at h; omega
    | cons c l ih =>
      intro n m hn h
      unfold Pl.getRun at h
      split at h
      · cases h
      · rename_i k hk
        refine ih k m ?_ h
        unfold Pl.getStep at hk
        split at hk
        · cases hk
        · cases hk; exact Pl.wrap_range _
  unfold Pl.getN
  split
  · simp
  · split
    · simp
    · rename_i k hk
      split
      · unfold Pl.getRaw at hk
        split at hk <;> exact run _ _ _ _ ⟨by omega, by omega⟩ hk
      · simp
def dw (b : List UInt8) (t : UInt8) (k : Nat) : Pl.Hd := ((Pl.wordsL t).take k).foldl (fun h x => Pl.setS h x.2.2 (Pl.decW b x)) { Pl.Hd.none with typ := t }
def dn (b : List UInt8) (t : UInt8) (k : Nat) : Pl.Hd := ((Pl.numsL t).take k).foldl (fun h x => Pl.setN h x.2.2 (Pl.decN b x)) (dw b t (Pl.wordsL t).length)
theorem dw_next {b : List UInt8} {t : UInt8} {k : Nat} {x : Nat × Nat × Nat} (hx : (Pl.wordsL t)[k]? = some x) : dw b t (k + 1) = Pl.setS (dw b t k) x.2.2 (Pl.decW b x) := by
  unfold dw; rw [List.take_add_one, hx]; simp
theorem dn_next {b : List UInt8} {t : UInt8} {k : Nat} {x : Nat × Nat × Nat} (hx : (Pl.numsL t)[k]? = some x) : dn b t (k + 1) = Pl.setN (dn b t k) x.2.2 (Pl.decN b x) := by
  unfold dn; rw [List.take_add_one, hx]; simp
theorem dw_all {b : List UInt8} {t : UInt8} {k : Nat} (hk : (Pl.wordsL t).length ≤ k) : dw b t k = dw b t (Pl.wordsL t).length := by unfold dw; rw [List.take_of_length_le hk, List.take_length]
theorem dn_all {b : List UInt8} {t : UInt8} {k : Nat} (ht : b[156]? = some t) (hk : (Pl.numsL t).length ≤ k) : dn b t k = Pl.decH b := by
  have e : b.getD 156 0 = t := by rw [List.getD_eq_getElem?_getD, ht]; rfl
  unfold dn dw Pl.decH; rw [List.take_of_length_le hk, List.take_length, e]
theorem setS_typ (h : Pl.Hd) (o : Nat) (s : List UInt8) : (Pl.setS h o s).typ = h.typ := by unfold Pl.setS; split <;> rfl
theorem dw_typ (b : List UInt8) (t : UInt8) (k : Nat) : (dw b t k).typ = t := by
  unfold dw
  have : ∀ (l : List (Nat × Nat × Nat)) (h : Pl.Hd), h.typ = t → (l.foldl (fun h x => Pl.setS h x.2.2 (Pl.decW b x)) h).typ = t := by
    intro l
    induction l with
    | nil => intro h e; exact e
    | cons x l ih => intro h e; exact ih _ ((setS_typ _ _ _).trans e)
  exact this _ _ rfl
theorem setS_cells (h : Pl.Hd) {t : UInt8} {k : Nat} {x : Nat × Nat × Nat} (s : List UInt8) (hx : (Pl.wordsL t)[k]? = some x) : (hdCells h).take x.2.2 ++ [str s] ++ (hdCells h).drop (x.2.2 + [str s].length) = hdCells (Pl.setS h x.2.2 s) := by
  have hm := List.mem_of_getElem? hx
  unfold Pl.wordsL at hm
  split at hm <;> simp at hm
  · rcases hm with rfl | rfl <;> rfl
  · rcases hm with rfl | rfl | rfl <;> rfl
theorem setN_cells (h : Pl.Hd) {t : UInt8} {k : Nat} {x : Nat × Nat × Nat} (s : Int) (hx : (Pl.numsL t)[k]? = some x) : (hdCells h).take x.2.2 ++ [.int .i64 s] ++ (hdCells h).drop (x.2.2 + [Value.int .i64 s].length) = hdCells (Pl.setN h x.2.2 s) := by
  have hm := List.mem_of_getElem? hx
  unfold Pl.numsL at hm
  split at hm <;> simp at hm
  · rcases hm with rfl | rfl | rfl | rfl | rfl | rfl | rfl <;> rfl
  · rcases hm with rfl | rfl | rfl | rfl | rfl <;> rfl
theorem word_place {t : UInt8} {k : Nat} {x : Nat × Nat × Nat} (hx : (Pl.wordsL t)[k]? = some x) : x.2.2 < 11 := by
  have hm := List.mem_of_getElem? hx
  unfold Pl.wordsL at hm
  split at hm <;> simp at hm
  · rcases hm with rfl | rfl <;> decide
  · rcases hm with rfl | rfl | rfl <;> decide
theorem num_place {t : UInt8} {k : Nat} {x : Nat × Nat × Nat} (hx : (Pl.numsL t)[k]? = some x) : x.2.2 < 11 := by
  have hm := List.mem_of_getElem? hx
  unfold Pl.numsL at hm
  split at hm <;> simp at hm
  · rcases hm with rfl | rfl | rfl | rfl | rfl | rfl | rfl <;> decide
  · rcases hm with rfl | rfl | rfl | rfl | rfl <;> decide
theorem setN_range {h : Pl.Hd} (hr : HdR h) (o : Nat) {m : Int} (hm : -9223372036854775808 ≤ m ∧ m ≤ 9223372036854775807) : HdR (Pl.setN h o m) := by
  intro q
  have a := hr 3; have c := hr 4; have d := hr 5; have e := hr 6; have f := hr 7; have g := hr 9; have i := hr 10
  simp only [Pl.hN] at a c d e f g i
  unfold Pl.setN Pl.hN
  split <;> split <;> first | exact hm | assumption
theorem setS_range {h : Pl.Hd} (hr : HdR h) (o : Nat) (s : List UInt8) : HdR (Pl.setS h o s) := by
  intro q
  have := hr q
  unfold Pl.setS
  split <;> exact this
theorem decH_range (b : List UInt8) : HdR (Pl.decH b) := by
  unfold Pl.decH
  have h1 : ∀ (l : List (Nat × Nat × Nat)) (h : Pl.Hd), HdR h → HdR (l.foldl (fun h x => Pl.setS h x.2.2 (Pl.decW b x)) h) := by
    intro l
    induction l with
    | nil => intro h e; exact e
    | cons x l ih => intro h e; exact ih _ (setS_range e _ _)
  have h2 : ∀ (l : List (Nat × Nat × Nat)) (h : Pl.Hd), HdR h → HdR (l.foldl (fun h x => Pl.setN h x.2.2 (Pl.decN b x)) h) := by
    intro l
    induction l with
    | nil => intro h e; exact e
    | cons x l ih => intro h e; exact ih _ (setN_range e _ getN_range)
  refine h2 _ _ (h1 _ _ ?_)
  intro q
  unfold Pl.hN Pl.Hd.none
  split <;> simp
theorem hd_one (h : Pl.Hd) : ∀ v ∈ hdCells h, v.oneCell' = true := by
  intro v hv; simp only [hdCells, List.mem_cons, List.not_mem_nil, or_false] at hv
  rcases hv with rfl | rfl | rfl | rfl | rfl | rfl | rfl | rfl | rfl | rfl | rfl <;> rfl
theorem get_len {b : List UInt8} (h : ¬ (b.length : Int) = 512) : Pl.getH b = (Pl.Hd.none, 1) := by rw [Pl.getH, if_pos (by omega)]
theorem get_zero {b : List UInt8} (h : (b.length : Int) = 512) (h2 : Pl.zeroB b = true) : Pl.getH b = (Pl.Hd.none, 4) := by rw [Pl.getH, if_neg (by omega), if_pos h2]
theorem get_sum {b : List UInt8} (h : (b.length : Int) = 512) (h2 : Pl.zeroB b = false) (h3 : ¬ (b.take 156).drop 148 = Pl.sumF b) : Pl.getH b = (Pl.Hd.none, 3) := by rw [Pl.getH, if_neg (by omega), if_neg (by simp [h2]), if_pos h3]
theorem get_form {b : List UInt8} (h : (b.length : Int) = 512) (h2 : Pl.zeroB b = false) (h3 : (b.take 156).drop 148 = Pl.sumF b) (h4 : Pl.putH (Pl.decH b) ≠ some b) : Pl.getH b = (Pl.Hd.none, 2) := by
  rw [Pl.getH, if_neg (by omega), if_neg (by simp [h2]), if_neg (by simp [h3]), if_neg h4]
theorem get_ok {b : List UInt8} (h : (b.length : Int) = 512) (h2 : Pl.zeroB b = false) (h3 : (b.take 156).drop 148 = Pl.sumF b) (h4 : Pl.putH (Pl.decH b) = some b) : Pl.getH b = (Pl.decH b, 0) := by
  rw [Pl.getH, if_neg (by omega), if_neg (by simp [h2]), if_neg (by simp [h3]), if_pos h4]
theorem byt0 {w : World} {g : Nat} {t : TypeId} (h : Blk w g t [.int .u8 0]) : Byt (fun b => b = g) w (.slice (some ⟨g, 0, none⟩) 1 1) [0] := Blk.byt (bs := [0]) (by rw [e70]; exact h) 1 rfl (by simp) (by omega)

set_option maxHeartbeats 2000000 in
/-- head.Get -/
theorem c_headGet {S : Nat → Prop} (v : Value) (b : List UInt8) (w : World) (hv : Byt S w v b) :
  C Try.prog 36 [v] w fun v w' => v = .tuple #[hdV (Pl.getH b).1, .int .i64 (Pl.getH b).2] ∧ Kept w w' := by
 replace hv := hv.old
 obtain ⟨Av, cv, rfl⟩ := hv.isl
 refine enterE Try.func36 rfl 103 rfl rfl fun a0 h0 => ?_
 have hB := Kept.refl w
 refine sq fun K1 hK1 => ?_
 refine reg [some 2, some 3] rfl ?_
 refine alc h0 Try.zeroValue41 rfl rfl fun a1 w1 g2 h1 hk1 hz2 hg2 => ?_
 have hleg2 := Nat.le_trans hB.size hz2
 replace hB := Kept.trans hB hk1
 replace hv := hv.kept hk1
 refine asg h1 rfl rfl fun a2 h2 => ?_
 clear h0 h1 a0 a1
 refine wpL_nil (hK1 _ _ ?_)
 refine sq fun K2 hK2 => ?_
 refine blc ?_
 refine sq fun K3 hK3 => ?_
 refine reg [some 16, some 17, some 18, some 15] rfl ?_
 refine mv h2 rfl rfl fun a3 h3 => ?_
 refine lnx h3 rfl Try.underlying35 rfl hv.isl rfl fun a4 h4 => ?_
 refine ineq h4 rfl rfl rfl fun a5 h5 => ?_
 refine asg h5 rfl rfl fun a6 h6 => ?_
 clear hK1 h2 h3 h4 h5 K1 a2 a3 a4 a5
 refine wpL_nil (hK3 _ _ ?_)
 refine spl h6 (d := 15) rfl (fun hb1 => ?_) (fun hb1 => ?_)
 ·
  have hp1 := of_decide_eq_false (bunt hb1)
  refine cdt h6 rfl (bnf (bunt hb1)) ?_
  refine sq fun K4 hK4 => ?_
  refine reg [some 19, none, some 3] rfl ?_
  refine bld h6 rfl (bld41_) rfl fun a7 h7 => ?_
  refine stb h7 hg2 rfl rfl _ rfl Try.sizeOf41 (by first | exact wc_one _ _ | exact hd_one _ | (simp [Value.oneCell']; done)) _ (by first | (simp [wc]; done) | (simp [hdCells]; done)) rfl fun w2 hg2' hk2 => ?_
  replace hB := Kept.but hB hk2 (by omega)
  clear hg2; have hg2 := hg2'; clear hg2'
  refine asg h7 rfl rfl fun a8 h8 => ?_
  clear hK3 h6 h7 K3 a6 a7
  refine wpL_nil (hK4 _ _ ?_)
  refine rtn (leave h8 (res2 h8 rfl (rva (hdCells Pl.Hd.none) hg2 rfl Try.isAgg41 Try.sizeOf41 rfl) (rvt rfl)) ?_)
  exact ⟨_, rfl, by rw [get_len hp1]; rfl, hB⟩
 ·
  have hp1 := of_decide_eq_true (bunf hb1)
  have hlen := of_decide_eq_true (bunf hb1)
  obtain ⟨t156, hx156⟩ : ∃ t, b[156]? = some t := ⟨_, List.getElem?_eq_getElem (by omega)⟩
  refine cdf h6 rfl (bnt (bunf hb1)) ?_
  refine sq fun K5 hK5 => ?_
  refine reg [some 21, some 22, some 20] rfl ?_
  refine mv h6 rfl rfl fun a9 h9 => ?_
  refine cal h9 Try.call31 rfl (c_zero _ _ _ hv) rfl ?_
  rintro v3 w3 a10 ⟨rfl, hk3⟩ h10
  replace hB := Kept.trans hB hk3
  replace hv := hv.kept hk3
  replace hg2 := hg2.kept hk3
  refine asg h10 rfl rfl fun a11 h11 => ?_
  clear hK3 h6 h9 h10 K3 a6 a9 a10
  refine wpL_nil (hK5 _ _ ?_)
  refine spl h11 (d := 20) rfl (fun hb2 => ?_) (fun hb2 => ?_)
  ·
   refine cdt h11 rfl hb2 ?_
   refine sq fun K6 hK6 => ?_
   refine reg [some 23, none, some 3] rfl ?_
   refine bld h11 rfl (bld41_) rfl fun a12 h12 => ?_
   refine stb h12 hg2 rfl rfl _ rfl Try.sizeOf41 (by first | exact wc_one _ _ | exact hd_one _ | (simp [Value.oneCell']; done)) _ (by first | (simp [wc]; done) | (simp [hdCells]; done)) rfl fun w4 hg2' hk4 => ?_
   replace hB := Kept.but hB hk4 (by omega)
   clear hg2; have hg2 := hg2'; clear hg2'
   refine asg h12 rfl rfl fun a13 h13 => ?_
   clear hK5 h11 h12 K5 a11 a12
   refine wpL_nil (hK6 _ _ ?_)
   refine rtn (leave h13 (res2 h13 rfl (rva (hdCells Pl.Hd.none) hg2 rfl Try.isAgg41 Try.sizeOf41 rfl) (rvt rfl)) ?_)
   exact ⟨_, rfl, by rw [get_zero hlen hb2]; rfl, hB⟩
  ·
   refine cdf h11 rfl hb2 ?_
   refine skp (hK2 _ _ ?_)
   refine sq fun K7 hK7 => ?_
   refine reg [some 24, some 25, some 26, some 4, none] rfl ?_
   refine mv h11 rfl rfl fun a14 h14 => ?_
   refine bld h14 rfl (bld106_0 _ _ _) rfl fun a15 h15 => ?_
   refine bld h15 rfl (bld108_0 _ _ _) rfl fun a16 h16 => ?_
   refine alc h16 Try.zeroValue108 rfl rfl fun a17 w5 g4 h17 hk5 hz4 hg4 => ?_
   have hleg4 := Nat.le_trans hB.size hz4
   have hneg2g4 := Nat.lt_of_lt_of_le hg2.lt hz4
   replace hB := Kept.trans hB hk5
   replace hv := hv.kept hk5
   replace hg2 := hg2.kept hk5
   refine stb h17 hg4 rfl rfl _ rfl Try.sizeOf108 (by first | exact wc_one _ _ | exact hd_one _ | (simp [Value.oneCell']; done)) _ (by first | (simp [wc]; done) | (simp [hdCells]; done)) rfl fun w6 hg4' hk6 => ?_
   replace hB := Kept.but hB hk6 (by omega)
   replace hv := hv.but hk6 (by first | (show ¬ (_ < _); omega) | (simp; omega))
   replace hg2 := hg2.but hk6 (by omega)
   clear hg4; have hg4 := hg4'; clear hg4'
   clear hK5 hK2 h11 h14 h15 h16 K5 K2 a11 a14 a15 a16
   refine wpL_nil (hK7 _ _ ?_)
   refine sq fun K8 hK8 => ?_
   refine sq fun K9 hK9 => ?_
   clear hK7 K7
   refine drw h17 [some 27, some 28, some 29, some 30, some 31, some 32] rfl [Fx (.slice Av b.length cv), fun v w' => Byt (Lo w.heap.size) w' v ((b.take 156).drop 148), Fx (.agg #[.slice Av b.length cv]), fun v w' => Byt (fun b => w6.heap.size ≤ b) w' v (Pl.sumF b), Fx (.bool (decide ((b.take 156).drop 148 = Pl.sumF b))), Fx (.bool (!(decide ((b.take 156).drop 148 = Pl.sumF b))))] Kept rfl rfl rfl rfl (drewKept _) keptT (mcons mfx (mcons (fun v w w' hk h => h.kept hk) (mcons mfx (mcons (fun v w w' hk h => h.kept hk) (mcons mfx (mcons mfx mnil)))))) ⟨?_, ?_, ?_, ?_, ?_, ?_, trivial⟩ ?_
   ·
    intro L a w_ hH hb hR hd ho
    have hl0 := hb 0 _ rfl
    refine mv hH hl0 rfl fun a18 h18 => ?_
    exact wpL_nil ⟨_, h18, Kept.refl _, rfl⟩
   ·
    intro L a w_ hH hb hR hd ho
    obtain ⟨_, hl27, rfl⟩ := hd 0 rfl
    replace hv := hv.kept hR
    refine slB (148) (156) hv hH Try.underlying35 hl27 Try.sizeOf5 ⟨_, rfl, by first | omega | (simp; omega)⟩ ⟨_, rfl, by first | omega | (simp; omega)⟩ (by omega) (by omega) rfl fun a19 v28' h19 hs28 => ?_
    exact wpL_nil ⟨_, h19, Kept.refl _, hs28⟩
   ·
    intro L a w_ hH hb hR hd ho
    have hl4 := hb 4 _ rfl
    replace hg4 := hg4.kept hR
    refine ldbn hH hg4 ([.slice Av b.length cv]) hl4 Try.isAgg108 Try.sizeOf108 rfl rfl fun a20 h20 => ?_
    exact wpL_nil ⟨_, h20, Kept.refl _, rfl⟩
   ·
    intro L a w_ hH hb hR hd ho
    obtain ⟨_, hl29, rfl⟩ := hd 2 rfl
    replace hv := hv.kept hR
    refine cal hH Try.call89 (evs1 hl29) (c_ssum _ b _ hv) rfl ?_
    rintro v7 w7 a21 ⟨hO30, hk7⟩ h21
    exact wpL_nil ⟨_, h21, hk7, (Own.byt hO30).mono (fun b hb => Nat.le_trans hR.size hb)⟩
   ·
    intro L a w_ hH hb hR hd ho
    obtain ⟨v28, hl28, hf28⟩ := hd 1 rfl
    obtain ⟨v30, hl30, hf30⟩ := hd 3 rfl
    refine cal hH Try.call88 (evs2 hl28 hl30) (c_bEqual _ _ _ _ _ hf28 hf30) rfl ?_
    rintro v8 w8 a22 ⟨rfl, rfl⟩ h22
    exact wpL_nil ⟨_, h22, Kept.refl _, rfl⟩
   ·
    intro L a w_ hH hb hR hd ho
    obtain ⟨_, hl31, rfl⟩ := hd 4 rfl
    refine unot hH hl31 rfl fun a23 h23 => ?_
    exact wpL_nil ⟨_, h23, Kept.refl _, rfl⟩
   intro L9 a24 w9 h24 hbh24 hRh24 hdh24
   obtain ⟨_, hl27, rfl⟩ := hdh24 0 (by decide)
   obtain ⟨v28, hl28, hf28⟩ := hdh24 1 (by decide)
   obtain ⟨_, hl29, rfl⟩ := hdh24 2 (by decide)
   obtain ⟨v30, hl30, hf30⟩ := hdh24 3 (by decide)
   obtain ⟨_, hl31, rfl⟩ := hdh24 4 (by decide)
   obtain ⟨_, hl32, rfl⟩ := hdh24 5 (by decide)
   have h25 := Has.under h24 hbh24
   have h26 := (h24.add hl32 (h24.add hl31 (h24.add hl30 (h24.add hl29 (h24.add hl28 (h24.add hl27 h25))))))
   clear h25 hl27 hl28 hl29 hl30 hl31 hl32 hbh24 hdh24
   replace hB := Kept.trans hB hRh24
   replace hv := hv.kept hRh24
   replace hg2 := hg2.kept hRh24
   replace hg4 := hg4.kept hRh24
   refine hK9 _ _ ?_
   refine spl h26 (d := 32) rfl (fun hb9001 => ?_) (fun hb9001 => ?_)
   ·
    have hp9001 := of_decide_eq_false (bunt hb9001)
    refine cdt h26 rfl (bnf (bunt hb9001)) ?_
    refine sq fun K10 hK10 => ?_
    refine reg [some 33, none, some 3] rfl ?_
    refine bld h26 rfl (bld41_) rfl fun a27 h27 => ?_
    refine stb h27 hg2 rfl rfl _ rfl Try.sizeOf41 (by first | exact wc_one _ _ | exact hd_one _ | (simp [Value.oneCell']; done)) _ (by first | (simp [wc]; done) | (simp [hdCells]; done)) rfl fun w10 hg2' hk10 => ?_
    replace hB := Kept.but hB hk10 (by omega)
    clear hg2; have hg2 := hg2'; clear hg2'
    refine asg h27 rfl rfl fun a28 h28 => ?_
    clear hK9 h26 h27 K9 a27
    refine wpL_nil (hK10 _ _ ?_)
    refine rtn (leave h28 (res2 h28 rfl (rva (hdCells Pl.Hd.none) hg2 rfl Try.isAgg41 Try.sizeOf41 rfl) (rvt rfl)) ?_)
    exact ⟨_, rfl, by rw [get_sum hlen hb2 hp9001]; rfl, hB⟩
   ·
    have hp9001 := of_decide_eq_true (bunf hb9001)
    refine cdf h26 rfl (bnt (bunf hb9001)) ?_
    refine skp (hK8 _ _ ?_)
    refine sq fun K11 hK11 => ?_
    refine reg [some 34, some 35, some 36, some 37, some 5, none] rfl ?_
    refine mv h26 rfl rfl fun a29 h29 => ?_
    refine ixB (k := 156) hv h29 rfl rfl Try.underlying35 Try.sizeOf5 Try.isAgg5 (by simp) (hx156) rfl rfl fun a30 z35 h30 => ?_
    refine bld h30 rfl (bld41_8 _) rfl fun a31 h31 => ?_
    refine alc h31 Try.zeroValue41 rfl rfl fun a32 w11 g5 h32 hk11 hz5 hg5 => ?_
    have hleg5 := Nat.le_trans hB.size hz5
    have hneg2g5 := Nat.lt_of_lt_of_le hg2.lt hz5
    have hneg4g5 := Nat.lt_of_lt_of_le hg4.lt hz5
    replace hB := Kept.trans hB hk11
    replace hv := hv.kept hk11
    replace hg2 := hg2.kept hk11
    replace hg4 := hg4.kept hk11
    refine stb h32 hg5 rfl rfl _ rfl Try.sizeOf41 (by first | exact wc_one _ _ | exact hd_one _ | (simp [Value.oneCell']; done)) _ (by first | (simp [wc]; done) | (simp [hdCells]; done)) rfl fun w12 hg5' hk12 => ?_
    replace hB := Kept.but hB hk12 (by omega)
    replace hv := hv.but hk12 (by first | (show ¬ (_ < _); omega) | (simp; omega))
    replace hg2 := hg2.but hk12 (by omega)
    replace hg4 := hg4.but hk12 (by omega)
    clear hg5; have hg5 := hg5'; clear hg5'
    have hg5 : Blk w12 g5 41 (hdCells (dw b t156 0)) := hg5
    clear hK9 hK8 h26 h29 h30 h31 K9 K8 a29 a30 a31
    refine wpL_nil (hK11 _ _ ?_)
    refine sq fun K12 hK12 => ?_
    refine sq fun K13 hK13 => ?_
    refine reg [some 38, some 39, some 40] rfl ?_
    have hsz13 := hB.size
    have hlg213 := hg2.lt
    have hlg413 := hg4.lt
    have hlg513 := hg5.lt
    refine cal h32 Try.call90 rfl (c_words _ _ _ hg5) rfl ?_
    rintro v13 w13 a33 ⟨hW13, hk13⟩ h33
    replace hB := Kept.trans hB hk13
    replace hv := hv.kept hk13
    replace hg2 := hg2.kept hk13
    replace hg5 := hg5.kept hk13
    replace hW13 := hW13.lt
    refine lnx h33 rfl Try.underlying111 rfl hW13.isl rfl fun a34 h34 => ?_
    refine mv h34 rfl rfl fun a35 h35 => ?_
    clear hK11 h32 h33 h34 K11 a32 a33 a34
    refine wpL_nil (hK13 _ _ ?_)
    refine blc ?_
    clear hK13 K13
    refine lp (fun (k : Nat) (a : Act) (W : World) => ∃ (vW : Value), ∃ (nL : Nat), ∃ (nW : Nat), Has [] 103 [(0, .slice Av b.length cv), (2, .pointer (some ⟨g2, 0, none⟩)), (5, .pointer (some ⟨g5, 0, none⟩)), (38, vW), (39, .int .i64 ((Pl.wordsL t156).length : Int)), (40, .int .i64 (k : Int))] a ∧ (k ≤ (Pl.wordsL t156).length) ∧ (Sts (wc g5) (fun b => nL ≤ b ∧ b < nW) W vW (Pl.wordsL t156)) ∧ (Blk W g5 41 (hdCells (dw b t156 k))) ∧ (Byt (Lo w.heap.size) W (.slice Av b.length cv) b) ∧ (Blk W g2 41 (hdCells Pl.Hd.none)) ∧ (g5 < nL) ∧ (nW ≤ W.heap.size) ∧ (Kept w W)) (fun (k : Nat) => (Pl.wordsL t156).length - k) (0) ⟨_, _, _, (h35.cons' rfl (h35.cons' rfl (h35.cons' rfl (h35.cons' rfl (h35.cons' rfl (h35.cons' rfl (h35.nil'))))))), Nat.zero_le _, hW13, hg5, hv, hg2, (by assumption), Nat.le_refl _, hB⟩ ?_
    clear h35 hW13 hg5 hg4 hg2 hv hB
    rintro k a36 w14 ⟨vW, nL, nW, h36, hk, hW, hg5, hv, hg2, hgL, hnW, hB⟩
    refine sq fun K14 hK14 => ?_
    refine reg [some 41] rfl ?_
    refine lss h36 rfl rfl rfl fun a37 h37 => ?_
    clear h36 a36
    refine wpL_nil (hK14 _ _ ?_)
    refine sq fun K15 hK15 => ?_
    refine spl h37 (d := 41) rfl (fun hb4 => ?_) (fun hb4 => ?_)
    ·
     have hp4 := of_decide_eq_true hb4
     obtain ⟨x, hx⟩ : ∃ x, (Pl.wordsL t156)[k]? = some x := ⟨_, List.getElem?_eq_getElem (by have := of_decide_eq_true hb4; omega)⟩
     have hwl := words_len t156
     have hxr := word_room hx
     refine cdt h37 rfl hb4 ?_
     refine skp (hK15 _ _ ?_)
     refine sq fun K16 hK16 => ?_
     refine blc ?_
     refine sq fun K17 hK17 => ?_
     refine reg [some 42, some 43, some 7, none] rfl ?_
     refine ixS (k := k) (wc_len _) hW h37 rfl rfl Try.underlying111 Try.sizeOf116 (by decide) (by simp) (hx) rfl fun a38 ad42 h38 hI42 => ?_
     refine ldS h38 hI42 rfl Try.isAgg116 Try.sizeOf116 rfl fun a39 h39 => ?_
     refine alc h39 Try.zeroValue116 rfl rfl fun a40 w15 g7 h40 hk15 hz7 hg7 => ?_
     have hneg5g7 := Nat.lt_of_lt_of_le hg5.lt hz7
     have hneg2g7 := Nat.lt_of_lt_of_le hg2.lt hz7
     have hNhnWg7 := Nat.le_trans hnW hz7
     have hleg7 := Nat.le_trans hB.size hz7
     replace hW := hW.kept hk15
     replace hg5 := hg5.kept hk15
     replace hv := hv.kept hk15
     replace hg2 := hg2.kept hk15
     replace hnW := Nat.le_trans hnW hk15.size
     replace hB := Kept.trans hB hk15
     replace hI42 := hI42.kept hk15
     refine stb h40 hg7 rfl rfl _ rfl Try.sizeOf116 (by first | exact wc_one _ _ | exact hd_one _ | (simp [Value.oneCell']; done)) _ (by first | (simp [wc]; done) | (simp [hdCells]; done)) rfl fun w16 hg7' hk16 => ?_
     replace hW := hW.but hk16 (by intro h; have := h.2; omega)
     replace hg5 := hg5.but hk16 (by omega)
     replace hv := hv.but hk16 (by first | (show ¬ (_ < _); omega) | (simp; omega))
     replace hg2 := hg2.but hk16 (by omega)
     replace hnW := Nat.le_trans hnW hk16.size
     replace hB := Kept.but hB hk16 (by omega)
     replace hI42 := hI42.but hk16 (by intro h; have := h.2; omega)
     clear hg7; have hg7 := hg7'; clear hg7'
     clear hK14 hK15 h37 h38 h39 K14 K15 a37 a38 a39
     refine wpL_nil (hK17 _ _ ?_)
     refine sq fun K18 hK18 => ?_
     refine reg [some 45, some 46, some 47, some 48, some 49, some 50, some 51, some 52, some 53, some 54, some 55, some 44, some 56, some 57, some 58, some 8, some 9, some 10] rfl ?_
     refine mv h40 rfl rfl fun a41 h41 => ?_
     refine fab h41 rfl Try.underlying116 rfl Try.sizeOf3 rfl 0 rfl rfl fun a42 h42 => ?_
     refine ldb h42 hg7 rfl Try.isAgg3 rfl rfl fun a43 h43 => ?_
     refine fab h43 rfl Try.underlying116 rfl Try.sizeOf3 rfl 0 rfl rfl fun a44 h44 => ?_
     refine ldb h44 hg7 rfl Try.isAgg3 rfl rfl fun a45 h45 => ?_
     refine fab h45 rfl Try.underlying116 rfl Try.sizeOf3 rfl 1 rfl rfl fun a46 h46 => ?_
     refine ldb h46 hg7 rfl Try.isAgg3 rfl rfl fun a47 h47 => ?_
     refine add h47 rfl rfl rfl (by omega) fun a48 h48 => ?_
     refine slB (x.1) (x.1 + x.2.1) hv h48 Try.underlying35 rfl Try.sizeOf5 ⟨_, rfl, by first | omega | (simp; omega)⟩ ⟨_, rfl, by first | omega | (simp; omega)⟩ (by omega) (by omega) rfl fun a49 v53' h49 hs53 => ?_
     refine bsl h49 rfl (bsl1_35_0 _) rfl fun a50 w17 g54 h50 hk17 hz54 hg54 => ?_
     have hneg5g54 := Nat.lt_of_lt_of_le hg5.lt hz54
     have hneg2g54 := Nat.lt_of_lt_of_le hg2.lt hz54
     have hNhnWg54 := Nat.le_trans hnW hz54
     have hleg54 := Nat.le_trans hB.size hz54
     have hneg7g54 := Nat.lt_of_lt_of_le hg7.lt hz54
     replace hW := hW.kept hk17
     replace hg5 := hg5.kept hk17
     replace hv := hv.kept hk17
     replace hg2 := hg2.kept hk17
     replace hnW := Nat.le_trans hnW hk17.size
     replace hB := Kept.trans hB hk17
     replace hI42 := hI42.kept hk17
     replace hg7 := hg7.kept hk17
     replace hs53 := hs53.kept hk17
     refine cal h50 Try.call91 rfl (c_bCut _ _ _ 0 _ hs53 (byt0 hg54)) rfl ?_
     rintro v18 w18 a51 ⟨⟨u1, u2, t18, rfl, hu1⟩, hk18⟩ h51
     replace hW := hW.kept hk18
     replace hg5 := hg5.kept hk18
     replace hv := hv.kept hk18
     replace hg2 := hg2.kept hk18
     replace hnW := Nat.le_trans hnW hk18.size
     replace hB := Kept.trans hB hk18
     replace hI42 := hI42.kept hk18
     replace hg7 := hg7.kept hk18
     refine mv h51 rfl rfl fun a52 h52 => ?_
     refine ext3_0 h52 rfl rfl fun a53 h53 => ?_
     refine ext3_1 h53 rfl rfl fun a54 h54 => ?_
     refine ext3_2 h54 rfl rfl fun a55 h55 => ?_
     refine asg h55 rfl rfl fun a56 h56 => ?_
     refine asg h56 rfl rfl fun a57 h57 => ?_
     refine asg h57 rfl rfl fun a58 h58 => ?_
     clear hK17 h40 h41 h42 h43 h44 h45 h46 h47 h48 h49 h50 h51 h52 h53 h54 h55 h56 h57 K17 a40 a41 a42 a43 a44 a45 a46 a47 a48 a49 a50 a51 a52 a53 a54 a55 a56 a57
     refine wpL_nil (hK18 _ _ ?_)
     refine reg [some 59, some 60, some 61, some 62, some 63, none] rfl ?_
     refine fab h58 rfl Try.underlying116 rfl Try.sizeOf114 rfl 2 rfl rfl fun a59 h59 => ?_
     refine ldb h59 hg7 rfl Try.isAgg114 rfl rfl fun a60 h60 => ?_
     refine mv h60 rfl rfl fun a61 h61 => ?_
     refine btos h61 rfl Try.underlying35 Try.underlying5 Try.underlying9 hu1 rfl fun a62 h62 => ?_
     refine nlc h62 rfl rfl fun a63 h63 => ?_
     refine stb h63 hg5 rfl rfl _ rfl Try.sizeOf9 (by simp [Value.oneCell']) _ (by have := word_place hx; simp [hdCells]; omega) rfl fun w19 hg5' hk19 => ?_
     replace hW := hW.but hk19 (by intro h; have := h.1; omega)
     clear hg5; have hg5 := hg5'; clear hg5'
     replace hv := hv.but hk19 (by first | (show ¬ (_ < _); omega) | (simp; omega))
     replace hg2 := hg2.but hk19 (by omega)
     replace hnW := Nat.le_trans hnW hk19.size
     replace hB := Kept.but hB hk19 (by omega)
     replace hI42 := hI42.but hk19 (by intro h; have := h.1; omega)
     rw [setS_cells _ _ hx] at hg5
     clear hK18 h58 h59 h60 h61 h62 K18 a58 a59 a60 a61 a62
     refine wpL_nil (hK16 _ _ ?_)
     refine reg [some 64, some 40] rfl ?_
     refine add h63 rfl rfl rfl (by omega) fun a64 h64 => ?_
     refine mv h64 rfl rfl fun a65 h65 => ?_
     clear hK16 h63 h64 K16 a63 a64
     refine wpL_nil ?_
     exact ⟨k + 1, ⟨_, _, _, (h65.cons' rfl (h65.cons' rfl (h65.cons' rfl (h65.cons' rfl (h65.cons' rfl (h65.cons' (lke rfl (by simp)) (h65.nil'))))))), by omega, hW, (by rw [dw_next hx]; exact hg5), hv, hg2, hgL, hnW, hB⟩, by omega⟩
    ·
     have hp4 := of_decide_eq_false hb4
     rw [dw_all (by have := of_decide_eq_false hb4; omega)] at hg5
     refine cdf h37 rfl hb4 ?_
     refine xit (hK12 _ _ ?_)
     refine sq fun K19 hK19 => ?_
     refine sq fun K20 hK20 => ?_
     refine reg [some 65, some 66, some 67] rfl ?_
     have hlg520 := hg5.lt
     have hlg220 := hg2.lt
     have hsz20 := hB.size
     refine cal h37 Try.call92 rfl (c_numbers _ _ _ hg5) rfl ?_
     rintro v20 w20 a66 ⟨hW20, hk20⟩ h66
     replace hg5 := hg5.kept hk20
     replace hv := hv.kept hk20
     replace hg2 := hg2.kept hk20
     replace hnW := Nat.le_trans hnW hk20.size
     replace hB := Kept.trans hB hk20
     replace hW20 := hW20.lt
     refine lnx h66 rfl Try.underlying119 rfl hW20.isl rfl fun a67 h67 => ?_
     refine mv h67 rfl rfl fun a68 h68 => ?_
     clear hK14 hK12 hK15 h37 h66 h67 K14 K12 K15 a37 a66 a67
     refine wpL_nil (hK20 _ _ ?_)
     refine blc ?_
     clear hK20 K20
     refine lp (fun (k : Nat) (a : Act) (W : World) => ∃ (vN : Value), ∃ (nL : Nat), ∃ (nW : Nat), Has [] 103 [(0, .slice Av b.length cv), (2, .pointer (some ⟨g2, 0, none⟩)), (5, .pointer (some ⟨g5, 0, none⟩)), (65, vN), (66, .int .i64 ((Pl.numsL t156).length : Int)), (67, .int .i64 (k : Int))] a ∧ (k ≤ (Pl.numsL t156).length) ∧ (Sts (wc g5) (fun b => nL ≤ b ∧ b < nW) W vN (Pl.numsL t156)) ∧ (Blk W g5 41 (hdCells (dn b t156 k))) ∧ (Byt (Lo w.heap.size) W (.slice Av b.length cv) b) ∧ (Blk W g2 41 (hdCells Pl.Hd.none)) ∧ (g5 < nL) ∧ (nW ≤ W.heap.size) ∧ (Kept w W)) (fun (k : Nat) => (Pl.numsL t156).length - k) (0) ⟨_, _, _, (h68.cons' rfl (h68.cons' rfl (h68.cons' rfl (h68.cons' rfl (h68.cons' (lke rfl (by rw [dw_typ])) (h68.cons' rfl (h68.nil'))))))), Nat.zero_le _, (by simpa only [dw_typ] using hW20), hg5, hv, hg2, (by assumption), Nat.le_refl _, hB⟩ ?_
     clear h68 hW20 hB hnW hgL hg2 hv hg5 hW hk
     rintro k a69 w21 ⟨vN, nL, nW, h69, hk, hW2, hg5, hv, hg2, hgL, hnW, hB⟩
     refine sq fun K21 hK21 => ?_
     refine reg [some 68] rfl ?_
     refine lss h69 rfl rfl rfl fun a70 h70 => ?_
     clear h69 a69
     refine wpL_nil (hK21 _ _ ?_)
     refine sq fun K22 hK22 => ?_
     refine spl h70 (d := 68) rfl (fun hb5 => ?_) (fun hb5 => ?_)
     ·
      have hp5 := of_decide_eq_true hb5
      obtain ⟨x, hx⟩ : ∃ x, (Pl.numsL t156)[k]? = some x := ⟨_, List.getElem?_eq_getElem (by have := of_decide_eq_true hb5; omega)⟩
      have hwl := nums_len t156
      have hxr := num_room hx
      refine cdt h70 rfl hb5 ?_
      refine skp (hK22 _ _ ?_)
      refine sq fun K23 hK23 => ?_
      refine blc ?_
      refine sq fun K24 hK24 => ?_
      refine reg [some 69, some 70, some 12, none] rfl ?_
      refine ixS (k := k) (wc_len _) hW2 h70 rfl rfl Try.underlying119 Try.sizeOf123 (by decide) (by simp) (hx) rfl fun a71 ad69 h71 hI69 => ?_
      refine ldS h71 hI69 rfl Try.isAgg123 Try.sizeOf123 rfl fun a72 h72 => ?_
      refine alc h72 Try.zeroValue123 rfl rfl fun a73 w22 g12 h73 hk22 hz12 hg12 => ?_
      have hneg5g12 := Nat.lt_of_lt_of_le hg5.lt hz12
      have hneg2g12 := Nat.lt_of_lt_of_le hg2.lt hz12
      have hNhnWg12 := Nat.le_trans hnW hz12
      have hleg12 := Nat.le_trans hB.size hz12
      replace hW2 := hW2.kept hk22
      replace hg5 := hg5.kept hk22
      replace hv := hv.kept hk22
      replace hg2 := hg2.kept hk22
      replace hnW := Nat.le_trans hnW hk22.size
      replace hB := Kept.trans hB hk22
      replace hI69 := hI69.kept hk22
      refine stb h73 hg12 rfl rfl _ rfl Try.sizeOf123 (by first | exact wc_one _ _ | exact hd_one _ | (simp [Value.oneCell']; done)) _ (by first | (simp [wc]; done) | (simp [hdCells]; done)) rfl fun w23 hg12' hk23 => ?_
      replace hW2 := hW2.but hk23 (by intro h; have := h.2; omega)
      replace hg5 := hg5.but hk23 (by omega)
      replace hv := hv.but hk23 (by first | (show ¬ (_ < _); omega) | (simp; omega))
      replace hg2 := hg2.but hk23 (by omega)
      replace hnW := Nat.le_trans hnW hk23.size
      replace hB := Kept.but hB hk23 (by omega)
      replace hI69 := hI69.but hk23 (by intro h; have := h.2; omega)
      clear hg12; have hg12 := hg12'; clear hg12'
      clear hK21 hK22 h70 h71 h72 K21 K22 a70 a71 a72
      refine wpL_nil (hK24 _ _ ?_)
      clear hK24 K24
      refine drwL h73 [some 72, some 73, some 74, some 75, some 76, some 77, some 78, some 79, some 80, some 81, some 82, some 83, some 71, some 84, some 85, some 86, none] rfl [Fx (.pointer (some ⟨g12, 2, none⟩)), Fx (.pointer (some ⟨g5, x.2.2, none⟩)), Fx (.slice Av b.length cv), Fx (.pointer (some ⟨g12, 0, none⟩)), Fx (.int .i64 (x.1 : Int)), Fx (.pointer (some ⟨g12, 0, none⟩)), Fx (.int .i64 (x.1 : Int)), Fx (.pointer (some ⟨g12, 1, none⟩)), Fx (.int .i64 (x.2.1 : Int)), Fx (.int .i64 ((x.1 : Int) + (x.2.1 : Int))), fun v w' => Byt (Lo w.heap.size) w' v ((b.take (x.1 + x.2.1)).drop x.1), Fx (numV (Pl.getN ((b.take (x.1 + x.2.1)).drop x.1))), Fx (numV (Pl.getN ((b.take (x.1 + x.2.1)).drop x.1))), Fx (.int .i64 ((Pl.getN ((b.take (x.1 + x.2.1)).drop x.1)).getD 0)), Fx (.bool (Pl.getN ((b.take (x.1 + x.2.1)).drop x.1)).isSome), Fx (.pointer (some ⟨g5, x.2.2, none⟩)), fun _ w' => Blk w' g5 41 (hdCells (Pl.setN (dn b t156 k) x.2.2 ((Pl.getN ((b.take (x.1 + x.2.1)).drop x.1)).getD 0)))] Kept (But g5) 16 [true, true, true, true, true, true, true, true, true, true, true, true, true, true, false, true, true] rfl rfl rfl rfl rfl rfl (drewKept _) keptT (fun _ _ _ h k => But.trans (Kept.toBut h _) k) (fun _ _ _ h k => But.trans h (Kept.toBut k _)) (fun _ _ h => Kept.toBut h _) ((mcons mfx (mcons mfx (mcons mfx (mcons mfx (mcons mfx (mcons mfx (mcons mfx (mcons mfx (mcons mfx (mcons mfx (mcons (fun v w w' hk h => h.kept hk) (mcons mfx (mcons mfx (mcons mfx (mcons mfx (mcons mfx (mcons (fun v w w' hk h => h.kept hk) mnil)))))))))))))))))) (MonoX.all (mconsX (fun _ => mfx) (mconsX (fun _ => mfx) (mconsX (fun _ => mfx) (mconsX (fun _ => mfx) (mconsX (fun _ => mfx) (mconsX (fun _ => mfx) (mconsX (fun _ => mfx) (mconsX (fun _ => mfx) (mconsX (fun _ => mfx) (mconsX (fun _ => mfx) (mconsX (fun _ => (fun v w w' hk h => h.but hk (by show ¬ (_ < _); omega))) (mconsX (fun _ => mfx) (mconsX (fun _ => mfx) (mconsX (fun _ => mfx) (mconsX (fun _ => mfx) (mconsX (fun _ => mfx) (mconsX (fun h => absurd rfl h) mnilX)))))))))))))))))) ⟨?_, ?_, ?_, ?_, ?_, ?_, ?_, ?_, ?_, ?_, ?_, ?_, ?_, ?_, ?_, ?_, ?_, trivial⟩ ?_
      ·
       intro L a w_ hH hb hR hd ho
       have hl12 := hb 12 _ rfl
       replace hR : Kept w23 w_ := hR
       refine fab hH hl12 Try.underlying123 rfl Try.sizeOf121 rfl 2 rfl rfl fun a74 h74 => ?_
       exact wpL_nil ⟨_, h74, Kept.refl _, rfl⟩
      ·
       intro L a w_ hH hb hR hd ho
       obtain ⟨_, hl72, rfl⟩ := hd 0 rfl
       replace hR : Kept w23 w_ := hR
       replace hg12 := hg12.kept hR
       refine ldb hH hg12 hl72 Try.isAgg121 rfl rfl fun a75 h75 => ?_
       exact wpL_nil ⟨_, h75, Kept.refl _, rfl⟩
      ·
       intro L a w_ hH hb hR hd ho
       have hl0 := hb 0 _ rfl
       replace hR : Kept w23 w_ := hR
       refine mv hH hl0 rfl fun a76 h76 => ?_
       exact wpL_nil ⟨_, h76, Kept.refl _, rfl⟩
      ·
       intro L a w_ hH hb hR hd ho
       have hl12 := hb 12 _ rfl
       replace hR : Kept w23 w_ := hR
       refine fab hH hl12 Try.underlying123 rfl Try.sizeOf3 rfl 0 rfl rfl fun a77 h77 => ?_
       exact wpL_nil ⟨_, h77, Kept.refl _, rfl⟩
      ·
       intro L a w_ hH hb hR hd ho
       obtain ⟨_, hl75, rfl⟩ := hd 3 rfl
       replace hR : Kept w23 w_ := hR
       replace hg12 := hg12.kept hR
       refine ldb hH hg12 hl75 Try.isAgg3 rfl rfl fun a78 h78 => ?_
       exact wpL_nil ⟨_, h78, Kept.refl _, rfl⟩
      ·
       intro L a w_ hH hb hR hd ho
       have hl12 := hb 12 _ rfl
       replace hR : Kept w23 w_ := hR
       refine fab hH hl12 Try.underlying123 rfl Try.sizeOf3 rfl 0 rfl rfl fun a79 h79 => ?_
       exact wpL_nil ⟨_, h79, Kept.refl _, rfl⟩
      ·
       intro L a w_ hH hb hR hd ho
       obtain ⟨_, hl77, rfl⟩ := hd 5 rfl
       replace hR : Kept w23 w_ := hR
       replace hg12 := hg12.kept hR
       refine ldb hH hg12 hl77 Try.isAgg3 rfl rfl fun a80 h80 => ?_
       exact wpL_nil ⟨_, h80, Kept.refl _, rfl⟩
      ·
       intro L a w_ hH hb hR hd ho
       have hl12 := hb 12 _ rfl
       replace hR : Kept w23 w_ := hR
       refine fab hH hl12 Try.underlying123 rfl Try.sizeOf3 rfl 1 rfl rfl fun a81 h81 => ?_
       exact wpL_nil ⟨_, h81, Kept.refl _, rfl⟩
      ·
       intro L a w_ hH hb hR hd ho
       obtain ⟨_, hl79, rfl⟩ := hd 7 rfl
       replace hR : Kept w23 w_ := hR
       replace hg12 := hg12.kept hR
       refine ldb hH hg12 hl79 Try.isAgg3 rfl rfl fun a82 h82 => ?_
       exact wpL_nil ⟨_, h82, Kept.refl _, rfl⟩
      ·
       intro L a w_ hH hb hR hd ho
       obtain ⟨_, hl78, rfl⟩ := hd 6 rfl
       obtain ⟨_, hl80, rfl⟩ := hd 8 rfl
       replace hR : Kept w23 w_ := hR
       refine add hH hl78 hl80 rfl (by omega) fun a83 h83 => ?_
       exact wpL_nil ⟨_, h83, Kept.refl _, rfl⟩
      ·
       intro L a w_ hH hb hR hd ho
       obtain ⟨_, hl74, rfl⟩ := hd 2 rfl
       obtain ⟨_, hl76, rfl⟩ := hd 4 rfl
       obtain ⟨_, hl81, rfl⟩ := hd 9 rfl
       replace hR : Kept w23 w_ := hR
       replace hv := hv.kept hR
       refine slB (x.1) (x.1 + x.2.1) hv hH Try.underlying35 hl74 Try.sizeOf5 ⟨_, hl76, by first | omega | (simp; omega)⟩ ⟨_, hl81, by first | omega | (simp; omega)⟩ (by omega) (by omega) rfl fun a84 v82' h84 hs82 => ?_
       exact wpL_nil ⟨_, h84, Kept.refl _, hs82⟩
      ·
       intro L a w_ hH hb hR hd ho
       obtain ⟨v82, hl82, hf82⟩ := hd 10 rfl
       replace hR : Kept w23 w_ := hR
       refine cal hH Try.call93 (evs1 hl82) (c_numGet _ _ _ hf82) rfl ?_
       rintro v24 w24 a85 ⟨rfl, hk24⟩ h85
       exact wpL_nil ⟨_, h85, hk24, rfl⟩
      ·
       intro L a w_ hH hb hR hd ho
       obtain ⟨_, hl83, rfl⟩ := hd 11 rfl
       replace hR : Kept w23 w_ := hR
       refine mv hH hl83 rfl fun a86 h86 => ?_
       exact wpL_nil ⟨_, h86, Kept.refl _, rfl⟩
      ·
       intro L a w_ hH hb hR hd ho
       obtain ⟨_, hl71, rfl⟩ := hd 12 rfl
       replace hR : Kept w23 w_ := hR
       refine ext2_0 hH hl71 rfl fun a87 h87 => ?_
       exact wpL_nil ⟨_, h87, Kept.refl _, rfl⟩
      ·
       intro L a w_ hH hb hR hd ho
       obtain ⟨_, hl71, rfl⟩ := hd 12 rfl
       replace hR : But g5 w23 w_ := hR
       refine ext2_1 hH hl71 rfl fun a88 h88 => ?_
       exact wpL_nil ⟨_, h88, Kept.refl _, rfl⟩
      ·
       intro L a w_ hH hb hR hd ho
       obtain ⟨_, hl73, rfl⟩ := hd 1 rfl
       replace hR : Kept w23 w_ := hR
       refine nlc hH hl73 rfl fun a89 h89 => ?_
       exact wpL_nil ⟨_, h89, Kept.refl _, rfl⟩
      ·
       intro L a w_ hH hb hR hd ho
       obtain ⟨_, hl86, rfl⟩ := hd 15 rfl
       obtain ⟨_, hl84, rfl⟩ := hd 13 rfl
       replace hR : Kept w23 w_ := hR
       replace hg5 := hg5.kept hR
       refine stb hH hg5 hl86 hl84 _ rfl Try.sizeOf3 (by simp [Value.oneCell']) _ (by have := num_place hx; simp [hdCells]; omega) rfl fun w25 hg5' hk25 => ?_
       rw [setN_cells _ _ hx] at hg5'
       exact wpL_nil ⟨undef, hH, hk25, hg5'⟩
      intro L26 a90 w26 h90 hbh90 hRh90 hdh90
      obtain ⟨_, hl72, rfl⟩ := hdh90 0 (by decide)
      obtain ⟨_, hl73, rfl⟩ := hdh90 1 (by decide)
      obtain ⟨_, hl74, rfl⟩ := hdh90 2 (by decide)
      obtain ⟨_, hl75, rfl⟩ := hdh90 3 (by decide)
      obtain ⟨_, hl76, rfl⟩ := hdh90 4 (by decide)
      obtain ⟨_, hl77, rfl⟩ := hdh90 5 (by decide)
      obtain ⟨_, hl78, rfl⟩ := hdh90 6 (by decide)
      obtain ⟨_, hl79, rfl⟩ := hdh90 7 (by decide)
      obtain ⟨_, hl80, rfl⟩ := hdh90 8 (by decide)
      obtain ⟨_, hl81, rfl⟩ := hdh90 9 (by decide)
      obtain ⟨v82, hl82, hf82⟩ := hdh90 10 (by decide)
      obtain ⟨_, hl83, rfl⟩ := hdh90 11 (by decide)
      obtain ⟨_, hl71, rfl⟩ := hdh90 12 (by decide)
      obtain ⟨_, hl84, rfl⟩ := hdh90 13 (by decide)
      obtain ⟨_, hl85, rfl⟩ := hdh90 14 (by decide)
      obtain ⟨_, hl86, rfl⟩ := hdh90 15 (by decide)
      have hs16 := hdh90 16 (by decide)
      have h91 := Has.under h90 hbh90
      have h92 := (h90.add hl86 (h90.add hl85 (h90.add hl84 (h90.add hl71 (h90.add hl83 (h90.add hl82 (h90.add hl81 (h90.add hl80 (h90.add hl79 (h90.add hl78 (h90.add hl77 (h90.add hl76 (h90.add hl75 (h90.add hl74 (h90.add hl73 (h90.add hl72 h91))))))))))))))))
      clear h91 hl72 hl73 hl74 hl75 hl76 hl77 hl78 hl79 hl80 hl81 hl82 hl83 hl71 hl84 hl85 hl86 hbh90 hdh90
      have hg5' := hs16
      replace hW2 := hW2.but hRh90 (by intro h; have := h.1; omega)
      clear hg5; have hg5 := hg5'; clear hg5'
      replace hv := hv.but hRh90 (by first | (show ¬ (_ < _); omega) | (simp; omega))
      replace hg2 := hg2.but hRh90 (by omega)
      replace hnW := Nat.le_trans hnW hRh90.size
      replace hB := Kept.but hB hRh90 (by omega)
      replace hI69 := hI69.but hRh90 (by intro h; have := h.1; omega)
      refine hK23 _ _ ?_
      refine reg [some 87, some 67] rfl ?_
      refine add h92 rfl rfl rfl (by omega) fun a93 h93 => ?_
      refine mv h93 rfl rfl fun a94 h94 => ?_
      clear hK23 h92 h93 K23 a93
      refine wpL_nil ?_
      exact ⟨k + 1, ⟨_, _, _, (h94.cons' rfl (h94.cons' rfl (h94.cons' rfl (h94.cons' rfl (h94.cons' rfl (h94.cons' (lke rfl (by simp)) (h94.nil'))))))), by omega, hW2, (by rw [dn_next hx]; exact hg5), hv, hg2, hgL, hnW, hB⟩, by omega⟩
     ·
      have hp5 := of_decide_eq_false hb5
      rw [dn_all hx156 (by have := of_decide_eq_false hb5; omega)] at hg5
      refine cdf h70 rfl hb5 ?_
      refine xit (hK19 _ _ ?_)
      refine sq fun K25 hK25 => ?_
      refine sq fun K26 hK26 => ?_
      refine reg [some 89, some 90, some 88, some 91, some 92, some 13, some 14] rfl ?_
      refine ldbn h70 hg5 (hdCells (Pl.decH b)) rfl Try.isAgg41 Try.sizeOf41 rfl rfl fun a95 h95 => ?_
      have hlg527 := hg5.lt
      have hlg227 := hg2.lt
      have hsz27 := hB.size
      refine cal h95 Try.call77 rfl (c_headPut (Pl.decH b) _ (decH_range b)) rfl ?_
      rintro v27 w27 a96 ⟨⟨qp, rfl, hqp⟩, hk27⟩ h96
      replace hg5 := hg5.kept hk27
      replace hv := hv.kept hk27
      replace hg2 := hg2.kept hk27
      replace hnW := Nat.le_trans hnW hk27.size
      replace hB := Kept.trans hB hk27
      replace hqp := hqp.lt
      refine mv h96 rfl rfl fun a97 h97 => ?_
      refine ext2_0 h97 rfl rfl fun a98 h98 => ?_
      refine ext2_1 h98 rfl rfl fun a99 h99 => ?_
      refine asg h99 rfl rfl fun a100 h100 => ?_
      refine asg h100 rfl rfl fun a101 h101 => ?_
      clear hK21 hK19 hK22 h70 h95 h96 h97 h98 h99 h100 K21 K19 K22 a70 a95 a96 a97 a98 a99 a100
      refine wpL_nil (hK26 _ _ ?_)
      refine sq fun K27 hK27 => ?_
      refine reg [some 93, some 94, some 95, some 96, some 97, some 98, some 99, some 100] rfl ?_
      refine mv h101 rfl rfl fun a102 h102 => ?_
      refine unot h102 rfl rfl fun a103 h103 => ?_
      refine mv h103 rfl rfl fun a104 h104 => ?_
      refine spl h104 (d := 95) rfl (fun hb7 => ?_) (fun hb7 => ?_)
      ·
       refine goff h104 (d := 95) rfl rfl (bnf (bunt hb7)) rfl fun a105 h105 => ?_
       refine goff h105 (d := 95) rfl rfl (bnf (bunt hb7)) rfl fun a106 h106 => ?_
       refine goff h106 (d := 95) rfl rfl (bnf (bunt hb7)) rfl fun a107 h107 => ?_
       refine goff h107 (d := 95) rfl rfl (bnf (bunt hb7)) rfl fun a108 h108 => ?_
       refine pkt h108 rfl (bnf (bunt hb7)) rfl rfl fun a109 h109 => ?_
       clear hK26 h101 h102 h103 h104 h105 h106 h107 h108 K26 a101 a102 a103 a104 a105 a106 a107 a108
       refine wpL_nil (hK27 _ _ ?_)
       refine cdt h109 rfl rfl ?_
       refine sq fun K28 hK28 => ?_
       refine reg [some 101, none, some 3] rfl ?_
       refine bld h109 rfl (bld41_) rfl fun a110 h110 => ?_
       refine stb h110 hg2 rfl rfl _ rfl Try.sizeOf41 (by first | exact wc_one _ _ | exact hd_one _ | (simp [Value.oneCell']; done)) _ (by first | (simp [wc]; done) | (simp [hdCells]; done)) rfl fun w28 hg2' hk28 => ?_
       clear hg2; have hg2 := hg2'; clear hg2'
       replace hnW := Nat.le_trans hnW hk28.size
       replace hB := Kept.but hB hk28 (by omega)
       refine asg h110 rfl rfl fun a111 h111 => ?_
       clear hK27 h109 h110 K27 a109 a110
       refine wpL_nil (hK28 _ _ ?_)
       refine rtn (leave h111 (res2 h111 rfl (rva (hdCells Pl.Hd.none) hg2 rfl Try.isAgg41 Try.sizeOf41 rfl) (rvt rfl)) ?_)
       exact ⟨_, rfl, by rw [get_form hlen hb2 hp9001 (put_ne (bunt hb7))]; rfl, hB⟩
      ·
       refine gon h104 (d := 95) rfl rfl (bnt (bunf hb7)) ?_
       refine mv h104 rfl rfl fun a112 h112 => ?_
       refine gon h112 (d := 95) rfl rfl (bnt (bunf hb7)) ?_
       refine mv h112 rfl rfl fun a113 h113 => ?_
       refine gon h113 (d := 95) rfl rfl (bnt (bunf hb7)) ?_
       refine cal h113 Try.call88 rfl (c_bEqual _ _ _ _ _ hqp hv) rfl ?_
       rintro v29 w29 a114 ⟨rfl, rfl⟩ h114
       refine gon h114 (d := 95) rfl rfl (bnt (bunf hb7)) ?_
       refine unot h114 rfl rfl fun a115 h115 => ?_
       refine pkf h115 rfl (bnt (bunf hb7)) rfl rfl fun a116 h116 => ?_
       clear hK26 h101 h102 h103 h104 h112 h113 h114 h115 K26 a101 a102 a103 a104 a112 a113 a114 a115
       refine wpL_nil (hK27 _ _ ?_)
       refine spl h116 (d := 100) rfl (fun hb8 => ?_) (fun hb8 => ?_)
       ·
        refine cdt h116 rfl (bnf (bunt hb8)) ?_
        refine sq fun K29 hK29 => ?_
        refine reg [some 101, none, some 3] rfl ?_
        refine bld h116 rfl (bld41_) rfl fun a117 h117 => ?_
        refine stb h117 hg2 rfl rfl _ rfl Try.sizeOf41 (by first | exact wc_one _ _ | exact hd_one _ | (simp [Value.oneCell']; done)) _ (by first | (simp [wc]; done) | (simp [hdCells]; done)) rfl fun w30 hg2' hk30 => ?_
        clear hg2; have hg2 := hg2'; clear hg2'
        replace hnW := Nat.le_trans hnW hk30.size
        replace hB := Kept.but hB hk30 (by omega)
        refine asg h117 rfl rfl fun a118 h118 => ?_
        clear hK27 h116 h117 K27 a116 a117
        refine wpL_nil (hK29 _ _ ?_)
        refine rtn (leave h118 (res2 h118 rfl (rva (hdCells Pl.Hd.none) hg2 rfl Try.isAgg41 Try.sizeOf41 rfl) (rvt rfl)) ?_)
        exact ⟨_, rfl, by rw [get_form hlen hb2 hp9001 (put_ne2 (of_decide_eq_false (bunt hb8)))]; rfl, hB⟩
       ·
        refine cdf h116 rfl (bnt (bunf hb8)) ?_
        refine skp (hK25 _ _ ?_)
        refine sq fun K30 hK30 => ?_
        refine reg [some 102, none, some 3] rfl ?_
        refine ldbn h116 hg5 (hdCells (Pl.decH b)) rfl Try.isAgg41 Try.sizeOf41 rfl rfl fun a119 h119 => ?_
        refine stb h119 hg2 rfl rfl _ rfl Try.sizeOf41 (by first | exact wc_one _ _ | exact hd_one _ | (simp [Value.oneCell']; done)) _ (by first | (simp [wc]; done) | (simp [hdCells]; done)) rfl fun w31 hg2' hk31 => ?_
        clear hg2; have hg2 := hg2'; clear hg2'
        replace hnW := Nat.le_trans hnW hk31.size
        replace hB := Kept.but hB hk31 (by omega)
        refine asg h119 rfl rfl fun a120 h120 => ?_
        clear hK27 hK25 h116 h119 K27 K25 a116 a119
        refine wpL_nil (hK30 _ _ ?_)
        refine rtn (leave h120 (res2 h120 rfl (rva (hdCells (Pl.decH b)) hg2 rfl Try.isAgg41 Try.sizeOf41 rfl) (rvt rfl)) ?_)
        exact ⟨_, rfl, by rw [get_ok hlen hb2 hp9001 (put_eq (bunf hb7) (of_decide_eq_true (bunf hb8)))]; rfl, hB⟩

end Go.Proofs.Ytpgeogdmjgmimaa
