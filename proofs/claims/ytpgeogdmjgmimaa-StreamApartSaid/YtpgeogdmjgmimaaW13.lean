/-
  Walks, written by wip/gen/gen.py.
-/
import Derived.Test.YtpgeogdmjgmimaaW12
import Derived.Test.YtpgeogdmjgmimaaPLong
set_option linter.unusedVariables false
set_option linter.unusedSimpArgs false
set_option maxRecDepth 4000
namespace Go.Proofs.Ytpgeogdmjgmimaa
open Go Go.RowKit K

/-- A literal's value. -/
theorem bld41_0_6_8 (x0 : ByteArray) (x6 : Int) (x8 : Int) (w : World) : (Instr.build 41 [(0, (.string x0)), (6, (.int .i64 x6)), (8, (.int .u8 x8))].toArray).run Try.prog w = .ok (.agg #[.string x0, str [], str [], .int .i64 0, .int .i64 0, .int .i64 0, .int .i64 x6, .int .i64 0, .int .u8 x8, .int .i64 0, .int .i64 0]) w := by kernel_rfl
/-- A literal's value. -/
theorem bsl2_158_0_1 (x0 : Option Addr) (y0 z0 : Nat) (x1 : Option Addr) (y1 z1 : Nat) (w : World) : (Instr.buildSlice 158 2 [(0, (.slice x0 y0 z0)), (1, (.slice x1 y1 z1))].toArray).run Try.prog w = .ok (.slice (some ⟨w.heap.size, 0, none⟩) 2 2) (w.alloc (.cells [.slice x0 y0 z0, .slice x1 y1 z1].toArray 25)) := by kernel_rfl
def ndCells (n : Pl.Nd) : List Value := [str n.path, str n.link, u8 n.kind, .int .i64 n.mode, .int .i64 n.uid, .int .i64 n.gid, .int .i64 n.mtime, str n.data]
def ndV (n : Pl.Nd) : Value := .agg (ndCells n).toArray
theorem typ75 {t : UInt8} : decide ((t.toNat : Int) = 75) = decide (t = 75) := by
  rw [decide_eq_decide]; constructor
  · intro h; exact UInt8.toNat_inj.1 (by show t.toNat = 75; omega)
  · rintro rfl; rfl
theorem typ76 {t : UInt8} : decide ((t.toNat : Int) = 76) = decide (t = 76) := by
  rw [decide_eq_decide]; constructor
  · intro h; exact UInt8.toNat_inj.1 (by show t.toNat = 76; omega)
  · rintro rfl; rfl
def longOk (kind : UInt8) (s : List UInt8) : Bool := (decide (kind = 75) || decide (kind = 76)) && Pl.longText s
theorem long_no {kind : UInt8} {s : List UInt8} (h : longOk kind s = false) : Pl.longPut kind s = none := by
  unfold Pl.longPut; rw [if_neg]; intro e; simp [longOk, e.2] at h; rcases e.1 with e | e <;> simp [e] at h
theorem long_yes {kind : UInt8} {s : List UInt8} (h : longOk kind s = true) : Pl.longPut kind s = some ([(Pl.putH (Pl.longHead kind s)).getD []] ++ Pl.cutB (s ++ [0])) := by
  unfold Pl.longPut; rw [if_pos]; simp [longOk] at h; exact h
theorem long_len {s : List UInt8} (h : Pl.longText s = true) : s.length ≤ 300 := by simp [Pl.longText] at h; omega
theorem longHead_range {kind : UInt8} {s : List UInt8} (h : s.length ≤ 300) : HdR (Pl.longHead kind s) := by
  intro q; unfold Pl.hN Pl.longHead Pl.Hd.none; split <;> simp <;> omega
theorem cutB_len {s : List UInt8} : (Pl.cutB s).length = Pl.nch s.length := by simp [Pl.cutB, Pl.chunks]
def NdL (n : Pl.Nd) : Prop := n.path.length ≤ 1000000 ∧ n.link.length ≤ 1000000 ∧ n.data.length ≤ 1000000
def needsV (q : Bool × Bool) : Value := .tuple #[.bool q.1, .bool q.2]
def namesV (q : List UInt8 × List UInt8 × List UInt8) : Value := .tuple #[str q.1, str q.2.1, str q.2.2]
theorem ahead_flat (a b : List (List UInt8)) : [a, b].flatten = a ++ b := by simp
theorem nch_le {m : Nat} (h : m ≤ 1000001) : Pl.nch m ≤ 2000 := by unfold Pl.nch; omega
theorem aheadPart_len (t : Bool) (k : UInt8) (s : List UInt8) (h : s.length ≤ 1000000) : (Pl.aheadPart t k s).length ≤ 2001 := by
  unfold Pl.aheadPart Pl.longPut
  split
  · split
    · have := nch_le (m := (s ++ [0]).length) (by simp; omega)
      simp only [Option.getD_some, List.length_append, cutB_len] at this ⊢; simp at this ⊢; omega
    · simp
  · simp

/-- long.Text -/
theorem c_longText (s : List UInt8) (w : World) :
  C Try.prog 35 [str s] w fun v w' => v = .bool (Pl.longText s) ∧ w = w' := by
 refine enterE Try.func35 rfl 15 rfl rfl fun a0 h0 => ?_
 have hB := Kept.refl w
 refine sq fun K1 hK1 => ?_
 refine reg [some 2] rfl ?_
 refine asg h0 rfl rfl fun a1 h1 => ?_
 clear h0 a0
 refine wpL_nil (hK1 _ _ ?_)
 refine sq fun K2 hK2 => ?_
 refine reg [some 3, some 4, some 5, some 6, some 7, some 8, some 9, some 10, some 11, some 12, some 13, some 14, some 2] rfl ?_
 refine mv h1 rfl rfl fun a2 h2 => ?_
 refine sneq h2 rfl rfl rfl fun a3 h3 => ?_
 refine mv h3 rfl rfl fun a4 h4 => ?_
 refine spl h4 (d := 5) rfl (fun hb1 => ?_) (fun hb1 => ?_)
 ·
  have hp1 := of_decide_eq_false (bunt hb1)
  refine gon h4 (d := 5) rfl rfl (bnf (bunt hb1)) ?_
  refine mv h4 rfl rfl fun a5 h5 => ?_
  refine gon h5 (d := 5) rfl rfl (bnf (bunt hb1)) ?_
  refine lens h5 rfl Try.underlying9 rfl rfl fun a6 h6 => ?_
  refine gon h6 (d := 5) rfl rfl (bnf (bunt hb1)) ?_
  refine leq h6 rfl rfl rfl fun a7 h7 => ?_
  refine pkt h7 rfl (bnf (bunt hb1)) rfl rfl fun a8 h8 => ?_
  refine mv h8 rfl rfl fun a9 h9 => ?_
  refine spl h9 (d := 10) rfl (fun hb2 => ?_) (fun hb2 => ?_)
  ·
   have hp2 := of_decide_eq_true hb2
   refine gon h9 (d := 10) rfl rfl hb2 ?_
   refine mv h9 rfl rfl fun a10 h10 => ?_
   refine gon h10 (d := 10) rfl rfl hb2 ?_
   refine cal h10 Try.call87 rfl (c_indexByte _ 0 _) rfl ?_
   rintro v1 w1 a11 ⟨rfl, rfl⟩ h11
   refine gon h11 (d := 10) rfl rfl hb2 ?_
   refine lss h11 rfl rfl rfl fun a12 h12 => ?_
   refine pkt h12 rfl hb2 rfl rfl fun a13 h13 => ?_
   refine asg h13 rfl rfl fun a14 h14 => ?_
   clear hK1 h1 h2 h3 h4 h5 h6 h7 h8 h9 h10 h11 h12 h13 K1 a1 a2 a3 a4 a5 a6 a7 a8 a9 a10 a11 a12 a13
   refine wpL_nil (hK2 _ _ ?_)
   refine rtn (leave h14 (res1 h14 rfl (rvt rfl)) ?_)
   exact ⟨_, rfl, by simp [Pl.longText, *], rfl⟩
  ·
   have hp2 := of_decide_eq_false hb2
   refine goff h9 (d := 10) rfl rfl hb2 rfl fun a15 h15 => ?_
   refine goff h15 (d := 10) rfl rfl hb2 rfl fun a16 h16 => ?_
   refine goff h16 (d := 10) rfl rfl hb2 rfl fun a17 h17 => ?_
   refine pkf h17 rfl hb2 rfl rfl fun a18 h18 => ?_
   refine asg h18 rfl rfl fun a19 h19 => ?_
   clear hK1 h1 h2 h3 h4 h5 h6 h7 h8 h9 h15 h16 h17 h18 K1 a1 a2 a3 a4 a5 a6 a7 a8 a9 a15 a16 a17 a18
   refine wpL_nil (hK2 _ _ ?_)
   refine rtn (leave h19 (res1 h19 rfl (rvt rfl)) ?_)
   exact ⟨_, rfl, by simp [Pl.longText, *], rfl⟩
 ·
  have hp1 := of_decide_eq_true (bunf hb1)
  refine goff h4 (d := 5) rfl rfl (bnt (bunf hb1)) rfl fun a20 h20 => ?_
  refine goff h20 (d := 5) rfl rfl (bnt (bunf hb1)) rfl fun a21 h21 => ?_
  refine goff h21 (d := 5) rfl rfl (bnt (bunf hb1)) rfl fun a22 h22 => ?_
  refine pkf h22 rfl (bnt (bunf hb1)) rfl rfl fun a23 h23 => ?_
  refine mv h23 rfl rfl fun a24 h24 => ?_
  refine goff h24 (d := 10) rfl rfl rfl rfl fun a25 h25 => ?_
  refine goff h25 (d := 10) rfl rfl rfl rfl fun a26 h26 => ?_
  refine goff h26 (d := 10) rfl rfl rfl rfl fun a27 h27 => ?_
  refine pkf h27 rfl rfl rfl rfl fun a28 h28 => ?_
  refine asg h28 rfl rfl fun a29 h29 => ?_
  clear hK1 h1 h2 h3 h4 h20 h21 h22 h23 h24 h25 h26 h27 h28 K1 a1 a2 a3 a4 a20 a21 a22 a23 a24 a25 a26 a27 a28
  refine wpL_nil (hK2 _ _ ?_)
  refine rtn (leave h29 (res1 h29 rfl (rvt rfl)) ?_)
  exact ⟨_, rfl, by simp [Pl.longText, *], rfl⟩

/-- long.Names$1 -/
theorem c_short (s : List UInt8) (w : World) :
  C Try.prog 136 [str s] w fun v w' => v = str (Pl.short s) ∧ w = w' := by
 refine enterE Try.func136 rfl 8 rfl rfl fun a0 h0 => ?_
 have hB := Kept.refl w
 refine sq fun K1 hK1 => ?_
 refine reg [some 2] rfl ?_
 refine asg h0 rfl rfl fun a1 h1 => ?_
 clear h0 a0
 refine wpL_nil (hK1 _ _ ?_)
 refine sq fun K2 hK2 => ?_
 refine reg [some 3, some 4, some 5, some 6, some 7, some 2] rfl ?_
 refine mv h1 rfl rfl fun a2 h2 => ?_
 refine mv h2 rfl rfl fun a3 h3 => ?_
 refine lens h3 rfl Try.underlying9 rfl rfl fun a4 h4 => ?_
 refine minv h4 rfl rfl rfl fun a5 h5 => ?_
 refine slct (min s.length 100) h5 Try.underlying9 rfl ⟨_, rfl, by first | omega | (simp; omega)⟩ (by omega) rfl fun a6 h6 => ?_
 refine asg h6 rfl rfl fun a7 h7 => ?_
 clear hK1 h1 h2 h3 h4 h5 h6 K1 a1 a2 a3 a4 a5 a6
 refine wpL_nil (hK2 _ _ ?_)
 refine rtn (leave h7 (res1 h7 rfl (rvt rfl)) ?_)
 exact ⟨_, rfl, rfl, rfl⟩

/-- long.Put -/
theorem c_longPut (kind : UInt8) (s : List UInt8) (w : World) (hs : s.length ≤ 4611686018427387904) :
  C Try.prog 34 [u8 kind, str s] w fun v w' => (∃ q, v = .tuple #[q, .bool (Pl.longPut kind s).isSome] ∧ Rws (fun b => w.heap.size ≤ b) w' q ((Pl.longPut kind s).getD [])) ∧ Kept w w' := by
 refine enterE Try.func34 rfl 35 rfl rfl fun a0 h0 => ?_
 have hB := Kept.refl w
 refine sq fun K1 hK1 => ?_
 refine reg [some 4, some 5] rfl ?_
 refine asg h0 rfl rfl fun a1 h1 => ?_
 refine asg h1 rfl rfl fun a2 h2 => ?_
 clear h0 h1 a0 a1
 refine wpL_nil (hK1 _ _ ?_)
 refine sq fun K2 hK2 => ?_
 refine sq fun K3 hK3 => ?_
 refine reg [some 8, some 9, some 10, some 11, some 12, some 13, some 14, some 15, some 16, some 17, some 18] rfl ?_
 clear hK1 K1
 refine jn h2 (K := K3) 18 (.bool (!longOk kind s)) (fun W => w = W) ?_ ?_
 ·
  rintro a3 w1 h3 rfl
  refine hK3 _ _ ?_
  refine spl h3 (d := 18) rfl (fun hb1 => ?_) (fun hb1 => ?_)
  ·
   refine cdt h3 rfl hb1 ?_
   refine sq fun K4 hK4 => ?_
   refine reg [some 4, some 5] rfl ?_
   refine asg h3 rfl rfl fun a4 h4 => ?_
   refine asg h4 rfl rfl fun a5 h5 => ?_
   clear hK3 h3 h4 K3 a3 a4
   refine wpL_nil (hK4 _ _ ?_)
   refine rtn (leave h5 (res2 h5 rfl (rvt rfl) (rvt rfl)) ?_)
   exact ⟨_, rfl, ⟨_, by rw [long_no (bunt hb1)]; rfl, by rw [long_no (bunt hb1)]; exact Rws.nil _ _⟩, hB⟩
  ·
   have hlo := bunf hb1
   have hsl : s.length ≤ 300 := long_len (by unfold longOk at hlo; simp only [Bool.and_eq_true] at hlo; exact hlo.2)
   refine cdf h3 rfl hb1 ?_
   refine skp (hK2 _ _ ?_)
   refine sq fun K5 hK5 => ?_
   refine reg [some 20, some 21, some 22, some 23, some 24, some 25, some 19, some 26, some 27, some 6, some 7] rfl ?_
   refine mv h3 rfl rfl fun a6 h6 => ?_
   refine lens h6 rfl Try.underlying9 rfl rfl fun a7 h7 => ?_
   refine add h7 rfl rfl rfl (by omega) fun a8 h8 => ?_
   refine mv h8 rfl rfl fun a9 h9 => ?_
   refine bld h9 rfl (bld41_0_6_8 _ _ _) rfl fun a10 h10 => ?_
   have hsz2 := hB.size
   refine cal h10 Try.call77 rfl (c_headPut (Pl.longHead kind s) _ (longHead_range hsl)) rfl ?_
   rintro v2 w2 a11 ⟨⟨q2, rfl, hq2⟩, hk2⟩ h11
   replace hB := Kept.trans hB hk2
   replace hq2 := hq2.lt
   obtain ⟨Aq2, cq2, rfl⟩ := hq2.isl
   refine mv h11 rfl rfl fun a12 h12 => ?_
   refine ext2_0 h12 rfl rfl fun a13 h13 => ?_
   refine ext2_1 h13 rfl rfl fun a14 h14 => ?_
   refine asg h14 rfl rfl fun a15 h15 => ?_
   refine asg h15 rfl rfl fun a16 h16 => ?_
   clear hK3 hK2 h3 h6 h7 h8 h9 h10 h11 h12 h13 h14 h15 K3 K2 a3 a6 a7 a8 a9 a10 a11 a12 a13 a14 a15
   refine wpL_nil (hK5 _ _ ?_)
   refine sq fun K6 hK6 => ?_
   refine reg [some 28, some 29, some 30, some 31, some 32, some 33, some 34, some 4, some 5] rfl ?_
   refine mv h16 rfl rfl fun a17 h17 => ?_
   refine bsl h17 rfl (bsl1_25_0 _ _ _) rfl fun a18 w3 g29 h18 hk3 hz29 hg29 => ?_
   have hleg29 := Nat.le_trans hB.size hz29
   replace hB := Kept.trans hB hk3
   replace hq2 := hq2.kept hk3
   refine mv h18 rfl rfl fun a19 h19 => ?_
   refine sadd h19 rfl rfl rfl (by simp; omega) fun a20 h20 => ?_
   have hsz4 := hB.size
   have hlg294 := hg29.lt
   refine cal h20 Try.call80 rfl (c_cutB _ _ (by simp; omega)) rfl ?_
   rintro v4 w4 a21 ⟨hR4, hk4⟩ h21
   replace hB := Kept.trans hB hk4
   replace hq2 := hq2.kept hk4
   replace hg29 := hg29.kept hk4
   replace hR4 := hR4.lt
   obtain ⟨Ar4, cr4, rfl⟩ := hR4.isl
   refine bsl h21 rfl (bsl2_158_0_1 _ _ _ _ _ _) rfl fun a22 w5 g33 h22 hk5 hz33 hg33 => ?_
   have hleg33 := Nat.le_trans hB.size hz33
   have hneg29g33 := Nat.lt_of_lt_of_le hg29.lt hz33
   replace hB := Kept.trans hB hk5
   replace hq2 := hq2.kept hk5
   replace hg29 := hg29.kept hk5
   replace hR4 := hR4.kept hk5
   have hsz6 := hB.size
   have hlg296 := hg29.lt
   have hlg336 := hg33.lt
   have hr29 := (Rws.of_blk hg29 (Vec.one hq2) 1 rfl (by omega)).mono (S' := fun b => w.heap.size ≤ b) (fun b h => by rcases h with rfl | h <;> omega)
   have hr33 := (Rrs.of_blk hg33 (Vec2.cons hr29 (Vec2.cons (hR4.mono (S' := fun b => w.heap.size ≤ b) (fun b h => by omega)) (Vec2.nil _ _))) 2 rfl (by omega)).mono (S' := fun b => w.heap.size ≤ b) (fun b h => by rcases h with rfl | h <;> omega)
   refine cal h22 Try.call76 rfl (c_concatR _ _ _ hr33 (by simp [cutB_len, Pl.nch]; omega)) rfl ?_
   rintro v6 w6 a23 ⟨hC6, hk6⟩ h23
   replace hB := Kept.trans hB hk6
   replace hC6 := hC6.lt
   refine asg h23 rfl rfl fun a24 h24 => ?_
   refine asg h24 rfl rfl fun a25 h25 => ?_
   clear hK5 h16 h17 h18 h19 h20 h21 h22 h23 h24 K5 a16 a17 a18 a19 a20 a21 a22 a23 a24
   refine wpL_nil (hK6 _ _ ?_)
   refine rtn (leave h25 (res2 h25 rfl (rvt rfl) (rvt rfl)) ?_)
   exact ⟨_, rfl, ⟨_, by rw [long_yes hlo]; rfl, by rw [long_yes hlo]; have hX := hC6.mono (S' := fun b => w.heap.size ≤ b) (fun b h => by omega); simpa using hX⟩, hB⟩
 intro hJ1
 refine mv h2 rfl rfl fun a26 h26 => ?_
 refine ineq h26 rfl rfl rfl fun a27 h27 => ?_
 refine mv h27 rfl rfl fun a28 h28 => ?_
 refine spl h28 (d := 10) rfl (fun hb3 => ?_) (fun hb3 => ?_)
 ·
  have hp3 := of_decide_eq_false (bunt hb3)
  refine gon h28 (d := 10) rfl rfl (bnf (bunt hb3)) ?_
  refine mv h28 rfl rfl fun a29 h29 => ?_
  refine gon h29 (d := 10) rfl rfl (bnf (bunt hb3)) ?_
  refine ineq h29 rfl rfl rfl fun a30 h30 => ?_
  refine pkt h30 rfl (bnf (bunt hb3)) rfl rfl fun a31 h31 => ?_
  refine mv h31 rfl rfl fun a32 h32 => ?_
  refine spl h32 (d := 14) rfl (fun hb4 => ?_) (fun hb4 => ?_)
  ·
   have hp4 := of_decide_eq_false (bunt hb4)
   refine goff h32 (d := 14) rfl rfl (bnf (bunt hb4)) rfl fun a33 h33 => ?_
   refine goff h33 (d := 14) rfl rfl (bnf (bunt hb4)) rfl fun a34 h34 => ?_
   refine goff h34 (d := 14) rfl rfl (bnf (bunt hb4)) rfl fun a35 h35 => ?_
   refine pkt h35 rfl (bnf (bunt hb4)) rfl rfl fun a36 h36 => ?_
   clear h2 h26 h27 h28 h29 h30 h31 h32 h33 h34 h35 a2 a26 a27 a28 a29 a30 a31 a32 a33 a34 a35
   exact wpL_nil (hJ1 _ _ (h36.cons' (lke rfl (by first | (exfalso; omega) | (unfold longOk; rw [← typ75, ← typ76]; simp [*]))) (((((((((((h36.tail rfl).tail rfl).tail rfl).tail rfl).tail rfl).tail rfl).tail rfl).tail rfl).tail rfl).tail rfl).tail rfl)) rfl)
  ·
   have hp4 := of_decide_eq_true (bunf hb4)
   refine gon h32 (d := 14) rfl rfl (bnt (bunf hb4)) ?_
   refine mv h32 rfl rfl fun a37 h37 => ?_
   refine gon h37 (d := 14) rfl rfl (bnt (bunf hb4)) ?_
   refine cal h37 Try.call35 rfl (c_longText _ _) rfl ?_
   rintro v7 w7 a38 ⟨rfl, rfl⟩ h38
   refine gon h38 (d := 14) rfl rfl (bnt (bunf hb4)) ?_
   refine unot h38 rfl rfl fun a39 h39 => ?_
   refine pkf h39 rfl (bnt (bunf hb4)) rfl rfl fun a40 h40 => ?_
   clear h2 h26 h27 h28 h29 h30 h31 h32 h37 h38 h39 a2 a26 a27 a28 a29 a30 a31 a32 a37 a38 a39
   exact wpL_nil (hJ1 _ _ (h40.cons' (lke rfl (by first | (exfalso; omega) | (unfold longOk; rw [← typ75, ← typ76]; simp [*]))) (((((((((((h40.tail rfl).tail rfl).tail rfl).tail rfl).tail rfl).tail rfl).tail rfl).tail rfl).tail rfl).tail rfl).tail rfl)) rfl)
 ·
  have hp3 := of_decide_eq_true (bunf hb3)
  refine goff h28 (d := 10) rfl rfl (bnt (bunf hb3)) rfl fun a41 h41 => ?_
  refine goff h41 (d := 10) rfl rfl (bnt (bunf hb3)) rfl fun a42 h42 => ?_
  refine pkf h42 rfl (bnt (bunf hb3)) rfl rfl fun a43 h43 => ?_
  refine mv h43 rfl rfl fun a44 h44 => ?_
  refine gon h44 (d := 14) rfl rfl rfl ?_
  refine mv h44 rfl rfl fun a45 h45 => ?_
  refine gon h45 (d := 14) rfl rfl rfl ?_
  refine cal h45 Try.call35 rfl (c_longText _ _) rfl ?_
  rintro v8 w8 a46 ⟨rfl, rfl⟩ h46
  refine gon h46 (d := 14) rfl rfl rfl ?_
  refine unot h46 rfl rfl fun a47 h47 => ?_
  refine pkf h47 rfl rfl rfl rfl fun a48 h48 => ?_
  clear h2 h26 h27 h28 h41 h42 h43 h44 h45 h46 h47 a2 a26 a27 a28 a41 a42 a43 a44 a45 a46 a47
  exact wpL_nil (hJ1 _ _ (h48.cons' (lke rfl (by first | (exfalso; omega) | (unfold longOk; rw [← typ75, ← typ76]; simp [*]))) (((((((((((h48.tail rfl).tail rfl).tail rfl).tail rfl).tail rfl).tail rfl).tail rfl).tail rfl).tail rfl).tail rfl).tail rfl)) rfl)

/-- long.Needs -/
theorem c_needs (n : Pl.Nd) (w : World) (hn : NdL n) :
  C Try.prog 85 [ndV n] w fun v w' => v = needsV (Pl.needs n) ∧ Kept w w' := by
 obtain ⟨hn1, hn2, hn3⟩ := hn
 refine enterE Try.func85 rfl 25 rfl rfl fun a0 h0 => ?_
 have hB := Kept.refl w
 refine sq fun K1 hK1 => ?_
 refine reg [some 1, some 2, some 3] rfl ?_
 refine bxv h0 rfl rfl rfl fun a1 w1 g1 h1 hk1 hz1 hg1 => ?_
 have hleg1 := Nat.le_trans hB.size hz1
 replace hB := Kept.trans hB hk1
 refine asg h1 rfl rfl fun a2 h2 => ?_
 refine asg h2 rfl rfl fun a3 h3 => ?_
 clear h0 h1 h2 a0 a1 a2
 refine wpL_nil (hK1 _ _ ?_)
 refine sq fun K2 hK2 => ?_
 refine reg [some 8, some 9, some 10, some 7, some 11, some 12, some 13, some 4, some 5, some 6] rfl ?_
 refine fab h3 rfl Try.underlying32 rfl Try.sizeOf9 rfl 0 rfl rfl fun a4 h4 => ?_
 refine ldb h4 hg1 rfl Try.isAgg9 rfl rfl fun a5 h5 => ?_
 refine cal h5 Try.call135 rfl (c_split _ _ (by omega)) rfl ?_
 rintro v2 w2 a6 ⟨rfl, hk2⟩ h6
 replace hB := Kept.trans hB hk2
 replace hg1 := hg1.kept hk2
 refine mv h6 rfl rfl fun a7 h7 => ?_
 refine ext3_0 h7 rfl rfl fun a8 h8 => ?_
 refine ext3_1 h8 rfl rfl fun a9 h9 => ?_
 refine ext3_2 h9 rfl rfl fun a10 h10 => ?_
 refine asg h10 rfl rfl fun a11 h11 => ?_
 refine asg h11 rfl rfl fun a12 h12 => ?_
 refine asg h12 rfl rfl fun a13 h13 => ?_
 clear hK1 h3 h4 h5 h6 h7 h8 h9 h10 h11 h12 K1 a3 a4 a5 a6 a7 a8 a9 a10 a11 a12
 refine wpL_nil (hK2 _ _ ?_)
 refine sq fun K3 hK3 => ?_
 clear hK2 K2
 cases hc : (Pl.split n.path).2.2 with
 | true =>
  refine drw h13 [some 14, some 15, some 16, some 17, some 18, some 19, some 20, some 21, some 22, some 23, some 24, some 2, some 3] rfl [Fx (.bool (Pl.split n.path).2.2), Fx (.bool (!(Pl.split n.path).2.2)), Fx (.bool (!(Pl.split n.path).2.2)), Fx (undef), Fx (undef), Fx (undef), Fx ((.bool false)), Fx (.pointer (some ⟨g1, 1, none⟩)), Fx (str n.link), Fx (.int .i64 ((n.link : List UInt8).length : Int)), Fx (.bool (decide (100 < ((n.link : List UInt8).length : Int)))), Fx ((.bool false)), Fx (.bool (decide (100 < ((n.link : List UInt8).length : Int))))] Kept rfl rfl rfl rfl (drewKept _) keptT (mcons mfx (mcons mfx (mcons mfx (mcons mfx (mcons mfx (mcons mfx (mcons mfx (mcons mfx (mcons mfx (mcons mfx (mcons mfx (mcons mfx (mcons mfx mnil))))))))))))) ⟨?_, ?_, ?_, ?_, ?_, ?_, ?_, ?_, ?_, ?_, ?_, ?_, ?_, trivial⟩ ?_
  ·
   intro L a w_ hH hb hR hd ho
   have hl6 := hb 6 _ rfl
   refine mv hH hl6 rfl fun a14 h14 => ?_
   exact wpL_nil ⟨_, h14, Kept.refl _, rfl⟩
  ·
   intro L a w_ hH hb hR hd ho
   obtain ⟨_, hl14, rfl⟩ := hd 0 rfl
   refine unot hH hl14 rfl fun a15 h15 => ?_
   exact wpL_nil ⟨_, h15, Kept.refl _, rfl⟩
  ·
   intro L a w_ hH hb hR hd ho
   obtain ⟨_, hl15, rfl⟩ := hd 1 rfl
   refine mv hH hl15 rfl fun a16 h16 => ?_
   exact wpL_nil ⟨_, h16, Kept.refl _, rfl⟩
  ·
   intro L a w_ hH hb hR hd ho
   have hl1 := hb 1 _ rfl
   obtain ⟨_, hl16, rfl⟩ := hd 2 rfl
   refine goff hH rfl hl16 (by simp [hc]) rfl fun a17 h17 => ?_
   exact wpL_nil ⟨_, h17, Kept.refl _, rfl⟩
  ·
   intro L a w_ hH hb hR hd ho
   obtain ⟨_, hl17, rfl⟩ := hd 3 rfl
   obtain ⟨_, hl16, rfl⟩ := hd 2 rfl
   refine goff hH rfl hl16 (by simp [hc]) rfl fun a18 h18 => ?_
   exact wpL_nil ⟨_, h18, Kept.refl _, rfl⟩
  ·
   intro L a w_ hH hb hR hd ho
   obtain ⟨_, hl18, rfl⟩ := hd 4 rfl
   obtain ⟨_, hl16, rfl⟩ := hd 2 rfl
   refine goff hH rfl hl16 (by simp [hc]) rfl fun a19 h19 => ?_
   exact wpL_nil ⟨_, h19, Kept.refl _, rfl⟩
  ·
   intro L a w_ hH hb hR hd ho
   obtain ⟨_, hl16, rfl⟩ := hd 2 rfl
   obtain ⟨_, hl19, rfl⟩ := hd 5 rfl
   refine pkf hH hl16 (by simp [hc]) rfl rfl fun a20 h20 => ?_
   exact wpL_nil ⟨_, h20, Kept.refl _, rfl⟩
  ·
   intro L a w_ hH hb hR hd ho
   have hl1 := hb 1 _ rfl
   refine fab hH hl1 Try.underlying32 rfl Try.sizeOf9 rfl 1 rfl rfl fun a21 h21 => ?_
   exact wpL_nil ⟨_, h21, Kept.refl _, rfl⟩
  ·
   intro L a w_ hH hb hR hd ho
   obtain ⟨_, hl21, rfl⟩ := hd 7 rfl
   replace hg1 := hg1.kept hR
   refine ldb hH hg1 hl21 Try.isAgg9 rfl rfl fun a22 h22 => ?_
   exact wpL_nil ⟨_, h22, Kept.refl _, rfl⟩
  ·
   intro L a w_ hH hb hR hd ho
   obtain ⟨_, hl22, rfl⟩ := hd 8 rfl
   refine lens hH rfl Try.underlying9 hl22 rfl fun a23 h23 => ?_
   exact wpL_nil ⟨_, h23, Kept.refl _, rfl⟩
  ·
   intro L a w_ hH hb hR hd ho
   obtain ⟨_, hl23, rfl⟩ := hd 9 rfl
   refine gtr hH hl23 rfl rfl fun a24 h24 => ?_
   exact wpL_nil ⟨_, h24, Kept.refl _, rfl⟩
  ·
   intro L a w_ hH hb hR hd ho
   obtain ⟨_, hl20, rfl⟩ := hd 6 rfl
   refine asg hH hl20 rfl fun a25 h25 => ?_
   exact wpL_nil ⟨_, h25, Kept.refl _, rfl⟩
  ·
   intro L a w_ hH hb hR hd ho
   obtain ⟨_, hl24, rfl⟩ := hd 10 rfl
   refine asg hH hl24 rfl fun a26 h26 => ?_
   exact wpL_nil ⟨_, h26, Kept.refl _, rfl⟩
  intro L3 a27 w3 h27 hbh27 hRh27 hdh27
  obtain ⟨_, hl14, rfl⟩ := hdh27 0 (by decide)
  obtain ⟨_, hl15, rfl⟩ := hdh27 1 (by decide)
  obtain ⟨_, hl16, rfl⟩ := hdh27 2 (by decide)
  obtain ⟨_, hl17, rfl⟩ := hdh27 3 (by decide)
  obtain ⟨_, hl18, rfl⟩ := hdh27 4 (by decide)
  obtain ⟨_, hl19, rfl⟩ := hdh27 5 (by decide)
  obtain ⟨_, hl20, rfl⟩ := hdh27 6 (by decide)
  obtain ⟨_, hl21, rfl⟩ := hdh27 7 (by decide)
  obtain ⟨_, hl22, rfl⟩ := hdh27 8 (by decide)
  obtain ⟨_, hl23, rfl⟩ := hdh27 9 (by decide)
  obtain ⟨_, hl24, rfl⟩ := hdh27 10 (by decide)
  obtain ⟨_, hl2, rfl⟩ := hdh27 11 (by decide)
  obtain ⟨_, hl3, rfl⟩ := hdh27 12 (by decide)
  have h28 := Has.under h27 hbh27
  have h29 := (h27.add hl3 (h27.add hl2 (h27.add hl24 (h27.add hl23 (h27.add hl22 (h27.add hl21 (h27.add hl20 (h27.add hl19 (h27.add hl18 (h27.add hl17 (h27.add hl16 (h27.add hl15 (h27.add hl14 h28)))))))))))))
  clear h28 hl14 hl15 hl16 hl17 hl18 hl19 hl20 hl21 hl22 hl23 hl24 hl2 hl3 hbh27 hdh27
  replace hB := Kept.trans hB hRh27
  refine hK3 _ _ ?_
  refine rtn (leave h29 (res2 h29 rfl (rvt rfl) (rvt rfl)) ?_)
  exact ⟨_, rfl, by simp [needsV, Pl.needs, hc], hB⟩
 | false =>
  refine drw h13 [some 14, some 15, some 16, some 17, some 18, some 19, some 20, some 21, some 22, some 23, some 24, some 2, some 3] rfl [Fx (.bool (Pl.split n.path).2.2), Fx (.bool (!(Pl.split n.path).2.2)), Fx (.bool (!(Pl.split n.path).2.2)), Fx (.pointer (some ⟨g1, 0, none⟩)), Fx (str n.path), Fx (.bool (Pl.pathMay n.path)), Fx (.bool (Pl.pathMay n.path)), Fx (.pointer (some ⟨g1, 1, none⟩)), Fx (str n.link), Fx (.int .i64 ((n.link : List UInt8).length : Int)), Fx (.bool (decide (100 < ((n.link : List UInt8).length : Int)))), Fx (.bool (Pl.pathMay n.path)), Fx (.bool (decide (100 < ((n.link : List UInt8).length : Int))))] Kept rfl rfl rfl rfl (drewKept _) keptT (mcons mfx (mcons mfx (mcons mfx (mcons mfx (mcons mfx (mcons mfx (mcons mfx (mcons mfx (mcons mfx (mcons mfx (mcons mfx (mcons mfx (mcons mfx mnil))))))))))))) ⟨?_, ?_, ?_, ?_, ?_, ?_, ?_, ?_, ?_, ?_, ?_, ?_, ?_, trivial⟩ ?_
  ·
   intro L a w_ hH hb hR hd ho
   have hl6 := hb 6 _ rfl
   refine mv hH hl6 rfl fun a30 h30 => ?_
   exact wpL_nil ⟨_, h30, Kept.refl _, rfl⟩
  ·
   intro L a w_ hH hb hR hd ho
   obtain ⟨_, hl14, rfl⟩ := hd 0 rfl
   refine unot hH hl14 rfl fun a31 h31 => ?_
   exact wpL_nil ⟨_, h31, Kept.refl _, rfl⟩
  ·
   intro L a w_ hH hb hR hd ho
   obtain ⟨_, hl15, rfl⟩ := hd 1 rfl
   refine mv hH hl15 rfl fun a32 h32 => ?_
   exact wpL_nil ⟨_, h32, Kept.refl _, rfl⟩
  ·
   intro L a w_ hH hb hR hd ho
   have hl1 := hb 1 _ rfl
   obtain ⟨_, hl16, rfl⟩ := hd 2 rfl
   refine gon hH rfl hl16 (by simp [hc]) ?_
   refine fab hH hl1 Try.underlying32 rfl Try.sizeOf9 rfl 0 rfl rfl fun a33 h33 => ?_
   exact wpL_nil ⟨_, h33, Kept.refl _, rfl⟩
  ·
   intro L a w_ hH hb hR hd ho
   obtain ⟨_, hl17, rfl⟩ := hd 3 rfl
   obtain ⟨_, hl16, rfl⟩ := hd 2 rfl
   replace hg1 := hg1.kept hR
   refine gon hH rfl hl16 (by simp [hc]) ?_
   refine ldb hH hg1 hl17 Try.isAgg9 rfl rfl fun a34 h34 => ?_
   exact wpL_nil ⟨_, h34, Kept.refl _, rfl⟩
  ·
   intro L a w_ hH hb hR hd ho
   obtain ⟨_, hl18, rfl⟩ := hd 4 rfl
   obtain ⟨_, hl16, rfl⟩ := hd 2 rfl
   refine gon hH rfl hl16 (by simp [hc]) ?_
   refine cal hH Try.call61 (evs1 hl18) (c_pathMay _ _ (by omega)) rfl ?_
   rintro v4 w4 a35 ⟨rfl, hk4⟩ h35
   exact wpL_nil ⟨_, h35, hk4, rfl⟩
  ·
   intro L a w_ hH hb hR hd ho
   obtain ⟨_, hl16, rfl⟩ := hd 2 rfl
   obtain ⟨_, hl19, rfl⟩ := hd 5 rfl
   refine pkt hH hl16 (by simp [hc]) hl19 rfl fun a36 h36 => ?_
   exact wpL_nil ⟨_, h36, Kept.refl _, rfl⟩
  ·
   intro L a w_ hH hb hR hd ho
   have hl1 := hb 1 _ rfl
   refine fab hH hl1 Try.underlying32 rfl Try.sizeOf9 rfl 1 rfl rfl fun a37 h37 => ?_
   exact wpL_nil ⟨_, h37, Kept.refl _, rfl⟩
  ·
   intro L a w_ hH hb hR hd ho
   obtain ⟨_, hl21, rfl⟩ := hd 7 rfl
   replace hg1 := hg1.kept hR
   refine ldb hH hg1 hl21 Try.isAgg9 rfl rfl fun a38 h38 => ?_
   exact wpL_nil ⟨_, h38, Kept.refl _, rfl⟩
  ·
   intro L a w_ hH hb hR hd ho
   obtain ⟨_, hl22, rfl⟩ := hd 8 rfl
   refine lens hH rfl Try.underlying9 hl22 rfl fun a39 h39 => ?_
   exact wpL_nil ⟨_, h39, Kept.refl _, rfl⟩
  ·
   intro L a w_ hH hb hR hd ho
   obtain ⟨_, hl23, rfl⟩ := hd 9 rfl
   refine gtr hH hl23 rfl rfl fun a40 h40 => ?_
   exact wpL_nil ⟨_, h40, Kept.refl _, rfl⟩
  ·
   intro L a w_ hH hb hR hd ho
   obtain ⟨_, hl20, rfl⟩ := hd 6 rfl
   refine asg hH hl20 rfl fun a41 h41 => ?_
   exact wpL_nil ⟨_, h41, Kept.refl _, rfl⟩
  ·
   intro L a w_ hH hb hR hd ho
   obtain ⟨_, hl24, rfl⟩ := hd 10 rfl
   refine asg hH hl24 rfl fun a42 h42 => ?_
   exact wpL_nil ⟨_, h42, Kept.refl _, rfl⟩
  intro L5 a43 w5 h43 hbh43 hRh43 hdh43
  obtain ⟨_, hl14, rfl⟩ := hdh43 0 (by decide)
  obtain ⟨_, hl15, rfl⟩ := hdh43 1 (by decide)
  obtain ⟨_, hl16, rfl⟩ := hdh43 2 (by decide)
  obtain ⟨_, hl17, rfl⟩ := hdh43 3 (by decide)
  obtain ⟨_, hl18, rfl⟩ := hdh43 4 (by decide)
  obtain ⟨_, hl19, rfl⟩ := hdh43 5 (by decide)
  obtain ⟨_, hl20, rfl⟩ := hdh43 6 (by decide)
  obtain ⟨_, hl21, rfl⟩ := hdh43 7 (by decide)
  obtain ⟨_, hl22, rfl⟩ := hdh43 8 (by decide)
  obtain ⟨_, hl23, rfl⟩ := hdh43 9 (by decide)
  obtain ⟨_, hl24, rfl⟩ := hdh43 10 (by decide)
  obtain ⟨_, hl2, rfl⟩ := hdh43 11 (by decide)
  obtain ⟨_, hl3, rfl⟩ := hdh43 12 (by decide)
  have h44 := Has.under h43 hbh43
  have h45 := (h43.add hl3 (h43.add hl2 (h43.add hl24 (h43.add hl23 (h43.add hl22 (h43.add hl21 (h43.add hl20 (h43.add hl19 (h43.add hl18 (h43.add hl17 (h43.add hl16 (h43.add hl15 (h43.add hl14 h44)))))))))))))
  clear h44 hl14 hl15 hl16 hl17 hl18 hl19 hl20 hl21 hl22 hl23 hl24 hl2 hl3 hbh43 hdh43
  replace hB := Kept.trans hB hRh43
  refine hK3 _ _ ?_
  refine rtn (leave h45 (res2 h45 rfl (rvt rfl) (rvt rfl)) ?_)
  exact ⟨_, rfl, by simp [needsV, Pl.needs, hc], hB⟩

/-- long.Names -/
theorem c_names (n : Pl.Nd) (w : World) (hn : NdL n) :
  C Try.prog 86 [ndV n] w fun v w' => v = namesV (Pl.names n) ∧ Kept w w' := by
 obtain ⟨hn1, hn2, hn3⟩ := hn
 refine enterE Try.func86 rfl 34 rfl rfl fun a0 h0 => ?_
 have hB := Kept.refl w
 refine sq fun K1 hK1 => ?_
 refine reg [some 1, some 2, some 3, some 4] rfl ?_
 refine bxv h0 rfl rfl rfl fun a1 w1 g1 h1 hk1 hz1 hg1 => ?_
 have hleg1 := Nat.le_trans hB.size hz1
 replace hB := Kept.trans hB hk1
 refine asg h1 rfl rfl fun a2 h2 => ?_
 refine asg h2 rfl rfl fun a3 h3 => ?_
 refine asg h3 rfl rfl fun a4 h4 => ?_
 clear h0 h1 h2 h3 a0 a1 a2 a3
 refine wpL_nil (hK1 _ _ ?_)
 refine sq fun K2 hK2 => ?_
 refine reg [some 5] rfl ?_
 refine asg h4 rfl rfl fun a5 h5 => ?_
 clear hK1 h4 K1 a4
 refine wpL_nil (hK2 _ _ ?_)
 refine sq fun K3 hK3 => ?_
 refine reg [some 12, some 13, some 14, some 11, some 15, some 16, some 17, some 6, some 7, some 8] rfl ?_
 refine fab h5 rfl Try.underlying32 rfl Try.sizeOf9 rfl 0 rfl rfl fun a6 h6 => ?_
 refine ldb h6 hg1 rfl Try.isAgg9 rfl rfl fun a7 h7 => ?_
 refine cal h7 Try.call135 rfl (c_split _ _ (by omega)) rfl ?_
 rintro v2 w2 a8 ⟨rfl, hk2⟩ h8
 replace hB := Kept.trans hB hk2
 replace hg1 := hg1.kept hk2
 refine mv h8 rfl rfl fun a9 h9 => ?_
 refine ext3_0 h9 rfl rfl fun a10 h10 => ?_
 refine ext3_1 h10 rfl rfl fun a11 h11 => ?_
 refine ext3_2 h11 rfl rfl fun a12 h12 => ?_
 refine asg h12 rfl rfl fun a13 h13 => ?_
 refine asg h13 rfl rfl fun a14 h14 => ?_
 refine asg h14 rfl rfl fun a15 h15 => ?_
 clear hK2 h5 h6 h7 h8 h9 h10 h11 h12 h13 h14 K2 a5 a6 a7 a8 a9 a10 a11 a12 a13 a14
 refine wpL_nil (hK3 _ _ ?_)
 refine sq fun K4 hK4 => ?_
 refine sq fun K5 hK5 => ?_
 refine reg [some 19, some 20, some 18, some 21, some 22, some 9, some 10] rfl ?_
 refine ldbn h15 hg1 ([str n.path, str n.link, u8 n.kind, .int .i64 n.mode, .int .i64 n.uid, .int .i64 n.gid, .int .i64 n.mtime, str n.data]) rfl Try.isAgg32 Try.sizeOf32 rfl rfl fun a16 h16 => ?_
 refine cal h16 Try.call85 rfl (c_needs _ _ ⟨hn1, hn2, hn3⟩) rfl ?_
 rintro v3 w3 a17 ⟨rfl, hk3⟩ h17
 replace hB := Kept.trans hB hk3
 replace hg1 := hg1.kept hk3
 refine mv h17 rfl rfl fun a18 h18 => ?_
 refine ext2_0 h18 rfl rfl fun a19 h19 => ?_
 refine ext2_1 h19 rfl rfl fun a20 h20 => ?_
 refine asg h20 rfl rfl fun a21 h21 => ?_
 refine asg h21 rfl rfl fun a22 h22 => ?_
 clear hK3 h15 h16 h17 h18 h19 h20 h21 K3 a15 a16 a17 a18 a19 a20 a21
 refine wpL_nil (hK5 _ _ ?_)
 refine sq fun K6 hK6 => ?_
 refine reg [some 23] rfl ?_
 refine mv h22 rfl rfl fun a23 h23 => ?_
 clear hK5 h22 K5 a22
 refine wpL_nil (hK6 _ _ ?_)
 refine spl h23 (d := 23) rfl (fun hb2 => ?_) (fun hb2 => ?_)
 ·
  refine cdt h23 rfl hb2 ?_
  refine reg [some 24, some 25, some 26, some 27, some 7] rfl ?_
  refine mv h23 rfl rfl fun a24 h24 => ?_
  refine fab h24 rfl Try.underlying32 rfl Try.sizeOf9 rfl 0 rfl rfl fun a25 h25 => ?_
  refine ldb h25 hg1 rfl Try.isAgg9 rfl rfl fun a26 h26 => ?_
  refine clv h26 rfl Try.call136 rfl _ rfl (c_short _ _) rfl ?_
  rintro v4 w4 a27 ⟨rfl, rfl⟩ h27
  refine asg h27 rfl rfl fun a28 h28 => ?_
  clear hK6 h23 h24 h25 h26 h27 K6 a23 a24 a25 a26 a27
  refine wpL_nil (hK4 _ _ ?_)
  refine sq fun K7 hK7 => ?_
  refine reg [some 28, some 29, some 30, some 31, some 32, some 33, some 2, some 3, some 4] rfl ?_
  refine mv h28 rfl rfl fun a29 h29 => ?_
  refine mv h29 rfl rfl fun a30 h30 => ?_
  refine mv h30 rfl rfl fun a31 h31 => ?_
  refine fab h31 rfl Try.underlying32 rfl Try.sizeOf9 rfl 1 rfl rfl fun a32 h32 => ?_
  refine ldb h32 hg1 rfl Try.isAgg9 rfl rfl fun a33 h33 => ?_
  refine clv h33 rfl Try.call136 rfl _ rfl (c_short _ _) rfl ?_
  rintro v5 w5 a34 ⟨rfl, rfl⟩ h34
  refine asg h34 rfl rfl fun a35 h35 => ?_
  refine asg h35 rfl rfl fun a36 h36 => ?_
  refine asg h36 rfl rfl fun a37 h37 => ?_
  clear hK4 h28 h29 h30 h31 h32 h33 h34 h35 h36 K4 a28 a29 a30 a31 a32 a33 a34 a35 a36
  refine wpL_nil (hK7 _ _ ?_)
  refine rtn (leave h37 (res3 h37 rfl (rvt rfl) (rvt rfl) (rvt rfl)) ?_)
  exact ⟨_, rfl, by simp [namesV, Pl.names, hb2], hB⟩
 ·
  refine cdf h23 rfl hb2 ?_
  refine skp (hK4 _ _ ?_)
  refine sq fun K8 hK8 => ?_
  refine reg [some 28, some 29, some 30, some 31, some 32, some 33, some 2, some 3, some 4] rfl ?_
  refine mv h23 rfl rfl fun a38 h38 => ?_
  refine mv h38 rfl rfl fun a39 h39 => ?_
  refine mv h39 rfl rfl fun a40 h40 => ?_
  refine fab h40 rfl Try.underlying32 rfl Try.sizeOf9 rfl 1 rfl rfl fun a41 h41 => ?_
  refine ldb h41 hg1 rfl Try.isAgg9 rfl rfl fun a42 h42 => ?_
  refine clv h42 rfl Try.call136 rfl _ rfl (c_short _ _) rfl ?_
  rintro v6 w6 a43 ⟨rfl, rfl⟩ h43
  refine asg h43 rfl rfl fun a44 h44 => ?_
  refine asg h44 rfl rfl fun a45 h45 => ?_
  refine asg h45 rfl rfl fun a46 h46 => ?_
  clear hK6 hK4 h23 h38 h39 h40 h41 h42 h43 h44 h45 K6 K4 a23 a38 a39 a40 a41 a42 a43 a44 a45
  refine wpL_nil (hK8 _ _ ?_)
  refine rtn (leave h46 (res3 h46 rfl (rvt rfl) (rvt rfl) (rvt rfl)) ?_)
  exact ⟨_, rfl, by simp [namesV, Pl.names, hb2], hB⟩

/-- long.Ahead$1 -/
theorem c_ahead1 (t : Bool) (kind : UInt8) (s : List UInt8) (w : World) (hs : s.length ≤ 4611686018427387904) :
  C Try.prog 131 [.bool t, u8 kind, str s] w fun v w' => Rws (fun b => w.heap.size ≤ b) w' v (Pl.aheadPart t kind s) ∧ Kept w w' := by
 refine enterE Try.func131 rfl 18 rfl rfl fun a0 h0 => ?_
 have hB := Kept.refl w
 refine sq fun K1 hK1 => ?_
 refine reg [some 6] rfl ?_
 refine asg h0 rfl rfl fun a1 h1 => ?_
 clear h0 a0
 refine wpL_nil (hK1 _ _ ?_)
 refine sq fun K2 hK2 => ?_
 refine sq fun K3 hK3 => ?_
 refine reg [some 9, some 10] rfl ?_
 refine mv h1 rfl rfl fun a2 h2 => ?_
 refine unot h2 rfl rfl fun a3 h3 => ?_
 clear hK1 h1 h2 K1 a1 a2
 refine wpL_nil (hK3 _ _ ?_)
 refine spl h3 (d := 10) rfl (fun hb7777 => ?_) (fun hb7777 => ?_)
 ·
  refine cdt h3 rfl (bnf (bunt hb7777)) ?_
  refine sq fun K4 hK4 => ?_
  refine reg [some 6] rfl ?_
  refine asg h3 rfl rfl fun a4 h4 => ?_
  clear hK3 h3 K3 a3
  refine wpL_nil (hK4 _ _ ?_)
  refine rtn (leave h4 (res1 h4 rfl (rvt rfl)) ?_)
  exact ⟨_, rfl, by rw [Pl.aheadPart, if_neg (by simpa using hb7777)]; exact Rws.nil _ _, hB⟩
 ·
  refine cdf h3 rfl (bnt (bunf hb7777)) ?_
  refine skp (hK2 _ _ ?_)
  refine sq fun K5 hK5 => ?_
  refine reg [some 12, some 13, some 14, some 11, some 15, some 16, some 7, some 8] rfl ?_
  refine mv h3 rfl rfl fun a5 h5 => ?_
  refine mv h5 rfl rfl fun a6 h6 => ?_
  have hsz1 := hB.size
  refine cal h6 Try.call34 rfl (c_longPut _ _ _ (by omega)) rfl ?_
  rintro v1 w1 a7 ⟨⟨qp1, rfl, hp1'⟩, hk1⟩ h7
  replace hB := Kept.trans hB hk1
  replace hp1' := hp1'.lt
  refine mv h7 rfl rfl fun a8 h8 => ?_
  refine ext2_0 h8 rfl rfl fun a9 h9 => ?_
  refine ext2_1 h9 rfl rfl fun a10 h10 => ?_
  refine asg h10 rfl rfl fun a11 h11 => ?_
  refine asg h11 rfl rfl fun a12 h12 => ?_
  clear hK3 hK2 h3 h5 h6 h7 h8 h9 h10 h11 K3 K2 a3 a5 a6 a7 a8 a9 a10 a11
  refine wpL_nil (hK5 _ _ ?_)
  refine sq fun K6 hK6 => ?_
  refine reg [some 17, some 6] rfl ?_
  refine mv h12 rfl rfl fun a13 h13 => ?_
  refine asg h13 rfl rfl fun a14 h14 => ?_
  clear hK5 h12 h13 K5 a12 a13
  refine wpL_nil (hK6 _ _ ?_)
  refine rtn (leave h14 (res1 h14 rfl (rvt rfl)) ?_)
  exact ⟨_, rfl, by rw [Pl.aheadPart, if_pos (by simpa using hb7777)]; exact hp1'.mono (fun b h => by omega), hB⟩

/-- long.joined -/
theorem c_ljoined {S : Nat → Prop} (v : Value) (L : List (List (List UInt8))) (w : World) (hv : Rrs S w v L) (hl : L.flatten.length ≤ 1000000000) :
  C Try.prog 132 [v] w fun v w' => Rws (fun b => S b ∨ w.heap.size ≤ b) w' v L.flatten ∧ Kept w w' := by
 refine enterE Try.func132 rfl 5 rfl rfl fun a0 h0 => ?_
 have hB := Kept.refl w
 refine sq fun K1 hK1 => ?_
 refine reg [some 2] rfl ?_
 refine asg h0 rfl rfl fun a1 h1 => ?_
 clear h0 a0
 refine wpL_nil (hK1 _ _ ?_)
 refine sq fun K2 hK2 => ?_
 refine reg [some 3, some 4, some 2] rfl ?_
 refine mv h1 rfl rfl fun a2 h2 => ?_
 have hsz1 := hB.size
 refine cal h2 Try.call76 rfl (c_concatR _ _ _ hv (by omega)) rfl ?_
 rintro v1 w1 a3 ⟨hR1, hk1⟩ h3
 replace hB := Kept.trans hB hk1
 replace hR1 := hR1.lt
 refine asg h3 rfl rfl fun a4 h4 => ?_
 clear hK1 h1 h2 h3 K1 a1 a2 a3
 refine wpL_nil (hK2 _ _ ?_)
 refine rtn (leave h4 (res1 h4 rfl (rvt rfl)) ?_)
 exact ⟨_, rfl, hR1.mono (fun b h => by rcases h.1 with h | h; exact .inl h; exact .inr h), hB⟩

/-- long.Ahead -/
theorem c_ahead (n : Pl.Nd) (w : World) (hn : NdL n) :
  C Try.prog 79 [ndV n] w fun v w' => Rws (fun b => w.heap.size ≤ b) w' v (Pl.ahead n) ∧ Kept w w' := by
 obtain ⟨hn1, hn2, hn3⟩ := hn
 refine enterE Try.func79 rfl 23 rfl rfl fun a0 h0 => ?_
 have hB := Kept.refl w
 refine sq fun K1 hK1 => ?_
 refine reg [some 1, some 2] rfl ?_
 refine bxv h0 rfl rfl rfl fun a1 w1 g1 h1 hk1 hz1 hg1 => ?_
 have hleg1 := Nat.le_trans hB.size hz1
 replace hB := Kept.trans hB hk1
 refine asg h1 rfl rfl fun a2 h2 => ?_
 clear h0 h1 a0 a1
 refine wpL_nil (hK1 _ _ ?_)
 refine sq fun K2 hK2 => ?_
 refine reg [some 7, some 8, some 6, some 9, some 10, some 3, some 4] rfl ?_
 refine ldbn h2 hg1 ([str n.path, str n.link, u8 n.kind, .int .i64 n.mode, .int .i64 n.uid, .int .i64 n.gid, .int .i64 n.mtime, str n.data]) rfl Try.isAgg32 Try.sizeOf32 rfl rfl fun a3 h3 => ?_
 refine cal h3 Try.call85 rfl (c_needs _ _ ⟨hn1, hn2, hn3⟩) rfl ?_
 rintro v2 w2 a4 ⟨rfl, hk2⟩ h4
 replace hB := Kept.trans hB hk2
 replace hg1 := hg1.kept hk2
 refine mv h4 rfl rfl fun a5 h5 => ?_
 refine ext2_0 h5 rfl rfl fun a6 h6 => ?_
 refine ext2_1 h6 rfl rfl fun a7 h7 => ?_
 refine asg h7 rfl rfl fun a8 h8 => ?_
 refine asg h8 rfl rfl fun a9 h9 => ?_
 clear hK1 h2 h3 h4 h5 h6 h7 h8 K1 a2 a3 a4 a5 a6 a7 a8
 refine wpL_nil (hK2 _ _ ?_)
 refine sq fun K3 hK3 => ?_
 refine reg [some 5] rfl ?_
 refine asg h9 rfl rfl fun a10 h10 => ?_
 clear hK2 h9 K2 a9
 refine wpL_nil (hK3 _ _ ?_)
 refine sq fun K4 hK4 => ?_
 clear hK3 K3
 have hsW := hB.size
 refine drw h10 [some 11, some 12, some 13, some 14, some 15, some 16, some 17, some 18, some 19, some 20, some 21, some 22, some 2] rfl [Fx (.func (.func 131) #[] #[]), Fx (.bool (Pl.needs n).2), Fx (.pointer (some ⟨g1, 1, none⟩)), Fx (str n.link), fun v w' => Rws (fun b => w2.heap.size ≤ b) w' v (Pl.aheadPart (Pl.needs n).2 75 n.link), Fx (.func (.func 131) #[] #[]), Fx (.bool (Pl.needs n).1), Fx (.pointer (some ⟨g1, 0, none⟩)), Fx (str n.path), fun v w' => Rws (fun b => w2.heap.size ≤ b) w' v (Pl.aheadPart (Pl.needs n).1 76 n.path), fun v w' => Rrs (fun b => w2.heap.size ≤ b) w' v [Pl.aheadPart (Pl.needs n).2 75 n.link, Pl.aheadPart (Pl.needs n).1 76 n.path], fun v w' => Rws (fun b => w2.heap.size ≤ b) w' v (Pl.ahead n), fun v w' => Rws (fun b => w2.heap.size ≤ b) w' v (Pl.ahead n)] Kept rfl rfl rfl rfl (drewKept _) keptT (mcons mfx (mcons mfx (mcons mfx (mcons mfx (mcons (fun v w w' hk h => h.kept hk) (mcons mfx (mcons mfx (mcons mfx (mcons mfx (mcons (fun v w w' hk h => h.kept hk) (mcons (fun v w w' hk h => h.kept hk) (mcons (fun v w w' hk h => h.kept hk) (mcons (fun v w w' hk h => h.kept hk) mnil))))))))))))) ⟨?_, ?_, ?_, ?_, ?_, ?_, ?_, ?_, ?_, ?_, ?_, ?_, ?_, trivial⟩ ?_
 ·
  intro L a w_ hH hb hR hd ho
  have hl5 := hb 5 _ rfl
  refine mv hH hl5 rfl fun a11 h11 => ?_
  exact wpL_nil ⟨_, h11, Kept.refl _, rfl⟩
 ·
  intro L a w_ hH hb hR hd ho
  have hl4 := hb 4 _ rfl
  refine mv hH hl4 rfl fun a12 h12 => ?_
  exact wpL_nil ⟨_, h12, Kept.refl _, rfl⟩
 ·
  intro L a w_ hH hb hR hd ho
  have hl1 := hb 1 _ rfl
  refine fab hH hl1 Try.underlying32 rfl Try.sizeOf9 rfl 1 rfl rfl fun a13 h13 => ?_
  exact wpL_nil ⟨_, h13, Kept.refl _, rfl⟩
 ·
  intro L a w_ hH hb hR hd ho
  obtain ⟨_, hl13, rfl⟩ := hd 2 rfl
  replace hg1 := hg1.kept hR
  refine ldb hH hg1 hl13 Try.isAgg9 rfl rfl fun a14 h14 => ?_
  exact wpL_nil ⟨_, h14, Kept.refl _, rfl⟩
 ·
  intro L a w_ hH hb hR hd ho
  obtain ⟨_, hl11, rfl⟩ := hd 0 rfl
  obtain ⟨_, hl12, rfl⟩ := hd 1 rfl
  obtain ⟨_, hl14, rfl⟩ := hd 3 rfl
  refine clv hH hl11 Try.call131 (evs3 hl12 rfl hl14) _ rfl (c_ahead1 _ 75 _ _ (by omega)) rfl ?_
  rintro v3 w3 a15 ⟨hA3, hk3⟩ h15
  exact wpL_nil ⟨_, h15, hk3, hA3.mono (fun b hb => Nat.le_trans hR.size hb)⟩
 ·
  intro L a w_ hH hb hR hd ho
  have hl5 := hb 5 _ rfl
  refine mv hH hl5 rfl fun a16 h16 => ?_
  exact wpL_nil ⟨_, h16, Kept.refl _, rfl⟩
 ·
  intro L a w_ hH hb hR hd ho
  have hl3 := hb 3 _ rfl
  refine mv hH hl3 rfl fun a17 h17 => ?_
  exact wpL_nil ⟨_, h17, Kept.refl _, rfl⟩
 ·
  intro L a w_ hH hb hR hd ho
  have hl1 := hb 1 _ rfl
  refine fab hH hl1 Try.underlying32 rfl Try.sizeOf9 rfl 0 rfl rfl fun a18 h18 => ?_
  exact wpL_nil ⟨_, h18, Kept.refl _, rfl⟩
 ·
  intro L a w_ hH hb hR hd ho
  obtain ⟨_, hl18, rfl⟩ := hd 7 rfl
  replace hg1 := hg1.kept hR
  refine ldb hH hg1 hl18 Try.isAgg9 rfl rfl fun a19 h19 => ?_
  exact wpL_nil ⟨_, h19, Kept.refl _, rfl⟩
 ·
  intro L a w_ hH hb hR hd ho
  obtain ⟨_, hl16, rfl⟩ := hd 5 rfl
  obtain ⟨_, hl17, rfl⟩ := hd 6 rfl
  obtain ⟨_, hl19, rfl⟩ := hd 8 rfl
  refine clv hH hl16 Try.call131 (evs3 hl17 rfl hl19) _ rfl (c_ahead1 _ 76 _ _ (by omega)) rfl ?_
  rintro v4 w4 a20 ⟨hA4, hk4⟩ h20
  exact wpL_nil ⟨_, h20, hk4, hA4.mono (fun b hb => Nat.le_trans hR.size hb)⟩
 ·
  intro L a w_ hH hb hR hd ho
  obtain ⟨v15, hl15, hf15⟩ := hd 4 rfl
  obtain ⟨v20, hl20, hf20⟩ := hd 9 rfl
  replace hg1 := hg1.kept hR
  obtain ⟨A15, c15, rfl⟩ := hf15.isl
  obtain ⟨A20, c20, rfl⟩ := hf20.isl
  refine bsl hH (evpc hl15 (evpc hl20 evp0)) (bsl2_158_0_1 _ _ _ _ _ _) rfl fun a21 w5 g21 h21 hk5 hz21 hg21 => ?_
  have hneg1g21 := Nat.lt_of_lt_of_le hg1.lt hz21
  exact wpL_nil ⟨_, h21, hk5, (Rrs.of_blk hg21 (Vec2.cons (hf15.kept hk5) (Vec2.cons (hf20.kept hk5) (Vec2.nil _ _))) 2 rfl (by omega)).mono (fun b hb => by rcases hb with hb | hb; exact hb ▸ Nat.le_trans hR.size hz21; exact hb)⟩
 ·
  intro L a w_ hH hb hR hd ho
  obtain ⟨v21, hl21, hf21⟩ := hd 10 rfl
  refine cal hH Try.call132 (evs1 hl21) (c_ljoined _ _ _ hf21 (by have e1 := aheadPart_len (Pl.needs n).2 75 n.link hn2; have e2 := aheadPart_len (Pl.needs n).1 76 n.path hn1; rw [ahead_flat, List.length_append]; omega)) rfl ?_
  rintro v6 w6 a22 ⟨hA6, hk6⟩ h22
  exact wpL_nil ⟨_, h22, hk6, (by have hX := hA6.mono (S' := (fun b => w2.heap.size ≤ b)) (fun b hb => by rcases hb with hb | hb; exact hb; exact Nat.le_trans hR.size hb); rw [ahead_flat] at hX; exact hX)⟩
 ·
  intro L a w_ hH hb hR hd ho
  obtain ⟨v22, hl22, hf22⟩ := hd 11 rfl
  refine asg hH hl22 rfl fun a23 h23 => ?_
  exact wpL_nil ⟨_, h23, Kept.refl _, hf22⟩
 intro L7 a24 w7 h24 hbh24 hRh24 hdh24
 obtain ⟨_, hl11, rfl⟩ := hdh24 0 (by decide)
 obtain ⟨_, hl12, rfl⟩ := hdh24 1 (by decide)
 obtain ⟨_, hl13, rfl⟩ := hdh24 2 (by decide)
 obtain ⟨_, hl14, rfl⟩ := hdh24 3 (by decide)
 obtain ⟨v15, hl15, hf15⟩ := hdh24 4 (by decide)
 obtain ⟨_, hl16, rfl⟩ := hdh24 5 (by decide)
 obtain ⟨_, hl17, rfl⟩ := hdh24 6 (by decide)
 obtain ⟨_, hl18, rfl⟩ := hdh24 7 (by decide)
 obtain ⟨_, hl19, rfl⟩ := hdh24 8 (by decide)
 obtain ⟨v20, hl20, hf20⟩ := hdh24 9 (by decide)
 obtain ⟨v21, hl21, hf21⟩ := hdh24 10 (by decide)
 obtain ⟨v22, hl22, hf22⟩ := hdh24 11 (by decide)
 obtain ⟨v2, hl2, hf2⟩ := hdh24 12 (by decide)
 have h25 := Has.under h24 hbh24
 have h26 := (h24.add hl2 (h24.add hl22 (h24.add hl21 (h24.add hl20 (h24.add hl19 (h24.add hl18 (h24.add hl17 (h24.add hl16 (h24.add hl15 (h24.add hl14 (h24.add hl13 (h24.add hl12 (h24.add hl11 h25)))))))))))))
 clear h25 hl11 hl12 hl13 hl14 hl15 hl16 hl17 hl18 hl19 hl20 hl21 hl22 hl2 hbh24 hdh24
 replace hB := Kept.trans hB hRh24
 refine hK4 _ _ ?_
 refine rtn (leave h26 (res1 h26 rfl (rvt rfl)) ?_)
 exact ⟨_, rfl, hf2.mono (fun b h => by omega), hB⟩

end Go.Proofs.Ytpgeogdmjgmimaa
