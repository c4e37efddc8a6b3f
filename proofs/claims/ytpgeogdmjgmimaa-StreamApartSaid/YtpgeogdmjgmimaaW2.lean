/-
  Walks, written by wip/gen/gen.py.
-/
import Derived.Test.YtpgeogdmjgmimaaK11
import Derived.Test.YtpgeogdmjgmimaaPNum
import Derived.Test.YtpgeogdmjgmimaaChecked
import Derived.Test.YtpgeogdmjgmimaaW1
set_option linter.unusedVariables false
set_option linter.unusedSimpArgs false
set_option maxRecDepth 4000
namespace Go.Proofs.Ytpgeogdmjgmimaa
open Go Go.RowKit K

/-- A literal's value. -/
theorem bsl1_35_0 (x0 : Int) (w : World) : (Instr.buildSlice 35 1 [(0, (.int .u8 x0))].toArray).run Try.prog w = .ok (.slice (some ⟨w.heap.size, 0, none⟩) 1 1) (w.alloc (.cells [.int .u8 x0].toArray 5)) := by kernel_rfl
theorem oct_len {n d : Int} : ((Pl.octal n d).getD []).length = if (Pl.octal n d).isSome then d.toNat else 0 := by
  cases h : Pl.octal n d with
  | none => rfl
  | some s => simpa using Pl.octal_length h
theorem put_start (D : Nat) (h : 2 ≤ D) : List.take 0 (List.replicate D (Value.int .u8 0)) ++ [Value.int .u8 128] ++ List.drop (0 + [Value.int .u8 128].length) (List.replicate D (Value.int .u8 0)) = (128 :: List.replicate (D - 1) (0 : UInt8)).map u8 := by
  simp [u8]
theorem by8_eq (n : Int) (h : 0 ≤ n) : Value.int .u8 (IntKind.u8.wrap n) = u8 (Pl.by8 n) := by
  have : IntKind.u8.wrap n = n % 256 := by simp [IntKind.wrap, IntKind.bits, IntKind.signed]
  rw [this]
  unfold u8 Pl.by8
  have h1 : 0 ≤ n % 256 := Int.emod_nonneg _ (by omega)
  have h2 : n % 256 < 256 := Int.emod_lt_of_pos _ (by omega)
  rw [UInt8.toNat_ofNat', Nat.mod_eq_of_lt (by omega)]
  congr 1; omega
theorem put_step (D k : Nat) (n : Int) (h : k < D - 1) :
    List.take (D - 1 - k) (List.map u8 (128 :: (List.replicate (D - 1 - k) (0 : UInt8) ++ Pl.byD k n))) ++ [u8 (Pl.by8 (n / 256 ^ k))] ++ List.drop (D - 1 - k + [u8 (Pl.by8 (n / 256 ^ k))].length) (List.map u8 (128 :: (List.replicate (D - 1 - k) (0 : UInt8) ++ Pl.byD k n))) =
      List.map u8 (128 :: (List.replicate (D - 1 - (k + 1)) (0 : UInt8) ++ Pl.byD (k + 1) n)) := by
  rw [Pl.byD_cons]
  obtain ⟨m, hm⟩ : ∃ m, D - 1 - k = m + 1 := ⟨D - 1 - (k + 1), by omega⟩
  have e1 : D - 1 - (k + 1) = m := by omega
  have e0 : List.replicate (m + 1) (0 : UInt8) ++ Pl.byD k n = List.replicate m (0 : UInt8) ++ ([0] ++ Pl.byD k n) := by rw [List.replicate_succ', List.append_assoc]
  rw [hm, e1, e0, ← List.map_take, ← List.map_drop]
  have e2 : List.take (m + 1) (128 :: (List.replicate m (0 : UInt8) ++ ([0] ++ Pl.byD k n))) = 128 :: List.replicate m 0 := by
    rw [List.take_succ_cons, List.take_append_of_le_length (by simp), List.take_of_length_le (by simp)]
  have e3 : List.drop (m + 1 + [u8 (Pl.by8 (n / 256 ^ k))].length) (128 :: (List.replicate m (0 : UInt8) ++ ([0] ++ Pl.byD k n))) = Pl.byD k n := by
    simp only [List.length_cons, List.length_nil, Nat.zero_add]
    rw [List.drop_succ_cons, List.drop_append]
    simp
  rw [e2, e3]
  simp
theorem take_next {b1 b2 : List UInt8} {k : Nat} {x y : UInt8} (h1 : b1[k]? = some x) (h2 : b2[k]? = some y) (h : b1.take k = b2.take k) (e : x = y) : b1.take (k + 1) = b2.take (k + 1) := by
  rw [List.take_add_one, List.take_add_one, h1, h2, h, e]
theorem take_all {b1 b2 : List UInt8} {k : Nat} (h : b1.take k = b2.take k) (e : k = b1.length) (e2 : b1.length = b2.length) : b1 = b2 := by
  rw [List.take_of_length_le (by omega), List.take_of_length_le (by omega)] at h; exact h
theorem wrap_u8 {z : Int} (h : 0 ≤ z ∧ z ≤ 255) : IntKind.u8.wrap z = z := by
  have : IntKind.u8.wrap z = z % 256 := by simp [IntKind.wrap, IntKind.bits, IntKind.signed]
  rw [this]; omega
theorem dg8_eq (n : Int) (h : 0 ≤ n) : Value.int .u8 (IntKind.u8.wrap (48 + IntKind.u8.wrap (n % 8))) = u8 (Pl.dg8 n) := by
  have h1 : 0 ≤ n % 8 := Int.emod_nonneg _ (by omega)
  have h2 : n % 8 < 8 := Int.emod_lt_of_pos _ (by omega)
  rw [wrap_u8 ⟨h1, by omega⟩, wrap_u8 ⟨by omega, by omega⟩]
  unfold u8 Pl.dg8
  rw [UInt8.toNat_ofNat', Nat.mod_eq_of_lt (by omega)]
  congr 1; omega
theorem oct_step (D k : Nat) (n : Int) (h : k < D) :
    List.take (D - 1 - k) (List.map u8 (List.replicate (D - k) (0 : UInt8) ++ Pl.octD k n)) ++ [u8 (Pl.dg8 (n / 8 ^ k))] ++ List.drop (D - 1 - k + [u8 (Pl.dg8 (n / 8 ^ k))].length) (List.map u8 (List.replicate (D - k) (0 : UInt8) ++ Pl.octD k n)) =
      List.map u8 (List.replicate (D - (k + 1)) (0 : UInt8) ++ Pl.octD (k + 1) n) := by
  rw [Pl.octD_cons]
  have e0 : List.replicate (D - k) (0 : UInt8) ++ Pl.octD k n = List.replicate (D - (k + 1)) (0 : UInt8) ++ (0 :: Pl.octD k n) := by
    have e : D - k = (D - (k + 1)) + 1 := by omega
    rw [e, List.replicate_succ', List.append_assoc]; rfl
  have e1 : D - 1 - k = D - (k + 1) := by omega
  rw [e0, e1, ← List.map_take, ← List.map_drop, List.take_append_of_le_length (by simp), List.take_of_length_le (by simp)]
  have e2 : List.drop (D - (k + 1) + [u8 (Pl.dg8 (n / 8 ^ k))].length) (List.replicate (D - (k + 1)) (0 : UInt8) ++ (0 :: Pl.octD k n)) = Pl.octD k n := by
    rw [List.drop_append]
    simp
  rw [e2]
  simp
def octalV (o : Option (List UInt8)) : Value := .tuple #[str (o.getD []), .bool o.isSome]

/-- num.Octal$1 -/
theorem c_octal1 (g : Nat) (n : Int) (w : World) (hn : 0 ≤ n ∧ n ≤ 9223372036854775807) (hg : Blk w g 3 [.int .i64 n]) :
  C Try.prog 172 [.pointer (some ⟨g, 0, none⟩)] w fun v w' => v = u8 (Pl.dg8 n) ∧ Blk w' g 3 [.int .i64 (n / 8)] ∧ But g w w' := by
 obtain ⟨hn1, hn2⟩ := hn
 refine enterE Try.func172 rfl 10 rfl rfl fun a0 h0 => ?_
 have hB := But.refl g w
 refine sq fun K1 hK1 => ?_
 refine reg [some 1] rfl ?_
 refine asg h0 rfl rfl fun a1 h1 => ?_
 clear h0 a0
 refine wpL_nil (hK1 _ _ ?_)
 refine sq fun K2 hK2 => ?_
 refine reg [some 3, some 4, some 2] rfl ?_
 refine ldb h1 hg rfl Try.isAgg3 rfl rfl fun a2 h2 => ?_
 refine and7 h2 rfl rfl rfl (by omega) fun a3 h3 => ?_
 refine asg h3 rfl rfl fun a4 h4 => ?_
 clear hK1 h1 h2 h3 K1 a1 a2 a3
 refine wpL_nil (hK2 _ _ ?_)
 refine sq fun K3 hK3 => ?_
 refine reg [some 5, some 6, none] rfl ?_
 refine ldb h4 hg rfl Try.isAgg3 rfl rfl fun a5 h5 => ?_
 refine shr (c := 3) h5 rfl rfl rfl (by omega) fun a6 h6 => ?_
 refine stb h6 hg rfl rfl _ rfl Try.sizeOf3 (by simp [Value.oneCell']) _ (by simp) rfl fun w1 hg' hk1 => ?_
 replace hB := But.trans hB hk1
 clear hg; have hg := hg'; clear hg'
 clear hK2 h4 h5 K2 a4 a5
 refine wpL_nil (hK3 _ _ ?_)
 refine sq fun K4 hK4 => ?_
 refine reg [some 7, some 8, some 9, some 1] rfl ?_
 refine mv h6 rfl rfl fun a7 h7 => ?_
 refine itoc h7 rfl Try.underlying3 Try.underlying5 rfl fun a8 h8 => ?_
 refine addw h8 rfl rfl rfl fun a9 h9 => ?_
 refine asg h9 rfl rfl fun a10 h10 => ?_
 clear hK3 h6 h7 h8 h9 K3 a6 a7 a8 a9
 refine wpL_nil (hK4 _ _ ?_)
 refine rtn (leave h10 (res1 h10 rfl (rvt rfl)) ?_)
 exact ⟨_, rfl, dg8_eq n hn1, hg, hB⟩

/-- num.Octal -/
theorem c_octal (n d : Int) (w : World) (hn : -9223372036854775808 ≤ n ∧ n ≤ 9223372036854775807) :
  C Try.prog 138 [.int .i64 n, .int .i64 d] w fun v w' => v = octalV (Pl.octal n d) ∧ Kept w w' := by
 obtain ⟨hn1, hn2⟩ := hn
 refine enterE Try.func138 rfl 41 rfl rfl fun a0 h0 => ?_
 have hB := Kept.refl w
 refine sq fun K1 hK1 => ?_
 refine reg [some 4, some 5] rfl ?_
 refine asg h0 rfl rfl fun a1 h1 => ?_
 refine asg h1 rfl rfl fun a2 h2 => ?_
 clear h0 h1 a0 a1
 refine wpL_nil (hK1 _ _ ?_)
 refine sq fun K2 hK2 => ?_
 refine sq fun K3 hK3 => ?_
 refine reg [some 10, some 11, some 12, some 13, some 14, some 15, some 16, some 17, some 18, some 19] rfl ?_
 refine mv h2 rfl rfl fun a3 h3 => ?_
 refine lss h3 rfl rfl rfl fun a4 h4 => ?_
 refine mv h4 rfl rfl fun a5 h5 => ?_
 refine spl h5 (d := 12) rfl (fun hb1 => ?_) (fun hb1 => ?_)
 ·
  have hp1 := of_decide_eq_true hb1
  refine goff h5 (d := 12) rfl rfl hb1 rfl fun a6 h6 => ?_
  refine goff h6 (d := 12) rfl rfl hb1 rfl fun a7 h7 => ?_
  refine pkt h7 rfl hb1 rfl rfl fun a8 h8 => ?_
  refine mv h8 rfl rfl fun a9 h9 => ?_
  refine goff h9 (d := 16) rfl rfl rfl rfl fun a10 h10 => ?_
  refine goff h10 (d := 16) rfl rfl rfl rfl fun a11 h11 => ?_
  refine pkt h11 rfl rfl rfl rfl fun a12 h12 => ?_
  clear hK1 h2 h3 h4 h5 h6 h7 h8 h9 h10 h11 K1 a2 a3 a4 a5 a6 a7 a8 a9 a10 a11
  refine wpL_nil (hK3 _ _ ?_)
  refine cdt h12 rfl rfl ?_
  refine sq fun K4 hK4 => ?_
  refine reg [some 4, some 5] rfl ?_
  refine asg h12 rfl rfl fun a13 h13 => ?_
  refine asg h13 rfl rfl fun a14 h14 => ?_
  clear hK3 h12 h13 K3 a12 a13
  refine wpL_nil (hK4 _ _ ?_)
  refine rtn (leave h14 (res2 h14 rfl (rvt rfl) (rvt rfl)) ?_)
  exact ⟨_, rfl, by rw [Pl.octal, if_pos (by omega)]; rfl, hB⟩
 ·
  have hp1 := of_decide_eq_false hb1
  refine gon h5 (d := 12) rfl rfl hb1 ?_
  refine mv h5 rfl rfl fun a15 h15 => ?_
  refine gon h15 (d := 12) rfl rfl hb1 ?_
  refine lss h15 rfl rfl rfl fun a16 h16 => ?_
  refine pkf h16 rfl hb1 rfl rfl fun a17 h17 => ?_
  refine mv h17 rfl rfl fun a18 h18 => ?_
  refine spl h18 (d := 16) rfl (fun hb2 => ?_) (fun hb2 => ?_)
  ·
   have hp2 := of_decide_eq_true hb2
   refine goff h18 (d := 16) rfl rfl hb2 rfl fun a19 h19 => ?_
   refine goff h19 (d := 16) rfl rfl hb2 rfl fun a20 h20 => ?_
   refine pkt h20 rfl hb2 rfl rfl fun a21 h21 => ?_
   clear hK1 h2 h3 h4 h5 h15 h16 h17 h18 h19 h20 K1 a2 a3 a4 a5 a15 a16 a17 a18 a19 a20
   refine wpL_nil (hK3 _ _ ?_)
   refine cdt h21 rfl rfl ?_
   refine sq fun K5 hK5 => ?_
   refine reg [some 4, some 5] rfl ?_
   refine asg h21 rfl rfl fun a22 h22 => ?_
   refine asg h22 rfl rfl fun a23 h23 => ?_
   clear hK3 h21 h22 K3 a21 a22
   refine wpL_nil (hK5 _ _ ?_)
   refine rtn (leave h23 (res2 h23 rfl (rvt rfl) (rvt rfl)) ?_)
   exact ⟨_, rfl, by rw [Pl.octal, if_pos (by omega)]; rfl, hB⟩
  ·
   have hp2 := of_decide_eq_false hb2
   refine gon h18 (d := 16) rfl rfl hb2 ?_
   refine mv h18 rfl rfl fun a24 h24 => ?_
   refine gon h24 (d := 16) rfl rfl hb2 ?_
   refine gtr h24 rfl rfl rfl fun a25 h25 => ?_
   refine pkf h25 rfl hb2 rfl rfl fun a26 h26 => ?_
   clear hK1 h2 h3 h4 h5 h15 h16 h17 h18 h24 h25 K1 a2 a3 a4 a5 a15 a16 a17 a18 a24 a25
   refine wpL_nil (hK3 _ _ ?_)
   refine spl h26 (d := 19) rfl (fun hb3 => ?_) (fun hb3 => ?_)
   ·
    have hp3 := of_decide_eq_true hb3
    refine cdt h26 rfl hb3 ?_
    refine sq fun K6 hK6 => ?_
    refine reg [some 4, some 5] rfl ?_
    refine asg h26 rfl rfl fun a27 h27 => ?_
    refine asg h27 rfl rfl fun a28 h28 => ?_
    clear hK3 h26 h27 K3 a26 a27
    refine wpL_nil (hK6 _ _ ?_)
    refine rtn (leave h28 (res2 h28 rfl (rvt rfl) (rvt rfl)) ?_)
    exact ⟨_, rfl, by rw [Pl.octal, if_pos (by omega)]; rfl, hB⟩
   ·
    have hp3 := of_decide_eq_false hb3
    refine cdf h26 rfl hb3 ?_
    refine skp (hK2 _ _ ?_)
    refine sq fun K7 hK7 => ?_
    refine reg [some 20, some 21, some 6] rfl ?_
    refine mv h26 rfl rfl fun a29 h29 => ?_
    refine mks h29 (m := d.toNat) (z := .int .u8 0) rfl rfl (by omega) Try.underlying35 (b := 1) (by kernel_rfl) rfl (by omega) (by omega) rfl fun a30 w1 g21 h30 hk1 hz21 hg21 => ?_
    have hleg21 := Nat.le_trans hB.size hz21
    replace hB := Kept.trans hB hk1
    refine asg h30 rfl rfl fun a31 h31 => ?_
    clear hK3 hK2 h26 h29 h30 K3 K2 a26 a29 a30
    refine wpL_nil (hK7 _ _ ?_)
    refine sq fun K8 hK8 => ?_
    refine reg [some 22, some 7, none] rfl ?_
    refine mv h31 rfl rfl fun a32 h32 => ?_
    refine alc h32 Try.zeroValue3 rfl rfl fun a33 w2 g7 h33 hk2 hz7 hg7 => ?_
    have hleg7 := Nat.le_trans hB.size hz7
    have hneg21g7 := Nat.lt_of_lt_of_le hg21.lt hz7
    replace hB := Kept.trans hB hk2
    replace hg21 := hg21.kept hk2
    refine stb h33 hg7 rfl rfl _ rfl Try.sizeOf3 (by simp [Value.oneCell']) _ (by simp) rfl fun w3 hg7' hk3 => ?_
    replace hB := Kept.but hB hk3 (by omega)
    replace hg21 := hg21.but hk3 (by omega)
    clear hg7; have hg7 := hg7'; clear hg7'
    clear hK7 h31 h32 K7 a31 a32
    refine wpL_nil (hK8 _ _ ?_)
    refine sq fun K9 hK9 => ?_
    refine reg [some 23, some 8] rfl ?_
    refine mkf h33 rfl rfl rfl fun a34 h34 => ?_
    refine asg h34 rfl rfl fun a35 h35 => ?_
    clear hK8 h33 h34 K8 a33 a34
    refine wpL_nil (hK9 _ _ ?_)
    refine sq fun K10 hK10 => ?_
    refine sq fun K11 hK11 => ?_
    refine reg [some 24, some 25] rfl ?_
    refine mv h35 rfl rfl fun a36 h36 => ?_
    refine mv h36 rfl rfl fun a37 h37 => ?_
    clear hK9 h35 h36 K9 a35 a36
    refine wpL_nil (hK11 _ _ ?_)
    refine blc ?_
    clear hK11 K11
    refine lp (fun (k : Nat) (a : Act) (W : World) => Has [] 41 [(1, .int .i64 d), (6, .slice (some ⟨g21, 0, none⟩) d.toNat d.toNat), (7, .pointer (some ⟨g7, 0, none⟩)), (8, .func (.func 172) #[] #[.pointer (some ⟨g7, 0, none⟩)]), (24, .int .i64 d), (25, .int .i64 (k : Int))] a ∧ (k ≤ d.toNat) ∧ (Blk W g21 5 ((List.replicate (d.toNat - k) (0 : UInt8) ++ Pl.octD k n).map u8)) ∧ (Blk W g7 3 [.int .i64 (n / 8 ^ k)]) ∧ (Kept w W)) (fun (k : Nat) => d.toNat - k) (0) ⟨(h37.cons' rfl (h37.cons' rfl (h37.cons' rfl (h37.cons' rfl (h37.cons' rfl (h37.cons' rfl (h37.nil'))))))), Nat.zero_le _, (by simpa [Pl.octD, u8] using hg21), (by simpa using hg7), hB⟩ ?_
    clear h37 hg7 hg21 hB
    rintro k a38 w4 ⟨h38, hkd, hg21, hg7, hB⟩
    refine sq fun K12 hK12 => ?_
    refine reg [some 26] rfl ?_
    refine lss h38 rfl rfl rfl fun a39 h39 => ?_
    clear h38 a38
    refine wpL_nil (hK12 _ _ ?_)
    refine sq fun K13 hK13 => ?_
    refine spl h39 (d := 26) rfl (fun hb4 => ?_) (fun hb4 => ?_)
    ·
     have hp4 := of_decide_eq_true hb4
     refine cdt h39 rfl hb4 ?_
     refine skp (hK13 _ _ ?_)
     refine sq fun K14 hK14 => ?_
     refine blc ?_
     refine sq fun K15 hK15 => ?_
     refine reg [some 27, some 9] rfl ?_
     refine mv h39 rfl rfl fun a40 h40 => ?_
     refine asg h40 rfl rfl fun a41 h41 => ?_
     clear hK12 hK13 h39 h40 K12 K13 a39 a40
     refine wpL_nil (hK15 _ _ ?_)
     refine reg [some 28, some 29, some 30, some 31, some 32, some 33, some 34, some 35, none] rfl ?_
     refine mv h41 rfl rfl fun a42 h42 => ?_
     refine mv h42 rfl rfl fun a43 h43 => ?_
     refine sub h43 rfl rfl rfl (by omega) fun a44 h44 => ?_
     refine mv h44 rfl rfl fun a45 h45 => ?_
     refine sub h45 rfl rfl rfl (by omega) fun a46 h46 => ?_
     refine mv h46 rfl rfl fun a47 h47 => ?_
     refine clv h47 rfl Try.call172 rfl _ rfl (c_octal1 g7 (n / 8 ^ k) _ (Pl.div8_range n k (by omega) hn2) hg7) rfl ?_
     rintro v5 w5 a48 ⟨rfl, hg7', hbut5⟩ h48
     replace hg21 := hg21.but hbut5 (by omega)
     clear hg7; have hg7 := hg7'; clear hg7'
     replace hB := Kept.but hB hbut5 (by omega)
     refine ixb h48 rfl rfl Try.underlying35 Try.sizeOf5 (d.toNat - 1 - k) (by omega) (by omega) (d.toNat - 1 - k) (by omega) rfl fun a49 h49 => ?_
     refine stb h49 hg21 rfl rfl _ rfl Try.sizeOf5 (by simp [Value.oneCell']) _ (by simp [Pl.octD_length]; omega) rfl fun w6 hg21' hk6 => ?_
     clear hg21; have hg21 := hg21'; clear hg21'
     replace hg7 := hg7.but hk6 (by omega)
     replace hB := Kept.but hB hk6 (by omega)
     rw [oct_step d.toNat k n (by omega)] at hg21
     clear hK15 h41 h42 h43 h44 h45 h46 h47 h48 K15 a41 a42 a43 a44 a45 a46 a47 a48
     refine wpL_nil (hK14 _ _ ?_)
     refine reg [some 36, some 25] rfl ?_
     refine add h49 rfl rfl rfl (by omega) fun a50 h50 => ?_
     refine mv h50 rfl rfl fun a51 h51 => ?_
     clear hK14 h49 h50 K14 a49 a50
     refine wpL_nil ?_
     exact ⟨k + 1, ⟨(h51.cons' rfl (h51.cons' rfl (h51.cons' rfl (h51.cons' rfl (h51.cons' rfl (h51.cons' (lke rfl (by simp)) (h51.nil'))))))), by omega, hg21, (by rw [← Pl.div8_succ]; exact hg7), hB⟩, by omega⟩
    ·
     have hp4 := of_decide_eq_false hb4
     refine cdf h39 rfl hb4 ?_
     refine xit (hK10 _ _ ?_)
     refine sq fun K16 hK16 => ?_
     refine sq fun K17 hK17 => ?_
     refine reg [some 37, some 38] rfl ?_
     refine ldb h39 hg7 rfl Try.isAgg3 rfl rfl fun a52 h52 => ?_
     refine gtr h52 rfl rfl rfl fun a53 h53 => ?_
     clear hK12 hK10 hK13 h39 h52 K12 K10 K13 a39 a52
     refine wpL_nil (hK17 _ _ ?_)
     refine spl h53 (d := 38) rfl (fun hb5 => ?_) (fun hb5 => ?_)
     ·
      have hp5 := of_decide_eq_true hb5
      refine cdt h53 rfl hb5 ?_
      refine sq fun K18 hK18 => ?_
      refine reg [some 4, some 5] rfl ?_
      refine asg h53 rfl rfl fun a54 h54 => ?_
      refine asg h54 rfl rfl fun a55 h55 => ?_
      clear hK17 h53 h54 K17 a53 a54
      refine wpL_nil (hK18 _ _ ?_)
      refine rtn (leave h55 (res2 h55 rfl (rvt rfl) (rvt rfl)) ?_)
      obtain rfl : k = d.toNat := by omega
      exact ⟨_, rfl, by rw [Pl.octal, if_neg (by omega), if_pos (by omega)]; rfl, hB⟩
     ·
      have hp5 := of_decide_eq_false hb5
      refine cdf h53 rfl hb5 ?_
      refine skp (hK16 _ _ ?_)
      refine sq fun K19 hK19 => ?_
      refine reg [some 39, some 40, some 4, some 5] rfl ?_
      refine mv h53 rfl rfl fun a56 h56 => ?_
      refine btos h56 rfl Try.underlying35 Try.underlying5 Try.underlying9 (Blk.byt (bs := Pl.octD d.toNat n) (by rw [show k = d.toNat from by omega] at hg21; simpa using hg21) _ (by simp [Pl.octD_length]) (by simp [Pl.octD_length]) (by omega)) rfl fun a57 h57 => ?_
      refine asg h57 rfl rfl fun a58 h58 => ?_
      refine asg h58 rfl rfl fun a59 h59 => ?_
      clear hK17 hK16 h53 h56 h57 h58 K17 K16 a53 a56 a57 a58
      refine wpL_nil (hK19 _ _ ?_)
      refine rtn (leave h59 (res2 h59 rfl (rvt rfl) (rvt rfl)) ?_)
      obtain rfl : k = d.toNat := by omega
      exact ⟨_, rfl, by rw [Pl.octal, if_neg (by omega), if_neg (by omega)]; rfl, hB⟩

/-- slices.Equal[[]byte,byte] -/
theorem c_bytesEq {S1 S2 : Nat → Prop} (v1 v2 : Value) (b1 b2 : List UInt8) (w : World) (hv1 : Byt S1 w v1 b1) (hv2 : Byt S2 w v2 b2) :
  C Try.prog 142 [v1, v2] w fun v w' => v = .bool (decide (b1 = b2)) ∧ Kept w w' := by
 obtain ⟨A1, c1, rfl, hl1, hm1, hI1⟩ := hv1
 obtain ⟨A2, c2, rfl, hl2, hm2, hI2⟩ := hv2
 refine enterE Try.func142 rfl 26 rfl rfl fun a0 h0 => ?_
 have hB := Kept.refl w
 refine sq fun K1 hK1 => ?_
 refine reg [some 4] rfl ?_
 refine asg h0 rfl rfl fun a1 h1 => ?_
 clear h0 a0
 refine wpL_nil (hK1 _ _ ?_)
 refine sq fun K2 hK2 => ?_
 refine sq fun K3 hK3 => ?_
 refine reg [some 6, some 7, some 8, some 9, some 10] rfl ?_
 refine mv h1 rfl rfl fun a2 h2 => ?_
 refine lenv h2 rfl Try.underlying35 rfl rfl fun a3 h3 => ?_
 refine mv h3 rfl rfl fun a4 h4 => ?_
 refine lenv h4 rfl Try.underlying35 rfl rfl fun a5 h5 => ?_
 refine ineq h5 rfl rfl rfl fun a6 h6 => ?_
 clear hK1 h1 h2 h3 h4 h5 K1 a1 a2 a3 a4 a5
 refine wpL_nil (hK3 _ _ ?_)
 refine spl h6 (d := 10) rfl (fun hb1 => ?_) (fun hb1 => ?_)
 ·
  have hp1 := of_decide_eq_false (bunt hb1)
  refine cdt h6 rfl (bnf (bunt hb1)) ?_
  refine sq fun K4 hK4 => ?_
  refine reg [some 4] rfl ?_
  refine asg h6 rfl rfl fun a7 h7 => ?_
  clear hK3 h6 K3 a6
  refine wpL_nil (hK4 _ _ ?_)
  refine rtn (leave h7 (res1 h7 rfl (rvt rfl)) ?_)
  exact ⟨_, rfl, by rw [decide_eq_false (fun e => by rw [e] at hp1; exact hp1 rfl)], hB⟩
 ·
  have hp1 := of_decide_eq_true (bunf hb1)
  refine cdf h6 rfl (bnt (bunf hb1)) ?_
  refine skp (hK2 _ _ ?_)
  refine sq fun K5 hK5 => ?_
  refine sq fun K6 hK6 => ?_
  refine reg [some 11, some 12, some 13] rfl ?_
  refine mv h6 rfl rfl fun a8 h8 => ?_
  refine lenv h8 rfl Try.underlying35 rfl rfl fun a9 h9 => ?_
  refine mv h9 rfl rfl fun a10 h10 => ?_
  clear hK3 hK2 h6 h8 h9 K3 K2 a6 a8 a9
  refine wpL_nil (hK6 _ _ ?_)
  refine blc ?_
  clear hK6 K6
  refine lp (fun (k : Nat) (a : Act) (W : World) => Has [] 26 [(0, Value.slice A1 b1.length c1), (1, Value.slice A2 b2.length c2), (12, .int .i64 (b1.length : Int)), (13, .int .i64 (k : Int))] a ∧ (k ≤ b1.length) ∧ (b1.take k = b2.take k) ∧ (In S1 W A1 (b1.map u8)) ∧ (In S2 W A2 (b2.map u8)) ∧ (Kept w W)) (fun (k : Nat) => b1.length - k) (0) ⟨(h10.cons' rfl (h10.cons' rfl (h10.cons' rfl (h10.cons' rfl (h10.nil'))))), Nat.zero_le _, (by simp), hI1, hI2, hB⟩ ?_
  clear h10 hI2 hI1 hB
  rintro k a11 w1 ⟨h11, hk, hq, hI1, hI2, hB⟩
  refine sq fun K7 hK7 => ?_
  refine reg [some 14] rfl ?_
  refine lss h11 rfl rfl rfl fun a12 h12 => ?_
  clear h11 a11
  refine wpL_nil (hK7 _ _ ?_)
  refine sq fun K8 hK8 => ?_
  refine spl h12 (d := 14) rfl (fun hb2 => ?_) (fun hb2 => ?_)
  ·
   have hp2 := of_decide_eq_true hb2
   refine cdt h12 rfl hb2 ?_
   refine skp (hK8 _ _ ?_)
   refine sq fun K9 hK9 => ?_
   refine blc ?_
   refine sq fun K10 hK10 => ?_
   refine reg [some 15, some 5] rfl ?_
   refine mv h12 rfl rfl fun a13 h13 => ?_
   refine asg h13 rfl rfl fun a14 h14 => ?_
   clear hK7 hK8 h12 h13 K7 K8 a12 a13
   refine wpL_nil (hK10 _ _ ?_)
   refine sq fun K11 hK11 => ?_
   obtain ⟨x1, hx1⟩ : ∃ x, b1[k]? = some x := ⟨_, List.getElem?_eq_getElem (by omega)⟩
   obtain ⟨x2, hx2⟩ : ∃ x, b2[k]? = some x := ⟨_, List.getElem?_eq_getElem (by omega)⟩
   obtain ⟨ad1, rfl⟩ := hI1.some_ (by simp; omega)
   obtain ⟨ad2, rfl⟩ := hI2.some_ (by simp; omega)
   have hy1 : (b1.map u8)[k]? = some (u8 x1) := by simp [hx1]
   have hy2 : (b2.map u8)[k]? = some (u8 x2) := by simp [hx2]
   clear hK10 K10
   refine drw h14 [some 16, some 17, some 18, some 19, some 20, some 21, some 22, some 23, some 24] rfl [Fx (Value.slice (some ad1) b1.length c1), Fx (.int .i64 (k : Int)), Fx (.pointer (some (ad1.add ((k : Int).toNat * 1)))), Fx (u8 x1), Fx (Value.slice (some ad2) b2.length c2), Fx (.int .i64 (k : Int)), Fx (.pointer (some (ad2.add ((k : Int).toNat * 1)))), Fx (u8 x2), Fx (.bool (!decide ((x1.toNat : Int) = (x2.toNat : Int))))] Kept rfl rfl rfl rfl (drewKept _) keptT (mcons mfx (mcons mfx (mcons mfx (mcons mfx (mcons mfx (mcons mfx (mcons mfx (mcons mfx (mcons mfx mnil))))))))) ⟨?_, ?_, ?_, ?_, ?_, ?_, ?_, ?_, ?_, trivial⟩ ?_
   ·
    intro L a w_ hH hb hR hd ho
    have hl0 := hb 0 _ rfl
    refine mv hH hl0 rfl fun a15 h15 => ?_
    exact wpL_nil ⟨_, h15, Kept.refl _, rfl⟩
   ·
    intro L a w_ hH hb hR hd ho
    have hl5 := hb 5 _ rfl
    refine mv hH hl5 rfl fun a16 h16 => ?_
    exact wpL_nil ⟨_, h16, Kept.refl _, rfl⟩
   ·
    intro L a w_ hH hb hR hd ho
    obtain ⟨_, hl16, rfl⟩ := hd 0 rfl
    obtain ⟨_, hl17, rfl⟩ := hd 1 rfl
    refine ixa hH hl16 hl17 Try.underlying35 Try.sizeOf5 ⟨by omega, by omega⟩ rfl fun a17 h17 => ?_
    exact wpL_nil ⟨_, h17, Kept.refl _, rfl⟩
   ·
    intro L a w_ hH hb hR hd ho
    obtain ⟨_, hl18, rfl⟩ := hd 2 rfl
    replace hI1 := hI1.kept hR
    refine ld1 hH hl18 Try.isAgg5 (cellK hI1 hy1) rfl fun a18 h18 => ?_
    exact wpL_nil ⟨_, h18, Kept.refl _, rfl⟩
   ·
    intro L a w_ hH hb hR hd ho
    have hl1 := hb 1 _ rfl
    refine mv hH hl1 rfl fun a19 h19 => ?_
    exact wpL_nil ⟨_, h19, Kept.refl _, rfl⟩
   ·
    intro L a w_ hH hb hR hd ho
    have hl5 := hb 5 _ rfl
    refine mv hH hl5 rfl fun a20 h20 => ?_
    exact wpL_nil ⟨_, h20, Kept.refl _, rfl⟩
   ·
    intro L a w_ hH hb hR hd ho
    obtain ⟨_, hl20, rfl⟩ := hd 4 rfl
    obtain ⟨_, hl21, rfl⟩ := hd 5 rfl
    refine ixa hH hl20 hl21 Try.underlying35 Try.sizeOf5 ⟨by omega, by omega⟩ rfl fun a21 h21 => ?_
    exact wpL_nil ⟨_, h21, Kept.refl _, rfl⟩
   ·
    intro L a w_ hH hb hR hd ho
    obtain ⟨_, hl22, rfl⟩ := hd 6 rfl
    replace hI2 := hI2.kept hR
    refine ld1 hH hl22 Try.isAgg5 (cellK hI2 hy2) rfl fun a22 h22 => ?_
    exact wpL_nil ⟨_, h22, Kept.refl _, rfl⟩
   ·
    intro L a w_ hH hb hR hd ho
    obtain ⟨_, hl19, rfl⟩ := hd 3 rfl
    obtain ⟨_, hl23, rfl⟩ := hd 7 rfl
    refine ineq hH hl19 hl23 rfl fun a23 h23 => ?_
    exact wpL_nil ⟨_, h23, Kept.refl _, rfl⟩
   intro L2 a24 w2 h24 hbh24 hRh24 hdh24
   obtain ⟨_, hl16, rfl⟩ := hdh24 0 (by decide)
   obtain ⟨_, hl17, rfl⟩ := hdh24 1 (by decide)
   obtain ⟨_, hl18, rfl⟩ := hdh24 2 (by decide)
   obtain ⟨_, hl19, rfl⟩ := hdh24 3 (by decide)
   obtain ⟨_, hl20, rfl⟩ := hdh24 4 (by decide)
   obtain ⟨_, hl21, rfl⟩ := hdh24 5 (by decide)
   obtain ⟨_, hl22, rfl⟩ := hdh24 6 (by decide)
   obtain ⟨_, hl23, rfl⟩ := hdh24 7 (by decide)
   obtain ⟨_, hl24, rfl⟩ := hdh24 8 (by decide)
   have h25 := Has.under h24 hbh24
   have h26 := (h24.add hl24 (h24.add hl23 (h24.add hl22 (h24.add hl21 (h24.add hl20 (h24.add hl19 (h24.add hl18 (h24.add hl17 (h24.add hl16 h25)))))))))
   clear h25 hl16 hl17 hl18 hl19 hl20 hl21 hl22 hl23 hl24 hbh24 hdh24
   replace hI1 := hI1.kept hRh24
   replace hI2 := hI2.kept hRh24
   replace hB := Kept.trans hB hRh24
   refine hK11 _ _ ?_
   refine spl h26 (d := 24) rfl (fun hb9001 => ?_) (fun hb9001 => ?_)
   ·
    have hp9001 := of_decide_eq_false (bunt hb9001)
    refine cdt h26 rfl (bnf (bunt hb9001)) ?_
    refine sq fun K12 hK12 => ?_
    refine reg [some 4] rfl ?_
    refine asg h26 rfl rfl fun a27 h27 => ?_
    clear hK11 h26 K11
    refine wpL_nil (hK12 _ _ ?_)
    refine rtn (leave h27 (res1 h27 rfl (rvt rfl)) ?_)
    exact ⟨_, rfl, by rw [decide_eq_false (fun e => by subst e; rw [hx1] at hx2; cases hx2; exact hp9001 rfl)], hB⟩
   ·
    have hp9001 := of_decide_eq_true (bunf hb9001)
    refine cdf h26 rfl (bnt (bunf hb9001)) ?_
    refine skp (hK9 _ _ ?_)
    refine reg [some 25, some 13] rfl ?_
    refine add h26 rfl rfl rfl (by omega) fun a28 h28 => ?_
    refine mv h28 rfl rfl fun a29 h29 => ?_
    clear hK11 hK9 h26 h28 K11 K9 a28
    refine wpL_nil ?_
    exact ⟨k + 1, ⟨(h29.cons' rfl (h29.cons' rfl (h29.cons' rfl (h29.cons' (lke rfl (by simp)) (h29.nil'))))), by omega, (take_next hx1 hx2 hq (UInt8.toNat_inj.1 (by omega))), hI1, hI2, hB⟩, by omega⟩
  ·
   have hp2 := of_decide_eq_false hb2
   refine cdf h12 rfl hb2 ?_
   refine xit (hK5 _ _ ?_)
   refine sq fun K13 hK13 => ?_
   refine reg [some 4] rfl ?_
   refine asg h12 rfl rfl fun a30 h30 => ?_
   clear hK7 hK5 hK8 h12 K7 K5 K8 a12
   refine wpL_nil (hK13 _ _ ?_)
   refine rtn (leave h30 (res1 h30 rfl (rvt rfl)) ?_)
   exact ⟨_, rfl, by rw [decide_eq_true (take_all hq (by omega) (by omega))], hB⟩

/-- num.Put -/
theorem c_numPut (n d : Int) (w : World) (hn : -9223372036854775808 ≤ n ∧ n ≤ 9223372036854775807) (hd : -9223372036854775808 ≤ d ∧ d ≤ 9223372036854775807) :
  C Try.prog 101 [.int .i64 n, .int .i64 d] w fun v w' => ∃ u, v = .tuple #[u, .bool (Pl.putN n d).isSome] ∧ Byt (fun b => w.heap.size ≤ b) w' u ((Pl.putN n d).getD []) ∧ Kept w w' := by
 obtain ⟨hn1, hn2⟩ := hn
 obtain ⟨hd1, hd2⟩ := hd
 refine enterE Try.func101 rfl 54 rfl rfl fun a0 h0 => ?_
 have hB := Kept.refl w
 refine sq fun K1 hK1 => ?_
 refine reg [some 4, some 5] rfl ?_
 refine asg h0 rfl rfl fun a1 h1 => ?_
 refine asg h1 rfl rfl fun a2 h2 => ?_
 clear h0 h1 a0 a1
 refine wpL_nil (hK1 _ _ ?_)
 refine sq fun K2 hK2 => ?_
 refine sq fun K3 hK3 => ?_
 refine reg [some 11, some 12, some 13, some 14, some 15, some 16, some 17] rfl ?_
 refine mv h2 rfl rfl fun a3 h3 => ?_
 refine lss h3 rfl rfl rfl fun a4 h4 => ?_
 refine mv h4 rfl rfl fun a5 h5 => ?_
 refine spl h5 (d := 13) rfl (fun hb1 => ?_) (fun hb1 => ?_)
 ·
  have hp1 := of_decide_eq_true hb1
  refine goff h5 (d := 13) rfl rfl hb1 rfl fun a6 h6 => ?_
  refine goff h6 (d := 13) rfl rfl hb1 rfl fun a7 h7 => ?_
  refine goff h7 (d := 13) rfl rfl hb1 rfl fun a8 h8 => ?_
  refine pkt h8 rfl hb1 rfl rfl fun a9 h9 => ?_
  clear hK1 h2 h3 h4 h5 h6 h7 h8 K1 a2 a3 a4 a5 a6 a7 a8
  refine wpL_nil (hK3 _ _ ?_)
  refine cdt h9 rfl rfl ?_
  refine sq fun K4 hK4 => ?_
  refine reg [some 4, some 5] rfl ?_
  refine asg h9 rfl rfl fun a10 h10 => ?_
  refine asg h10 rfl rfl fun a11 h11 => ?_
  clear hK3 h9 h10 K3 a9 a10
  refine wpL_nil (hK4 _ _ ?_)
  refine rtn (leave h11 (res2 h11 rfl (rvt rfl) (rvt rfl)) ?_)
  exact ⟨_, rfl, _, by rw [Pl.putN, if_pos (by omega)]; rfl, by rw [Pl.putN, if_pos (by omega)]; exact Byt.nil _ _, hB⟩
 ·
  have hp1 := of_decide_eq_false hb1
  refine gon h5 (d := 13) rfl rfl hb1 ?_
  refine mv h5 rfl rfl fun a12 h12 => ?_
  refine gon h12 (d := 13) rfl rfl hb1 ?_
  refine cal h12 Try.call141 rfl (c_width _ _) rfl ?_
  rintro v1 w1 a13 ⟨rfl, rfl⟩ h13
  refine gon h13 (d := 13) rfl rfl hb1 ?_
  refine unot h13 rfl rfl fun a14 h14 => ?_
  refine pkf h14 rfl hb1 rfl rfl fun a15 h15 => ?_
  clear hK1 h2 h3 h4 h5 h12 h13 h14 K1 a2 a3 a4 a5 a12 a13 a14
  refine wpL_nil (hK3 _ _ ?_)
  refine spl h15 (d := 17) rfl (fun hb2 => ?_) (fun hb2 => ?_)
  ·
   refine cdt h15 rfl (bnf (bunt hb2)) ?_
   refine sq fun K5 hK5 => ?_
   refine reg [some 4, some 5] rfl ?_
   refine asg h15 rfl rfl fun a16 h16 => ?_
   refine asg h16 rfl rfl fun a17 h17 => ?_
   clear hK3 h15 h16 K3 a15 a16
   refine wpL_nil (hK5 _ _ ?_)
   refine rtn (leave h17 (res2 h17 rfl (rvt rfl) (rvt rfl)) ?_)
   have e : Pl.putN n d = none := by rw [Pl.putN, if_pos (.inr (by simpa using hb2))]
   exact ⟨_, rfl, _, by rw [e]; rfl, by rw [e]; exact Byt.nil _ _, hB⟩
  ·
   obtain ⟨hw1, hw2⟩ := Pl.width_range (bunf hb2)
   refine cdf h15 rfl (bnt (bunf hb2)) ?_
   refine skp (hK2 _ _ ?_)
   refine sq fun K6 hK6 => ?_
   refine sq fun K7 hK7 => ?_
   refine reg [some 19, some 20, some 21, some 22, some 18, some 23, some 24, some 6, some 7] rfl ?_
   refine mv h15 rfl rfl fun a18 h18 => ?_
   refine mv h18 rfl rfl fun a19 h19 => ?_
   refine sub h19 rfl rfl rfl (by omega) fun a20 h20 => ?_
   refine cal h20 Try.call138 rfl (c_octal _ _ _ ⟨by omega, by omega⟩) rfl ?_
   rintro v2 w2 a21 ⟨rfl, hk2⟩ h21
   replace hB := Kept.trans hB hk2
   refine mv h21 rfl rfl fun a22 h22 => ?_
   refine ext2_0 h22 rfl rfl fun a23 h23 => ?_
   refine ext2_1 h23 rfl rfl fun a24 h24 => ?_
   refine asg h24 rfl rfl fun a25 h25 => ?_
   refine asg h25 rfl rfl fun a26 h26 => ?_
   clear hK3 hK2 h15 h18 h19 h20 h21 h22 h23 h24 h25 K3 K2 a15 a18 a19 a20 a21 a22 a23 a24 a25
   refine wpL_nil (hK7 _ _ ?_)
   refine sq fun K8 hK8 => ?_
   refine reg [some 25] rfl ?_
   refine mv h26 rfl rfl fun a27 h27 => ?_
   clear hK7 h26 K7 a26
   refine wpL_nil (hK8 _ _ ?_)
   refine spl h27 (d := 25) rfl (fun hb3 => ?_) (fun hb3 => ?_)
   ·
    refine cdt h27 rfl hb3 ?_
    refine sq fun K9 hK9 => ?_
    refine reg [some 26, some 27, some 28, some 29, some 4, some 5] rfl ?_
    refine mv h27 rfl rfl fun a28 h28 => ?_
    have hlo27 := hB.size
    refine stob h28 rfl Try.underlying9 Try.underlying35 Try.underlying5 (by rw [oct_len]; split <;> omega) rfl fun a29 v3 w3 h29 hk3 hO27 => ?_
    replace hB := Kept.trans hB hk3
    have hls27 := hk3.size
    refine bsl h29 rfl (bsl1_35_0 _) rfl fun a30 w4 g28 h30 hk4 hz28 hg28 => ?_
    have hleg28 := Nat.le_trans hB.size hz28
    have hNhls27g28 := Nat.le_trans hls27 hz28
    replace hB := Kept.trans hB hk4
    replace hO27 := hO27.kept hk4
    replace hls27 := Nat.le_trans hls27 hk4.size
    refine apn (sz := 1) h30 rfl rfl Try.underlying35 Try.type5 rfl rfl rfl (by decide) hO27 (hls27) (Blk.in_ hg28 0 1 [u8 0] rfl) (by simp) (by simp [Value.oneCell']) (by show (_ + _) * 1 ≤ _; simp [oct_len, hb3]; omega) (by decide) rfl fun a31 v5 w5 h31 hO29' hk5 hat5 => ?_
    replace hB := ButV.kept0 hB hk5 hO27 (hlo27)
    replace hls27 := Nat.le_trans hls27 hk5.size
    try clear hO27
    have hO29 := hO29'; clear hO29'
    refine asg h31 rfl rfl fun a32 h32 => ?_
    refine asg h32 rfl rfl fun a33 h33 => ?_
    clear hK8 h27 h28 h29 h30 h31 h32 K8 a27 a28 a29 a30 a31 a32
    refine wpL_nil (hK9 _ _ ?_)
    refine rtn (leave h33 (res2 h33 rfl (rvt rfl) (rvt rfl)) ?_)
    obtain ⟨s, hs⟩ := Option.isSome_iff_exists.1 hb3
    have e : Pl.putN n d = some (s ++ [0]) := by rw [Pl.putN, if_neg (by simp at hb2; simp [hb2]; omega)]; simp [hs]
    rw [hs] at hO29
    exact ⟨_, rfl, _, by rw [e]; rfl, by rw [e]; exact (Own.byt (bs := s ++ [0]) (by simpa using hO29)).mono (fun b hb => by omega), hB⟩
   ·
    refine cdf h27 rfl hb3 ?_
    refine skp (hK6 _ _ ?_)
    refine sq fun K10 hK10 => ?_
    refine reg [some 30, some 31, some 8] rfl ?_
    refine mv h27 rfl rfl fun a34 h34 => ?_
    refine mks h34 (m := d.toNat) (z := .int .u8 0) rfl rfl (by omega) Try.underlying35 (b := 1) (by kernel_rfl) rfl (by omega) (by omega) rfl fun a35 w6 g31 h35 hk6 hz31 hg31 => ?_
    have hleg31 := Nat.le_trans hB.size hz31
    replace hB := Kept.trans hB hk6
    refine asg h35 rfl rfl fun a36 h36 => ?_
    clear hK8 hK6 h27 h34 h35 K8 K6 a27 a34 a35
    refine wpL_nil (hK10 _ _ ?_)
    refine sq fun K11 hK11 => ?_
    refine reg [some 32, some 33, none] rfl ?_
    refine mv h36 rfl rfl fun a37 h37 => ?_
    refine ixb h37 rfl rfl Try.underlying35 Try.sizeOf5 0 (by omega) (by omega) 0 (by omega) rfl fun a38 h38 => ?_
    refine stb h38 hg31 rfl rfl _ rfl Try.sizeOf5 (by simp [Value.oneCell']) _ (by simp; omega) rfl fun w7 hg31' hk7 => ?_
    replace hB := Kept.but hB hk7 (by omega)
    clear hg31; have hg31 := hg31'; clear hg31'
    rw [put_start d.toNat (by omega)] at hg31
    clear hK10 h36 h37 K10 a36 a37
    refine wpL_nil (hK11 _ _ ?_)
    refine sq fun K12 hK12 => ?_
    refine reg [some 34, some 9] rfl ?_
    refine mv h38 rfl rfl fun a39 h39 => ?_
    refine asg h39 rfl rfl fun a40 h40 => ?_
    clear hK11 h38 h39 K11 a38 a39
    refine wpL_nil (hK12 _ _ ?_)
    refine sq fun K13 hK13 => ?_
    refine sq fun K14 hK14 => ?_
    refine reg [some 35, some 36, some 37] rfl ?_
    refine mv h40 rfl rfl fun a41 h41 => ?_
    refine sub h41 rfl rfl rfl (by omega) fun a42 h42 => ?_
    refine mv h42 rfl rfl fun a43 h43 => ?_
    clear hK12 h40 h41 h42 K12 a40 a41 a42
    refine wpL_nil (hK14 _ _ ?_)
    refine blc ?_
    clear hK14 K14
    refine lp (fun (k : Nat) (a : Act) (W : World) => Has [] 54 [(1, .int .i64 d), (8, .slice (some ⟨g31, 0, none⟩) d.toNat d.toNat), (9, .int .i64 (n / 256 ^ k)), (36, .int .i64 (d - 1)), (37, .int .i64 (k : Int))] a ∧ (k ≤ d.toNat - 1) ∧ (Blk W g31 5 ((128 :: (List.replicate (d.toNat - 1 - k) (0 : UInt8) ++ Pl.byD k n)).map u8)) ∧ (Kept w W)) (fun (k : Nat) => d.toNat - k) (0) ⟨(h43.cons' rfl (h43.cons' rfl (h43.cons' (lke rfl (by simp)) (h43.cons' rfl (h43.cons' rfl (h43.nil')))))), Nat.zero_le _, (by simpa [Pl.byD, u8] using hg31), hB⟩ ?_
    clear h43 hg31 hB
    rintro k a44 w8 ⟨h44, hkd, hg31, hB⟩
    refine sq fun K15 hK15 => ?_
    refine reg [some 38] rfl ?_
    refine lss h44 rfl rfl rfl fun a45 h45 => ?_
    clear h44 a44
    refine wpL_nil (hK15 _ _ ?_)
    refine sq fun K16 hK16 => ?_
    refine spl h45 (d := 38) rfl (fun hb4 => ?_) (fun hb4 => ?_)
    ·
     have hp4 := of_decide_eq_true hb4
     refine cdt h45 rfl hb4 ?_
     refine skp (hK16 _ _ ?_)
     refine sq fun K17 hK17 => ?_
     refine blc ?_
     refine sq fun K18 hK18 => ?_
     refine reg [some 39, some 10] rfl ?_
     refine mv h45 rfl rfl fun a46 h46 => ?_
     refine asg h46 rfl rfl fun a47 h47 => ?_
     clear hK15 hK16 h45 h46 K15 K16 a45 a46
     refine wpL_nil (hK18 _ _ ?_)
     refine sq fun K19 hK19 => ?_
     refine reg [some 40, some 41, some 42, some 43, some 44, some 45, some 46, some 47, none] rfl ?_
     refine mv h47 rfl rfl fun a48 h48 => ?_
     refine mv h48 rfl rfl fun a49 h49 => ?_
     refine sub h49 rfl rfl rfl (by omega) fun a50 h50 => ?_
     refine mv h50 rfl rfl fun a51 h51 => ?_
     refine sub h51 rfl rfl rfl (by omega) fun a52 h52 => ?_
     refine mv h52 rfl rfl fun a53 h53 => ?_
     refine itoc h53 rfl Try.underlying3 Try.underlying5 rfl fun a54 h54 => ?_
     refine ixb h54 rfl rfl Try.underlying35 Try.sizeOf5 (d.toNat - 1 - k) (by omega) (by omega) (d.toNat - 1 - k) (by omega) rfl fun a55 h55 => ?_
     refine stb h55 hg31 rfl rfl _ rfl Try.sizeOf5 (by simp [Value.oneCell']) _ (by simp [Pl.byD_length]; try omega) rfl fun w9 hg31' hk9 => ?_
     clear hg31; have hg31 := hg31'; clear hg31'
     replace hB := Kept.but hB hk9 (by omega)
     rw [by8_eq _ (Pl.div256_range n k (by omega) hn2).1, put_step d.toNat k n (by omega)] at hg31
     clear hK18 h47 h48 h49 h50 h51 h52 h53 h54 K18 a47 a48 a49 a50 a51 a52 a53 a54
     refine wpL_nil (hK19 _ _ ?_)
     refine reg [some 48, some 49, some 9] rfl ?_
     refine mv h55 rfl rfl fun a56 h56 => ?_
     refine shr (c := 8) h56 rfl rfl rfl (by omega) fun a57 h57 => ?_
     refine asg h57 rfl rfl fun a58 h58 => ?_
     clear hK19 h55 h56 h57 K19 a55 a56 a57
     refine wpL_nil (hK17 _ _ ?_)
     refine reg [some 50, some 37] rfl ?_
     refine add h58 rfl rfl rfl (by omega) fun a59 h59 => ?_
     refine mv h59 rfl rfl fun a60 h60 => ?_
     clear hK17 h58 h59 K17 a58 a59
     refine wpL_nil ?_
     exact ⟨k + 1, ⟨(h60.cons' rfl (h60.cons' rfl (h60.cons' (lke rfl (by rw [← Pl.div256_succ]; rfl)) (h60.cons' rfl (h60.cons' (lke rfl (by simp)) (h60.nil')))))), by omega, hg31, hB⟩, by omega⟩
    ·
     have hp4 := of_decide_eq_false hb4
     refine cdf h45 rfl hb4 ?_
     refine xit (hK13 _ _ ?_)
     refine sq fun K20 hK20 => ?_
     refine sq fun K21 hK21 => ?_
     refine reg [some 51, some 52] rfl ?_
     refine mv h45 rfl rfl fun a61 h61 => ?_
     refine gtr h61 rfl rfl rfl fun a62 h62 => ?_
     clear hK15 hK13 hK16 h45 h61 K15 K13 K16 a45 a61
     refine wpL_nil (hK21 _ _ ?_)
     refine spl h62 (d := 52) rfl (fun hb5 => ?_) (fun hb5 => ?_)
     ·
      have hp5 := of_decide_eq_true hb5
      refine cdt h62 rfl hb5 ?_
      refine sq fun K22 hK22 => ?_
      refine reg [some 4, some 5] rfl ?_
      refine asg h62 rfl rfl fun a63 h63 => ?_
      refine asg h63 rfl rfl fun a64 h64 => ?_
      clear hK21 h62 h63 K21 a62 a63
      refine wpL_nil (hK22 _ _ ?_)
      refine rtn (leave h64 (res2 h64 rfl (rvt rfl) (rvt rfl)) ?_)
      have e : Pl.putN n d = none := by rw [Pl.putN, if_neg (by simp at hb2; simp [hb2]; omega)]; simp only [Option.isSome_eq_false_iff, Option.isNone_iff_eq_none] at hb3; rw [hb3]; simp only; rw [if_pos]; rw [show (d - 1).toNat = k by omega]; exact hp5
      exact ⟨_, rfl, _, by rw [e]; rfl, by rw [e]; exact Byt.nil _ _, hB⟩
     ·
      have hp5 := of_decide_eq_false hb5
      refine cdf h62 rfl hb5 ?_
      refine skp (hK20 _ _ ?_)
      refine sq fun K23 hK23 => ?_
      refine reg [some 53, some 4, some 5] rfl ?_
      refine mv h62 rfl rfl fun a65 h65 => ?_
      refine asg h65 rfl rfl fun a66 h66 => ?_
      refine asg h66 rfl rfl fun a67 h67 => ?_
      clear hK21 hK20 h62 h65 h66 K21 K20 a62 a65 a66
      refine wpL_nil (hK23 _ _ ?_)
      refine rtn (leave h67 (res2 h67 rfl (rvt rfl) (rvt rfl)) ?_)
      have hk0 : (d - 1).toNat = k := by omega
      have e : Pl.putN n d = some (128 :: Pl.byD (d - 1).toNat n) := by rw [Pl.putN, if_neg (by simp at hb2; simp [hb2]; omega)]; simp only [Option.isSome_eq_false_iff, Option.isNone_iff_eq_none] at hb3; rw [hb3]; simp only; rw [if_neg]; rw [hk0]; exact hp5
      exact ⟨_, rfl, _, by rw [e]; rfl, by rw [e]; exact (Blk.byt (bs := 128 :: Pl.byD (d - 1).toNat n) (by rw [hk0]; rw [show d.toNat - 1 - k = 0 by omega] at hg31; simpa using hg31) _ (by simp [Pl.byD_length]; omega) (by simp [Pl.byD_length]; omega) (by omega)).mono (fun b hb => by omega), hB⟩

end Go.Proofs.Ytpgeogdmjgmimaa
