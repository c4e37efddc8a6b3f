/-
  Walks, written by wip/gen/gen.py.
-/
import Derived.Test.YtpgeogdmjgmimaaW2
set_option linter.unusedVariables false
set_option linter.unusedSimpArgs false
set_option maxRecDepth 4000
namespace Go.Proofs.Ytpgeogdmjgmimaa
open Go Go.RowKit K

def numV (o : Option Int) : Value := .tuple #[.int .i64 (o.getD 0), .bool o.isSome]
theorem get_raw0 {b : List UInt8} (h : Pl.getRaw b = none) : Pl.getN b = none := by
  unfold Pl.getN; split
  · rfl
  · rw [h]
theorem raw8 {b : List UInt8} {x : UInt8} {r : Option Int} (hx : b[0]? = some x) (hp : ¬ ((x.toNat : Int) = 128)) (h : Pl.getRun 8 ((b.take (b.length - 1)).drop 0) 0 = r) : Pl.getRaw b = r := by
  rw [Pl.getRaw, hx, if_neg (by intro e; cases e; exact hp rfl)]; exact h
theorem raw256 {b : List UInt8} {x : UInt8} {r : Option Int} (hx : b[0]? = some x) (hp : (x.toNat : Int) = 128) (h : Pl.getRun 256 ((b.take b.length).drop 1) 0 = r) : Pl.getRaw b = r := by
  rw [Pl.getRaw, hx, if_pos (by rw [show x = 128 from UInt8.toNat_inj.1 (by show x.toNat = 128; omega)])]; exact h
theorem get_end {b : List UInt8} {m : Int} (hw : 2 ≤ b.length ∧ b.length ≤ 20) (h : Pl.getRaw b = some m) : Pl.getN b = if Pl.putN m b.length = some b then some m else none := by
  rw [Pl.getN, if_neg (by simp [Pl.width]; omega), h]
theorem put_ne {o : Option (List UInt8)} {b : List UInt8} (h : o.isSome = false) : o ≠ some b := by intro e; rw [e] at h; cases h
theorem put_eq {o : Option (List UInt8)} {b : List UInt8} (h : o.isSome = true) (e : o.getD [] = b) : o = some b := by
  cases o with
  | none => cases h
  | some c => rw [← e]; rfl
theorem put_ne2 {o : Option (List UInt8)} {b : List UInt8} (e : ¬ (o.getD [] = b)) : o ≠ some b := by intro h; rw [h] at e; exact e rfl

/-- num.Get -/
theorem c_numGet {S : Nat → Prop} (v : Value) (b : List UInt8) (w : World) (hv : Byt S w v b) :
  C Try.prog 93 [v] w fun v w' => v = numV (Pl.getN b) ∧ Kept w w' := by
 refine enterE Try.func93 rfl 71 rfl rfl fun a0 h0 => ?_
 have hB := Kept.refl w
 refine sq fun K1 hK1 => ?_
 refine reg [some 2, some 3] rfl ?_
 refine asg h0 rfl rfl fun a1 h1 => ?_
 refine asg h1 rfl rfl fun a2 h2 => ?_
 clear h0 h1 a0 a1
 refine wpL_nil (hK1 _ _ ?_)
 refine sq fun K2 hK2 => ?_
 refine sq fun K3 hK3 => ?_
 refine reg [some 12, some 13, some 14, some 15] rfl ?_
 refine mv h2 rfl rfl fun a3 h3 => ?_
 refine lnx h3 rfl Try.underlying35 rfl hv.isl rfl fun a4 h4 => ?_
 refine cal h4 Try.call141 rfl (c_width _ _) rfl ?_
 rintro v1 w1 a5 ⟨rfl, rfl⟩ h5
 refine unot h5 rfl rfl fun a6 h6 => ?_
 clear hK1 h2 h3 h4 h5 K1 a2 a3 a4 a5
 refine wpL_nil (hK3 _ _ ?_)
 refine spl h6 (d := 15) rfl (fun hb1 => ?_) (fun hb1 => ?_)
 ·
  refine cdt h6 rfl (bnf (bunt hb1)) ?_
  refine sq fun K4 hK4 => ?_
  refine reg [some 2, some 3] rfl ?_
  refine asg h6 rfl rfl fun a7 h7 => ?_
  refine asg h7 rfl rfl fun a8 h8 => ?_
  clear hK3 h6 h7 K3 a6 a7
  refine wpL_nil (hK4 _ _ ?_)
  refine rtn (leave h8 (res2 h8 rfl (rvt rfl) (rvt rfl)) ?_)
  exact ⟨_, rfl, by rw [Pl.getN, if_pos (by simpa using hb1)]; rfl, hB⟩
 ·
  obtain ⟨hw1, hw2⟩ := Pl.width_range (bunf hb1)
  obtain ⟨x0, hx0⟩ : ∃ x, b[0]? = some x := ⟨_, List.getElem?_eq_getElem (by omega)⟩
  refine cdf h6 rfl (bnt (bunf hb1)) ?_
  refine skp (hK2 _ _ ?_)
  refine sq fun K5 hK5 => ?_
  refine reg [some 4] rfl ?_
  refine asg h6 rfl rfl fun a9 h9 => ?_
  clear hK3 hK2 h6 K3 K2 a6
  refine wpL_nil (hK5 _ _ ?_)
  refine sq fun K6 hK6 => ?_
  refine reg [some 16, some 17, some 18, some 5, some 6, some 7] rfl ?_
  refine mv h9 rfl rfl fun a10 h10 => ?_
  refine lnx h10 rfl Try.underlying35 rfl hv.isl rfl fun a11 h11 => ?_
  refine sub h11 rfl rfl rfl (by omega) fun a12 h12 => ?_
  refine asg h12 rfl rfl fun a13 h13 => ?_
  refine asg h13 rfl rfl fun a14 h14 => ?_
  refine asg h14 rfl rfl fun a15 h15 => ?_
  clear hK5 h9 h10 h11 h12 h13 h14 K5 a9 a10 a11 a12 a13 a14
  refine wpL_nil (hK6 _ _ ?_)
  refine sq fun K7 hK7 => ?_
  refine sq fun K8 hK8 => ?_
  refine reg [some 19, some 20, some 21, some 22] rfl ?_
  refine mv h15 rfl rfl fun a16 h16 => ?_
  refine ixB (k := 0) hv h16 rfl rfl Try.underlying35 Try.sizeOf5 Try.isAgg5 (by simp) (hx0) rfl rfl fun a17 z20 h17 => ?_
  refine ieq h17 rfl rfl rfl fun a18 h18 => ?_
  clear hK6 h15 h16 h17 K6 a15 a16 a17
  refine wpL_nil (hK8 _ _ ?_)
  refine spl h18 (d := 22) rfl (fun hb2 => ?_) (fun hb2 => ?_)
  ·
   have hp2 := of_decide_eq_true hb2
   refine cdt h18 rfl hb2 ?_
   refine reg [some 23, some 24, some 5, some 6, some 7] rfl ?_
   refine mv h18 rfl rfl fun a19 h19 => ?_
   refine lnx h19 rfl Try.underlying35 rfl hv.isl rfl fun a20 h20 => ?_
   refine asg h20 rfl rfl fun a21 h21 => ?_
   refine asg h21 rfl rfl fun a22 h22 => ?_
   refine asg h22 rfl rfl fun a23 h23 => ?_
   clear hK8 h18 h19 h20 h21 h22 K8 a18 a19 a20 a21 a22
   refine wpL_nil (hK7 _ _ ?_)
   refine sq fun K9 hK9 => ?_
   refine sq fun K10 hK10 => ?_
   refine reg [some 25, some 26, some 27, some 28, some 29, some 30] rfl ?_
   refine mv h23 rfl rfl fun a24 h24 => ?_
   refine mv h24 rfl rfl fun a25 h25 => ?_
   refine mv h25 rfl rfl fun a26 h26 => ?_
   refine slB (1) (b.length) hv h26 Try.underlying35 rfl Try.sizeOf5 ⟨_, rfl, by first | omega | (simp; omega)⟩ ⟨_, rfl, by first | omega | (simp; omega)⟩ (by omega) (by omega) rfl fun a27 v28' h27 hs28 => ?_
   refine lnx h27 rfl Try.underlying35 rfl hs28.isl rfl fun a28 h28 => ?_
   refine mv h28 rfl rfl fun a29 h29 => ?_
   clear hK7 h23 h24 h25 h26 h27 h28 K7 a23 a24 a25 a26 a27 a28
   refine wpL_nil (hK10 _ _ ?_)
   refine blc ?_
   clear hK10 K10
   refine lp (fun (k : Nat) (a : Act) (W : World) => ∃ (m : Int), Has [] 71 [(0, v), (4, .int .i64 m), (5, .int .i64 256), (28, v28'), (29, .int .i64 (((b.take b.length).drop 1).length : Int)), (30, .int .i64 (k : Int))] a ∧ (k ≤ ((b.take b.length).drop 1).length) ∧ (-9223372036854775808 ≤ m ∧ m ≤ 9223372036854775807) ∧ (Pl.getRun 256 ((b.take b.length).drop 1) 0 = Pl.getRun 256 (((b.take b.length).drop 1).drop k) m) ∧ (Byt S W v28' ((b.take b.length).drop 1)) ∧ (Byt S W v b) ∧ (Kept w W)) (fun (k : Nat) => ((b.take b.length).drop 1).length - k) (0) ⟨0, (h29.cons' rfl (h29.cons' rfl (h29.cons' rfl (h29.cons' rfl (h29.cons' rfl (h29.cons' rfl (h29.nil'))))))), Nat.zero_le _, ⟨by omega, by omega⟩, rfl, hs28, hv, hB⟩ ?_
   clear h29 hs28 hv hB
   rintro k a30 w2 ⟨m, h30, hk, hm, hq, hs28, hv, hB⟩
   have hxl : ((b.take b.length).drop 1).length ≤ 20 := by simp; omega
   refine sq fun K11 hK11 => ?_
   refine reg [some 31] rfl ?_
   refine lss h30 rfl rfl rfl fun a31 h31 => ?_
   clear h30 a30
   refine wpL_nil (hK11 _ _ ?_)
   refine sq fun K12 hK12 => ?_
   refine spl h31 (d := 31) rfl (fun hb3 => ?_) (fun hb3 => ?_)
   ·
    have hp3 := of_decide_eq_true hb3
    obtain ⟨x, hx⟩ := List.getElem?_eq_getElem (l := _) (i := k) (by first | exact Int.ofNat_lt.1 (of_decide_eq_true hb3)) |> fun h => (⟨_, h⟩ : ∃ x, _ = some x)
    refine cdt h31 rfl hb3 ?_
    refine skp (hK12 _ _ ?_)
    refine sq fun K13 hK13 => ?_
    refine blc ?_
    refine sq fun K14 hK14 => ?_
    refine reg [some 32, some 33, some 9] rfl ?_
    refine ixB (k := k) hs28 h31 rfl rfl Try.underlying35 Try.sizeOf5 Try.isAgg5 (by simp) (hx) rfl rfl fun a32 z32 h32 => ?_
    refine asg h32 rfl rfl fun a33 h33 => ?_
    clear hK11 hK12 h31 h32 K11 K12 a31 a32
    refine wpL_nil (hK14 _ _ ?_)
    refine sq fun K15 hK15 => ?_
    refine sq fun K16 hK16 => ?_
    refine reg [some 34, some 35] rfl ?_
    refine mv h33 rfl rfl fun a34 h34 => ?_
    refine ieq h34 rfl rfl rfl fun a35 h35 => ?_
    clear hK14 h33 h34 K14 a33 a34
    refine wpL_nil (hK16 _ _ ?_)
    refine knownF h35 (d := 35) rfl (rfl) fun hb4 => ?_
    have hp4 := of_decide_eq_false hb4
    refine cdf h35 rfl hb4 ?_
    refine skp (hK15 _ _ ?_)
    refine sq fun K17 hK17 => ?_
    refine sq fun K18 hK18 => ?_
    refine reg [some 38, some 39, some 40, some 41, some 42, some 43, some 44, some 45, some 46, some 47] rfl ?_
    refine mv h35 rfl rfl fun a36 h36 => ?_
    refine geq h36 rfl rfl rfl fun a37 h37 => ?_
    refine mv h37 rfl rfl fun a38 h38 => ?_
    refine spl h38 (d := 40) rfl (fun hb5 => ?_) (fun hb5 => ?_)
    ·
     have hp5 := of_decide_eq_true hb5
     refine gon h38 (d := 40) rfl rfl hb5 ?_
     refine mv h38 rfl rfl fun a39 h39 => ?_
     refine gon h39 (d := 40) rfl rfl hb5 ?_
     refine ieq h39 rfl rfl rfl fun a40 h40 => ?_
     refine pkt h40 rfl hb5 rfl rfl fun a41 h41 => ?_
     refine mv h41 rfl rfl fun a42 h42 => ?_
     refine spl h42 (d := 44) rfl (fun hb6 => ?_) (fun hb6 => ?_)
     ·
      have hp6 := of_decide_eq_true hb6
      refine goff h42 (d := 44) rfl rfl hb6 rfl fun a43 h43 => ?_
      refine goff h43 (d := 44) rfl rfl hb6 rfl fun a44 h44 => ?_
      refine pkt h44 rfl hb6 rfl rfl fun a45 h45 => ?_
      clear hK16 hK15 h35 h36 h37 h38 h39 h40 h41 h42 h43 h44 K16 K15 a35 a36 a37 a38 a39 a40 a41 a42 a43 a44
      refine wpL_nil (hK18 _ _ ?_)
      refine cdt h45 rfl rfl ?_
      refine sq fun K19 hK19 => ?_
      refine reg [some 2, some 3] rfl ?_
      refine asg h45 rfl rfl fun a46 h46 => ?_
      refine asg h46 rfl rfl fun a47 h47 => ?_
      clear hK18 h45 h46 K18 a45 a46
      refine wpL_nil (hK19 _ _ ?_)
      refine rtn (leave h47 (res2 h47 rfl (rvt rfl) (rvt rfl)) ?_)
      have e := get_raw0 (raw256 hx0 hp2 (hq.trans (Pl.getRun_stop hx (by rw [Pl.getStep, if_pos (by omega)]))))
      exact ⟨_, rfl, by rw [e]; rfl, hB⟩
     ·
      have hp6 := of_decide_eq_false hb6
      refine gon h42 (d := 44) rfl rfl hb6 ?_
      refine mv h42 rfl rfl fun a48 h48 => ?_
      refine gon h48 (d := 44) rfl rfl hb6 ?_
      refine geq h48 rfl rfl rfl fun a49 h49 => ?_
      refine pkf h49 rfl hb6 rfl rfl fun a50 h50 => ?_
      clear hK16 hK15 h35 h36 h37 h38 h39 h40 h41 h42 h48 h49 K16 K15 a35 a36 a37 a38 a39 a40 a41 a42 a48 a49
      refine wpL_nil (hK18 _ _ ?_)
      refine spl h50 (d := 47) rfl (fun hb7 => ?_) (fun hb7 => ?_)
      ·
       have hp7 := of_decide_eq_true hb7
       refine cdt h50 rfl hb7 ?_
       refine sq fun K20 hK20 => ?_
       refine reg [some 2, some 3] rfl ?_
       refine asg h50 rfl rfl fun a51 h51 => ?_
       refine asg h51 rfl rfl fun a52 h52 => ?_
       clear hK18 h50 h51 K18 a50 a51
       refine wpL_nil (hK20 _ _ ?_)
       refine rtn (leave h52 (res2 h52 rfl (rvt rfl) (rvt rfl)) ?_)
       have e := get_raw0 (raw256 hx0 hp2 (hq.trans (Pl.getRun_stop hx (by rw [Pl.getStep, if_pos (by omega)]))))
       exact ⟨_, rfl, by rw [e]; rfl, hB⟩
      ·
       have hp7 := of_decide_eq_false hb7
       refine cdf h50 rfl hb7 ?_
       refine skp (hK17 _ _ ?_)
       refine reg [some 48, some 49, some 50, some 51, some 52, some 53, some 4] rfl ?_
       refine mv h50 rfl rfl fun a53 h53 => ?_
       refine mv h53 rfl rfl fun a54 h54 => ?_
       refine mulw h54 rfl rfl rfl fun a55 h55 => ?_
       refine mv h55 rfl rfl fun a56 h56 => ?_
       refine ctoi h56 rfl Try.underlying5 Try.underlying3 rfl (by first | exact Pl.wrapu8_range _ | (have := x.toNat_lt; omega)) fun a57 h57 => ?_
       refine addw h57 rfl rfl rfl fun a58 h58 => ?_
       refine asg h58 rfl rfl fun a59 h59 => ?_
       clear hK18 hK17 h50 h53 h54 h55 h56 h57 h58 K18 K17 a50 a53 a54 a55 a56 a57 a58
       refine wpL_nil (hK13 _ _ ?_)
       refine reg [some 54, some 30] rfl ?_
       refine add h59 rfl rfl rfl (by omega) fun a60 h60 => ?_
       refine mv h60 rfl rfl fun a61 h61 => ?_
       clear hK13 h59 h60 K13 a59 a60
       refine wpL_nil ?_
       exact ⟨k + 1, ⟨_, (h61.cons' rfl (h61.cons' rfl (h61.cons' rfl (h61.cons' rfl (h61.cons' rfl (h61.cons' (lke rfl (by simp)) (h61.nil'))))))), by omega, Pl.wrap_range _, (hq.trans (Pl.getRun_next hx (by rw [Pl.getStep, if_neg (by omega)]; rfl))), hs28, hv, hB⟩, by omega⟩
    ·
     have hp5 := of_decide_eq_false hb5
     refine goff h38 (d := 40) rfl rfl hb5 rfl fun a62 h62 => ?_
     refine goff h62 (d := 40) rfl rfl hb5 rfl fun a63 h63 => ?_
     refine pkf h63 rfl hb5 rfl rfl fun a64 h64 => ?_
     refine mv h64 rfl rfl fun a65 h65 => ?_
     refine gon h65 (d := 44) rfl rfl rfl ?_
     refine mv h65 rfl rfl fun a66 h66 => ?_
     refine gon h66 (d := 44) rfl rfl rfl ?_
     refine geq h66 rfl rfl rfl fun a67 h67 => ?_
     refine pkf h67 rfl rfl rfl rfl fun a68 h68 => ?_
     clear hK16 hK15 h35 h36 h37 h38 h62 h63 h64 h65 h66 h67 K16 K15 a35 a36 a37 a38 a62 a63 a64 a65 a66 a67
     refine wpL_nil (hK18 _ _ ?_)
     refine spl h68 (d := 47) rfl (fun hb8 => ?_) (fun hb8 => ?_)
     ·
      have hp8 := of_decide_eq_true hb8
      refine cdt h68 rfl hb8 ?_
      refine sq fun K21 hK21 => ?_
      refine reg [some 2, some 3] rfl ?_
      refine asg h68 rfl rfl fun a69 h69 => ?_
      refine asg h69 rfl rfl fun a70 h70 => ?_
      clear hK18 h68 h69 K18 a68 a69
      refine wpL_nil (hK21 _ _ ?_)
      refine rtn (leave h70 (res2 h70 rfl (rvt rfl) (rvt rfl)) ?_)
      have e := get_raw0 (raw256 hx0 hp2 (hq.trans (Pl.getRun_stop hx (by rw [Pl.getStep, if_pos (by omega)]))))
      exact ⟨_, rfl, by rw [e]; rfl, hB⟩
     ·
      have hp8 := of_decide_eq_false hb8
      refine cdf h68 rfl hb8 ?_
      refine skp (hK17 _ _ ?_)
      refine reg [some 48, some 49, some 50, some 51, some 52, some 53, some 4] rfl ?_
      refine mv h68 rfl rfl fun a71 h71 => ?_
      refine mv h71 rfl rfl fun a72 h72 => ?_
      refine mulw h72 rfl rfl rfl fun a73 h73 => ?_
      refine mv h73 rfl rfl fun a74 h74 => ?_
      refine ctoi h74 rfl Try.underlying5 Try.underlying3 rfl (by first | exact Pl.wrapu8_range _ | (have := x.toNat_lt; omega)) fun a75 h75 => ?_
      refine addw h75 rfl rfl rfl fun a76 h76 => ?_
      refine asg h76 rfl rfl fun a77 h77 => ?_
      clear hK18 hK17 h68 h71 h72 h73 h74 h75 h76 K18 K17 a68 a71 a72 a73 a74 a75 a76
      refine wpL_nil (hK13 _ _ ?_)
      refine reg [some 54, some 30] rfl ?_
      refine add h77 rfl rfl rfl (by omega) fun a78 h78 => ?_
      refine mv h78 rfl rfl fun a79 h79 => ?_
      clear hK13 h77 h78 K13 a77 a78
      refine wpL_nil ?_
      exact ⟨k + 1, ⟨_, (h79.cons' rfl (h79.cons' rfl (h79.cons' rfl (h79.cons' rfl (h79.cons' rfl (h79.cons' (lke rfl (by simp)) (h79.nil'))))))), by omega, Pl.wrap_range _, (hq.trans (Pl.getRun_next hx (by rw [Pl.getStep, if_neg (by omega)]; rfl))), hs28, hv, hB⟩, by omega⟩
   ·
    have hp3 := of_decide_eq_false hb3
    refine cdf h31 rfl hb3 ?_
    refine xit (hK9 _ _ ?_)
    refine sq fun K22 hK22 => ?_
    refine sq fun K23 hK23 => ?_
    refine reg [some 56, some 57, some 58, some 59, some 55, some 60, some 61, some 10, some 11] rfl ?_
    refine mv h31 rfl rfl fun a80 h80 => ?_
    refine mv h80 rfl rfl fun a81 h81 => ?_
    refine lnx h81 rfl Try.underlying35 rfl hv.isl rfl fun a82 h82 => ?_
    have hsz3 := hB.size
    refine cal h82 Try.call101 rfl (c_numPut _ _ _ ⟨by omega, by omega⟩ ⟨by omega, by omega⟩) rfl ?_
    rintro v3 w3 a83 ⟨u3, rfl, hu3, hk3⟩ h83
    replace hv := hv.kept hk3
    replace hB := Kept.trans hB hk3
    replace hu3 := hu3.lt
    refine mv h83 rfl rfl fun a84 h84 => ?_
    refine ext2_0 h84 rfl rfl fun a85 h85 => ?_
    refine ext2_1 h85 rfl rfl fun a86 h86 => ?_
    refine asg h86 rfl rfl fun a87 h87 => ?_
    refine asg h87 rfl rfl fun a88 h88 => ?_
    clear hK11 hK9 hK12 h31 h80 h81 h82 h83 h84 h85 h86 h87 K11 K9 K12 a31 a80 a81 a82 a83 a84 a85 a86 a87
    refine wpL_nil (hK23 _ _ ?_)
    refine sq fun K24 hK24 => ?_
    refine reg [some 62, some 63, some 64, some 65, some 66, some 67, some 68, some 69] rfl ?_
    refine mv h88 rfl rfl fun a89 h89 => ?_
    refine unot h89 rfl rfl fun a90 h90 => ?_
    refine mv h90 rfl rfl fun a91 h91 => ?_
    refine spl h91 (d := 64) rfl (fun hb9 => ?_) (fun hb9 => ?_)
    ·
     refine goff h91 (d := 64) rfl rfl (bnf (bunt hb9)) rfl fun a92 h92 => ?_
     refine goff h92 (d := 64) rfl rfl (bnf (bunt hb9)) rfl fun a93 h93 => ?_
     refine goff h93 (d := 64) rfl rfl (bnf (bunt hb9)) rfl fun a94 h94 => ?_
     refine goff h94 (d := 64) rfl rfl (bnf (bunt hb9)) rfl fun a95 h95 => ?_
     refine pkt h95 rfl (bnf (bunt hb9)) rfl rfl fun a96 h96 => ?_
     clear hK23 h88 h89 h90 h91 h92 h93 h94 h95 K23 a88 a89 a90 a91 a92 a93 a94 a95
     refine wpL_nil (hK24 _ _ ?_)
     refine cdt h96 rfl rfl ?_
     refine sq fun K25 hK25 => ?_
     refine reg [some 2, some 3] rfl ?_
     refine asg h96 rfl rfl fun a97 h97 => ?_
     refine asg h97 rfl rfl fun a98 h98 => ?_
     clear hK24 h96 h97 K24 a96 a97
     refine wpL_nil (hK25 _ _ ?_)
     refine rtn (leave h98 (res2 h98 rfl (rvt rfl) (rvt rfl)) ?_)
     have e := get_end ⟨by omega, by omega⟩ (raw256 hx0 hp2 (hq.trans (Pl.getRun_end (by omega))))
     rw [if_neg (put_ne (bunt hb9))] at e
     exact ⟨_, rfl, by rw [e]; rfl, hB⟩
    ·
     refine gon h91 (d := 64) rfl rfl (bnt (bunf hb9)) ?_
     refine mv h91 rfl rfl fun a99 h99 => ?_
     refine gon h99 (d := 64) rfl rfl (bnt (bunf hb9)) ?_
     refine mv h99 rfl rfl fun a100 h100 => ?_
     refine gon h100 (d := 64) rfl rfl (bnt (bunf hb9)) ?_
     refine cal h100 Try.call142 rfl (c_bytesEq _ _ _ _ _ hu3 hv) rfl ?_
     rintro v4 w4 a101 ⟨rfl, hk4⟩ h101
     replace hB := Kept.trans hB hk4
     refine gon h101 (d := 64) rfl rfl (bnt (bunf hb9)) ?_
     refine unot h101 rfl rfl fun a102 h102 => ?_
     refine pkf h102 rfl (bnt (bunf hb9)) rfl rfl fun a103 h103 => ?_
     clear hK23 h88 h89 h90 h91 h99 h100 h101 h102 K23 a88 a89 a90 a91 a99 a100 a101 a102
     refine wpL_nil (hK24 _ _ ?_)
     refine spl h103 (d := 69) rfl (fun hb10 => ?_) (fun hb10 => ?_)
     ·
      refine cdt h103 rfl (bnf (bunt hb10)) ?_
      refine sq fun K26 hK26 => ?_
      refine reg [some 2, some 3] rfl ?_
      refine asg h103 rfl rfl fun a104 h104 => ?_
      refine asg h104 rfl rfl fun a105 h105 => ?_
      clear hK24 h103 h104 K24 a103 a104
      refine wpL_nil (hK26 _ _ ?_)
      refine rtn (leave h105 (res2 h105 rfl (rvt rfl) (rvt rfl)) ?_)
      have e := get_end ⟨by omega, by omega⟩ (raw256 hx0 hp2 (hq.trans (Pl.getRun_end (by omega))))
      rw [if_neg (put_ne2 (of_decide_eq_false (bunt hb10)))] at e
      exact ⟨_, rfl, by rw [e]; rfl, hB⟩
     ·
      refine cdf h103 rfl (bnt (bunf hb10)) ?_
      refine skp (hK22 _ _ ?_)
      refine sq fun K27 hK27 => ?_
      refine reg [some 70, some 2, some 3] rfl ?_
      refine mv h103 rfl rfl fun a106 h106 => ?_
      refine asg h106 rfl rfl fun a107 h107 => ?_
      refine asg h107 rfl rfl fun a108 h108 => ?_
      clear hK24 hK22 h103 h106 h107 K24 K22 a103 a106 a107
      refine wpL_nil (hK27 _ _ ?_)
      refine rtn (leave h108 (res2 h108 rfl (rvt rfl) (rvt rfl)) ?_)
      have e := get_end ⟨by omega, by omega⟩ (raw256 hx0 hp2 (hq.trans (Pl.getRun_end (by omega))))
      rw [if_pos (put_eq (bunf hb9) (of_decide_eq_true (bunf hb10)))] at e
      exact ⟨_, rfl, by rw [e]; rfl, hB⟩
  ·
   have hp2 := of_decide_eq_false hb2
   refine cdf h18 rfl hb2 ?_
   refine skp (hK7 _ _ ?_)
   refine sq fun K28 hK28 => ?_
   refine sq fun K29 hK29 => ?_
   refine reg [some 25, some 26, some 27, some 28, some 29, some 30] rfl ?_
   refine mv h18 rfl rfl fun a109 h109 => ?_
   refine mv h109 rfl rfl fun a110 h110 => ?_
   refine mv h110 rfl rfl fun a111 h111 => ?_
   refine slB (0) (b.length - 1) hv h111 Try.underlying35 rfl Try.sizeOf5 ⟨_, rfl, by first | omega | (simp; omega)⟩ ⟨_, rfl, by first | omega | (simp; omega)⟩ (by omega) (by omega) rfl fun a112 v28' h112 hs28 => ?_
   refine lnx h112 rfl Try.underlying35 rfl hs28.isl rfl fun a113 h113 => ?_
   refine mv h113 rfl rfl fun a114 h114 => ?_
   clear hK8 hK7 h18 h109 h110 h111 h112 h113 K8 K7 a18 a109 a110 a111 a112 a113
   refine wpL_nil (hK29 _ _ ?_)
   refine blc ?_
   clear hK29 K29
   refine lp (fun (k : Nat) (a : Act) (W : World) => ∃ (m : Int), Has [] 71 [(0, v), (4, .int .i64 m), (5, .int .i64 8), (28, v28'), (29, .int .i64 (((b.take (b.length - 1)).drop 0).length : Int)), (30, .int .i64 (k : Int))] a ∧ (k ≤ ((b.take (b.length - 1)).drop 0).length) ∧ (-9223372036854775808 ≤ m ∧ m ≤ 9223372036854775807) ∧ (Pl.getRun 8 ((b.take (b.length - 1)).drop 0) 0 = Pl.getRun 8 (((b.take (b.length - 1)).drop 0).drop k) m) ∧ (Byt S W v28' ((b.take (b.length - 1)).drop 0)) ∧ (Byt S W v b) ∧ (Kept w W)) (fun (k : Nat) => ((b.take (b.length - 1)).drop 0).length - k) (0) ⟨0, (h114.cons' rfl (h114.cons' rfl (h114.cons' rfl (h114.cons' rfl (h114.cons' rfl (h114.cons' rfl (h114.nil'))))))), Nat.zero_le _, ⟨by omega, by omega⟩, rfl, hs28, hv, hB⟩ ?_
   clear h114 hs28 hv hB
   rintro k a115 w5 ⟨m, h115, hk, hm, hq, hs28, hv, hB⟩
   have hxl : ((b.take (b.length - 1)).drop 0).length ≤ 20 := by simp; omega
   refine sq fun K30 hK30 => ?_
   refine reg [some 31] rfl ?_
   refine lss h115 rfl rfl rfl fun a116 h116 => ?_
   clear h115 a115
   refine wpL_nil (hK30 _ _ ?_)
   refine sq fun K31 hK31 => ?_
   refine spl h116 (d := 31) rfl (fun hb11 => ?_) (fun hb11 => ?_)
   ·
    have hp11 := of_decide_eq_true hb11
    obtain ⟨x, hx⟩ := List.getElem?_eq_getElem (l := _) (i := k) (by first | exact Int.ofNat_lt.1 (of_decide_eq_true hb11)) |> fun h => (⟨_, h⟩ : ∃ x, _ = some x)
    refine cdt h116 rfl hb11 ?_
    refine skp (hK31 _ _ ?_)
    refine sq fun K32 hK32 => ?_
    refine blc ?_
    refine sq fun K33 hK33 => ?_
    refine reg [some 32, some 33, some 9] rfl ?_
    refine ixB (k := k) hs28 h116 rfl rfl Try.underlying35 Try.sizeOf5 Try.isAgg5 (by simp) (hx) rfl rfl fun a117 z32 h117 => ?_
    refine asg h117 rfl rfl fun a118 h118 => ?_
    clear hK30 hK31 h116 h117 K30 K31 a116 a117
    refine wpL_nil (hK33 _ _ ?_)
    refine sq fun K34 hK34 => ?_
    refine sq fun K35 hK35 => ?_
    refine reg [some 34, some 35] rfl ?_
    refine mv h118 rfl rfl fun a119 h119 => ?_
    refine ieq h119 rfl rfl rfl fun a120 h120 => ?_
    clear hK33 h118 h119 K33 a118 a119
    refine wpL_nil (hK35 _ _ ?_)
    refine knownT h120 (d := 35) rfl (rfl) fun hb12 => ?_
    have hp12 := of_decide_eq_true hb12
    refine cdt h120 rfl hb12 ?_
    refine reg [some 36, some 37, some 9] rfl ?_
    refine mv h120 rfl rfl fun a121 h121 => ?_
    refine subw h121 rfl rfl rfl fun a122 h122 => ?_
    refine asg h122 rfl rfl fun a123 h123 => ?_
    clear hK35 h120 h121 h122 K35 a120 a121 a122
    refine wpL_nil (hK34 _ _ ?_)
    refine sq fun K36 hK36 => ?_
    refine sq fun K37 hK37 => ?_
    refine reg [some 38, some 39, some 40, some 41, some 42, some 43, some 44, some 45, some 46, some 47] rfl ?_
    refine mv h123 rfl rfl fun a124 h124 => ?_
    refine geq h124 rfl rfl rfl fun a125 h125 => ?_
    refine mv h125 rfl rfl fun a126 h126 => ?_
    refine spl h126 (d := 40) rfl (fun hb13 => ?_) (fun hb13 => ?_)
    ·
     have hp13 := of_decide_eq_true hb13
     refine gon h126 (d := 40) rfl rfl hb13 ?_
     refine mv h126 rfl rfl fun a127 h127 => ?_
     refine gon h127 (d := 40) rfl rfl hb13 ?_
     refine ieq h127 rfl rfl rfl fun a128 h128 => ?_
     refine pkt h128 rfl hb13 rfl rfl fun a129 h129 => ?_
     refine mv h129 rfl rfl fun a130 h130 => ?_
     refine spl h130 (d := 44) rfl (fun hb14 => ?_) (fun hb14 => ?_)
     ·
      have hp14 := of_decide_eq_true hb14
      refine goff h130 (d := 44) rfl rfl hb14 rfl fun a131 h131 => ?_
      refine goff h131 (d := 44) rfl rfl hb14 rfl fun a132 h132 => ?_
      refine pkt h132 rfl hb14 rfl rfl fun a133 h133 => ?_
      clear hK34 h123 h124 h125 h126 h127 h128 h129 h130 h131 h132 K34 a123 a124 a125 a126 a127 a128 a129 a130 a131 a132
      refine wpL_nil (hK37 _ _ ?_)
      refine cdt h133 rfl rfl ?_
      refine sq fun K38 hK38 => ?_
      refine reg [some 2, some 3] rfl ?_
      refine asg h133 rfl rfl fun a134 h134 => ?_
      refine asg h134 rfl rfl fun a135 h135 => ?_
      clear hK37 h133 h134 K37 a133 a134
      refine wpL_nil (hK38 _ _ ?_)
      refine rtn (leave h135 (res2 h135 rfl (rvt rfl) (rvt rfl)) ?_)
      have e := get_raw0 (raw8 hx0 hp2 (hq.trans (Pl.getRun_stop hx (by rw [Pl.getStep, if_pos (by omega)]))))
      exact ⟨_, rfl, by rw [e]; rfl, hB⟩
     ·
      have hp14 := of_decide_eq_false hb14
      refine gon h130 (d := 44) rfl rfl hb14 ?_
      refine mv h130 rfl rfl fun a136 h136 => ?_
      refine gon h136 (d := 44) rfl rfl hb14 ?_
      refine geq h136 rfl rfl rfl fun a137 h137 => ?_
      refine pkf h137 rfl hb14 rfl rfl fun a138 h138 => ?_
      clear hK34 h123 h124 h125 h126 h127 h128 h129 h130 h136 h137 K34 a123 a124 a125 a126 a127 a128 a129 a130 a136 a137
      refine wpL_nil (hK37 _ _ ?_)
      refine spl h138 (d := 47) rfl (fun hb15 => ?_) (fun hb15 => ?_)
      ·
       have hp15 := of_decide_eq_true hb15
       refine cdt h138 rfl hb15 ?_
       refine sq fun K39 hK39 => ?_
       refine reg [some 2, some 3] rfl ?_
       refine asg h138 rfl rfl fun a139 h139 => ?_
       refine asg h139 rfl rfl fun a140 h140 => ?_
       clear hK37 h138 h139 K37 a138 a139
       refine wpL_nil (hK39 _ _ ?_)
       refine rtn (leave h140 (res2 h140 rfl (rvt rfl) (rvt rfl)) ?_)
       have e := get_raw0 (raw8 hx0 hp2 (hq.trans (Pl.getRun_stop hx (by rw [Pl.getStep, if_pos (by omega)]))))
       exact ⟨_, rfl, by rw [e]; rfl, hB⟩
      ·
       have hp15 := of_decide_eq_false hb15
       refine cdf h138 rfl hb15 ?_
       refine skp (hK36 _ _ ?_)
       refine reg [some 48, some 49, some 50, some 51, some 52, some 53, some 4] rfl ?_
       refine mv h138 rfl rfl fun a141 h141 => ?_
       refine mv h141 rfl rfl fun a142 h142 => ?_
       refine mulw h142 rfl rfl rfl fun a143 h143 => ?_
       refine mv h143 rfl rfl fun a144 h144 => ?_
       refine ctoi h144 rfl Try.underlying5 Try.underlying3 rfl (by first | exact Pl.wrapu8_range _ | (have := x.toNat_lt; omega)) fun a145 h145 => ?_
       refine addw h145 rfl rfl rfl fun a146 h146 => ?_
       refine asg h146 rfl rfl fun a147 h147 => ?_
       clear hK37 hK36 h138 h141 h142 h143 h144 h145 h146 K37 K36 a138 a141 a142 a143 a144 a145 a146
       refine wpL_nil (hK32 _ _ ?_)
       refine reg [some 54, some 30] rfl ?_
       refine add h147 rfl rfl rfl (by omega) fun a148 h148 => ?_
       refine mv h148 rfl rfl fun a149 h149 => ?_
       clear hK32 h147 h148 K32 a147 a148
       refine wpL_nil ?_
       exact ⟨k + 1, ⟨_, (h149.cons' rfl (h149.cons' rfl (h149.cons' rfl (h149.cons' rfl (h149.cons' rfl (h149.cons' (lke rfl (by simp)) (h149.nil'))))))), by omega, Pl.wrap_range _, (hq.trans (Pl.getRun_next hx (by rw [Pl.getStep, if_neg (by omega)]; rfl))), hs28, hv, hB⟩, by omega⟩
    ·
     have hp13 := of_decide_eq_false hb13
     refine goff h126 (d := 40) rfl rfl hb13 rfl fun a150 h150 => ?_
     refine goff h150 (d := 40) rfl rfl hb13 rfl fun a151 h151 => ?_
     refine pkf h151 rfl hb13 rfl rfl fun a152 h152 => ?_
     refine mv h152 rfl rfl fun a153 h153 => ?_
     refine gon h153 (d := 44) rfl rfl rfl ?_
     refine mv h153 rfl rfl fun a154 h154 => ?_
     refine gon h154 (d := 44) rfl rfl rfl ?_
     refine geq h154 rfl rfl rfl fun a155 h155 => ?_
     refine pkf h155 rfl rfl rfl rfl fun a156 h156 => ?_
     clear hK34 h123 h124 h125 h126 h150 h151 h152 h153 h154 h155 K34 a123 a124 a125 a126 a150 a151 a152 a153 a154 a155
     refine wpL_nil (hK37 _ _ ?_)
     refine spl h156 (d := 47) rfl (fun hb16 => ?_) (fun hb16 => ?_)
     ·
      have hp16 := of_decide_eq_true hb16
      refine cdt h156 rfl hb16 ?_
      refine sq fun K40 hK40 => ?_
      refine reg [some 2, some 3] rfl ?_
      refine asg h156 rfl rfl fun a157 h157 => ?_
      refine asg h157 rfl rfl fun a158 h158 => ?_
      clear hK37 h156 h157 K37 a156 a157
      refine wpL_nil (hK40 _ _ ?_)
      refine rtn (leave h158 (res2 h158 rfl (rvt rfl) (rvt rfl)) ?_)
      have e := get_raw0 (raw8 hx0 hp2 (hq.trans (Pl.getRun_stop hx (by rw [Pl.getStep, if_pos (by omega)]))))
      exact ⟨_, rfl, by rw [e]; rfl, hB⟩
     ·
      have hp16 := of_decide_eq_false hb16
      refine cdf h156 rfl hb16 ?_
      refine skp (hK36 _ _ ?_)
      refine reg [some 48, some 49, some 50, some 51, some 52, some 53, some 4] rfl ?_
      refine mv h156 rfl rfl fun a159 h159 => ?_
      refine mv h159 rfl rfl fun a160 h160 => ?_
      refine mulw h160 rfl rfl rfl fun a161 h161 => ?_
      refine mv h161 rfl rfl fun a162 h162 => ?_
      refine ctoi h162 rfl Try.underlying5 Try.underlying3 rfl (by first | exact Pl.wrapu8_range _ | (have := x.toNat_lt; omega)) fun a163 h163 => ?_
      refine addw h163 rfl rfl rfl fun a164 h164 => ?_
      refine asg h164 rfl rfl fun a165 h165 => ?_
      clear hK37 hK36 h156 h159 h160 h161 h162 h163 h164 K37 K36 a156 a159 a160 a161 a162 a163 a164
      refine wpL_nil (hK32 _ _ ?_)
      refine reg [some 54, some 30] rfl ?_
      refine add h165 rfl rfl rfl (by omega) fun a166 h166 => ?_
      refine mv h166 rfl rfl fun a167 h167 => ?_
      clear hK32 h165 h166 K32 a165 a166
      refine wpL_nil ?_
      exact ⟨k + 1, ⟨_, (h167.cons' rfl (h167.cons' rfl (h167.cons' rfl (h167.cons' rfl (h167.cons' rfl (h167.cons' (lke rfl (by simp)) (h167.nil'))))))), by omega, Pl.wrap_range _, (hq.trans (Pl.getRun_next hx (by rw [Pl.getStep, if_neg (by omega)]; rfl))), hs28, hv, hB⟩, by omega⟩
   ·
    have hp11 := of_decide_eq_false hb11
    refine cdf h116 rfl hb11 ?_
    refine xit (hK28 _ _ ?_)
    refine sq fun K41 hK41 => ?_
    refine sq fun K42 hK42 => ?_
    refine reg [some 56, some 57, some 58, some 59, some 55, some 60, some 61, some 10, some 11] rfl ?_
    refine mv h116 rfl rfl fun a168 h168 => ?_
    refine mv h168 rfl rfl fun a169 h169 => ?_
    refine lnx h169 rfl Try.underlying35 rfl hv.isl rfl fun a170 h170 => ?_
    have hsz6 := hB.size
    refine cal h170 Try.call101 rfl (c_numPut _ _ _ ⟨by omega, by omega⟩ ⟨by omega, by omega⟩) rfl ?_
    rintro v6 w6 a171 ⟨u6, rfl, hu6, hk6⟩ h171
    replace hv := hv.kept hk6
    replace hB := Kept.trans hB hk6
    replace hu6 := hu6.lt
    refine mv h171 rfl rfl fun a172 h172 => ?_
    refine ext2_0 h172 rfl rfl fun a173 h173 => ?_
    refine ext2_1 h173 rfl rfl fun a174 h174 => ?_
    refine asg h174 rfl rfl fun a175 h175 => ?_
    refine asg h175 rfl rfl fun a176 h176 => ?_
    clear hK30 hK28 hK31 h116 h168 h169 h170 h171 h172 h173 h174 h175 K30 K28 K31 a116 a168 a169 a170 a171 a172 a173 a174 a175
    refine wpL_nil (hK42 _ _ ?_)
    refine sq fun K43 hK43 => ?_
    refine reg [some 62, some 63, some 64, some 65, some 66, some 67, some 68, some 69] rfl ?_
    refine mv h176 rfl rfl fun a177 h177 => ?_
    refine unot h177 rfl rfl fun a178 h178 => ?_
    refine mv h178 rfl rfl fun a179 h179 => ?_
    refine spl h179 (d := 64) rfl (fun hb17 => ?_) (fun hb17 => ?_)
    ·
     refine goff h179 (d := 64) rfl rfl (bnf (bunt hb17)) rfl fun a180 h180 => ?_
     refine goff h180 (d := 64) rfl rfl (bnf (bunt hb17)) rfl fun a181 h181 => ?_
     refine goff h181 (d := 64) rfl rfl (bnf (bunt hb17)) rfl fun a182 h182 => ?_
     refine goff h182 (d := 64) rfl rfl (bnf (bunt hb17)) rfl fun a183 h183 => ?_
     refine pkt h183 rfl (bnf (bunt hb17)) rfl rfl fun a184 h184 => ?_
     clear hK42 h176 h177 h178 h179 h180 h181 h182 h183 K42 a176 a177 a178 a179 a180 a181 a182 a183
     refine wpL_nil (hK43 _ _ ?_)
     refine cdt h184 rfl rfl ?_
     refine sq fun K44 hK44 => ?_
     refine reg [some 2, some 3] rfl ?_
     refine asg h184 rfl rfl fun a185 h185 => ?_
     refine asg h185 rfl rfl fun a186 h186 => ?_
     clear hK43 h184 h185 K43 a184 a185
     refine wpL_nil (hK44 _ _ ?_)
     refine rtn (leave h186 (res2 h186 rfl (rvt rfl) (rvt rfl)) ?_)
     have e := get_end ⟨by omega, by omega⟩ (raw8 hx0 hp2 (hq.trans (Pl.getRun_end (by omega))))
     rw [if_neg (put_ne (bunt hb17))] at e
     exact ⟨_, rfl, by rw [e]; rfl, hB⟩
    ·
     refine gon h179 (d := 64) rfl rfl (bnt (bunf hb17)) ?_
     refine mv h179 rfl rfl fun a187 h187 => ?_
     refine gon h187 (d := 64) rfl rfl (bnt (bunf hb17)) ?_
     refine mv h187 rfl rfl fun a188 h188 => ?_
     refine gon h188 (d := 64) rfl rfl (bnt (bunf hb17)) ?_
     refine cal h188 Try.call142 rfl (c_bytesEq _ _ _ _ _ hu6 hv) rfl ?_
     rintro v7 w7 a189 ⟨rfl, hk7⟩ h189
     replace hB := Kept.trans hB hk7
     refine gon h189 (d := 64) rfl rfl (bnt (bunf hb17)) ?_
     refine unot h189 rfl rfl fun a190 h190 => ?_
     refine pkf h190 rfl (bnt (bunf hb17)) rfl rfl fun a191 h191 => ?_
     clear hK42 h176 h177 h178 h179 h187 h188 h189 h190 K42 a176 a177 a178 a179 a187 a188 a189 a190
     refine wpL_nil (hK43 _ _ ?_)
     refine spl h191 (d := 69) rfl (fun hb18 => ?_) (fun hb18 => ?_)
     ·
      refine cdt h191 rfl (bnf (bunt hb18)) ?_
      refine sq fun K45 hK45 => ?_
      refine reg [some 2, some 3] rfl ?_
      refine asg h191 rfl rfl fun a192 h192 => ?_
      refine asg h192 rfl rfl fun a193 h193 => ?_
      clear hK43 h191 h192 K43 a191 a192
      refine wpL_nil (hK45 _ _ ?_)
      refine rtn (leave h193 (res2 h193 rfl (rvt rfl) (rvt rfl)) ?_)
      have e := get_end ⟨by omega, by omega⟩ (raw8 hx0 hp2 (hq.trans (Pl.getRun_end (by omega))))
      rw [if_neg (put_ne2 (of_decide_eq_false (bunt hb18)))] at e
      exact ⟨_, rfl, by rw [e]; rfl, hB⟩
     ·
      refine cdf h191 rfl (bnt (bunf hb18)) ?_
      refine skp (hK41 _ _ ?_)
      refine sq fun K46 hK46 => ?_
      refine reg [some 70, some 2, some 3] rfl ?_
      refine mv h191 rfl rfl fun a194 h194 => ?_
      refine asg h194 rfl rfl fun a195 h195 => ?_
      refine asg h195 rfl rfl fun a196 h196 => ?_
      clear hK43 hK41 h191 h194 h195 K43 K41 a191 a194 a195
      refine wpL_nil (hK46 _ _ ?_)
      refine rtn (leave h196 (res2 h196 rfl (rvt rfl) (rvt rfl)) ?_)
      have e := get_end ⟨by omega, by omega⟩ (raw8 hx0 hp2 (hq.trans (Pl.getRun_end (by omega))))
      rw [if_pos (put_eq (bunf hb17) (of_decide_eq_true (bunf hb18)))] at e
      exact ⟨_, rfl, by rw [e]; rfl, hB⟩

end Go.Proofs.Ytpgeogdmjgmimaa
