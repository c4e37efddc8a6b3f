/-
  Walks, written by wip/gen/gen.py.
-/
import Derived.Test.YtpgeogdmjgmimaaK11
import Derived.Test.YtpgeogdmjgmimaaPNum
import Derived.Test.YtpgeogdmjgmimaaChecked
set_option linter.unusedVariables false
set_option linter.unusedSimpArgs false
set_option maxRecDepth 4000
namespace Go.Proofs.Ytpgeogdmjgmimaa
open Go Go.RowKit K

/-- num.width -/
theorem c_width (n : Int) (w : World) :
  C Try.prog 141 [.int .i64 n] w fun v w' => v = .bool (Pl.width n) ∧ w = w' := by
 refine enterE Try.func141 rfl 9 rfl rfl fun a0 h0 => ?_
 have hB := Kept.refl w
 refine sq fun K1 hK1 => ?_
 refine reg [some 2] rfl ?_
 refine asg h0 rfl rfl fun a1 h1 => ?_
 clear h0 a0
 refine wpL_nil (hK1 _ _ ?_)
 refine sq fun K2 hK2 => ?_
 refine reg [some 3, some 4, some 5, some 6, some 7, some 8, some 2] rfl ?_
 refine mv h1 rfl rfl fun a2 h2 => ?_
 refine geq h2 rfl rfl rfl fun a3 h3 => ?_
 refine mv h3 rfl rfl fun a4 h4 => ?_
 refine spl h4 (d := 5) rfl (fun hb1 => ?_) (fun hb1 => ?_)
 ·
  have hp1 := of_decide_eq_true hb1
  refine gon h4 (d := 5) rfl rfl hb1 ?_
  refine mv h4 rfl rfl fun a5 h5 => ?_
  refine gon h5 (d := 5) rfl rfl hb1 ?_
  refine leq h5 rfl rfl rfl fun a6 h6 => ?_
  refine pkt h6 rfl hb1 rfl rfl fun a7 h7 => ?_
  refine asg h7 rfl rfl fun a8 h8 => ?_
  clear hK1 h1 h2 h3 h4 h5 h6 h7 K1 a1 a2 a3 a4 a5 a6 a7
  refine wpL_nil (hK2 _ _ ?_)
  refine rtn (leave h8 (res1 h8 rfl (rvt rfl)) ?_)
  exact ⟨_, rfl, by simp [Pl.width, *], rfl⟩
 ·
  have hp1 := of_decide_eq_false hb1
  refine goff h4 (d := 5) rfl rfl hb1 rfl fun a9 h9 => ?_
  refine goff h9 (d := 5) rfl rfl hb1 rfl fun a10 h10 => ?_
  refine pkf h10 rfl hb1 rfl rfl fun a11 h11 => ?_
  refine asg h11 rfl rfl fun a12 h12 => ?_
  clear hK1 h1 h2 h3 h4 h9 h10 h11 K1 a1 a2 a3 a4 a9 a10 a11
  refine wpL_nil (hK2 _ _ ?_)
  refine rtn (leave h12 (res1 h12 rfl (rvt rfl)) ?_)
  exact ⟨_, rfl, by simp [Pl.width, *], rfl⟩

/-- block.Many -/
theorem c_many (n : Int) (w : World) (hn : -9223372036854775808 ≤ n ∧ n ≤ 9223372036854775807) :
  C Try.prog 94 [.int .i64 n] w fun v w' => v = .int .i64 (Pl.many n) ∧ w = w' := by
 obtain ⟨hn1, hn2⟩ := hn
 refine enterE Try.func94 rfl 9 rfl rfl fun a0 h0 => ?_
 have hB := Kept.refl w
 refine sq fun K1 hK1 => ?_
 refine reg [some 2] rfl ?_
 refine asg h0 rfl rfl fun a1 h1 => ?_
 clear h0 a0
 refine wpL_nil (hK1 _ _ ?_)
 refine sq fun K2 hK2 => ?_
 refine sq fun K3 hK3 => ?_
 refine reg [some 3, some 4] rfl ?_
 refine mv h1 rfl rfl fun a2 h2 => ?_
 refine lss h2 rfl rfl rfl fun a3 h3 => ?_
 clear hK1 h1 h2 K1 a1 a2
 refine wpL_nil (hK3 _ _ ?_)
 refine spl h3 (d := 4) rfl (fun hb1 => ?_) (fun hb1 => ?_)
 ·
  have hp1 := of_decide_eq_true hb1
  refine cdt h3 rfl hb1 ?_
  refine sq fun K4 hK4 => ?_
  refine reg [some 2] rfl ?_
  refine asg h3 rfl rfl fun a4 h4 => ?_
  clear hK3 h3 K3 a3
  refine wpL_nil (hK4 _ _ ?_)
  refine rtn (leave h4 (res1 h4 rfl (rvt rfl)) ?_)
  exact ⟨_, rfl, by unfold Pl.many; first | rw [if_pos (by omega)] | rw [if_neg (by omega)], rfl⟩
 ·
  have hp1 := of_decide_eq_false hb1
  refine cdf h3 rfl hb1 ?_
  refine skp (hK2 _ _ ?_)
  refine sq fun K5 hK5 => ?_
  refine reg [some 5, some 6, some 7, some 8, some 2] rfl ?_
  refine mv h3 rfl rfl fun a5 h5 => ?_
  refine sub h5 rfl rfl rfl (by omega) fun a6 h6 => ?_
  refine quo h6 rfl rfl rfl (by omega) fun a7 h7 => ?_
  refine add h7 rfl rfl rfl (by omega) fun a8 h8 => ?_
  refine asg h8 rfl rfl fun a9 h9 => ?_
  clear hK3 hK2 h3 h5 h6 h7 h8 K3 K2 a3 a5 a6 a7 a8
  refine wpL_nil (hK5 _ _ ?_)
  refine rtn (leave h9 (res1 h9 rfl (rvt rfl)) ?_)
  exact ⟨_, rfl, by unfold Pl.many; first | rw [if_pos (by omega)] | rw [if_neg (by omega)], rfl⟩

/-- tree.in -/
theorem c_in (n m : Int) (w : World) :
  C Try.prog 99 [.int .i64 n, .int .i64 m] w fun v w' => v = .bool (Pl.inR n m) ∧ w = w' := by
 refine enterE Try.func99 rfl 12 rfl rfl fun a0 h0 => ?_
 have hB := Kept.refl w
 refine sq fun K1 hK1 => ?_
 refine reg [some 4] rfl ?_
 refine asg h0 rfl rfl fun a1 h1 => ?_
 clear h0 a0
 refine wpL_nil (hK1 _ _ ?_)
 refine sq fun K2 hK2 => ?_
 refine reg [some 5, some 6, some 7, some 8, some 9, some 10, some 11, some 4] rfl ?_
 refine mv h1 rfl rfl fun a2 h2 => ?_
 refine geq h2 rfl rfl rfl fun a3 h3 => ?_
 refine mv h3 rfl rfl fun a4 h4 => ?_
 refine spl h4 (d := 7) rfl (fun hb1 => ?_) (fun hb1 => ?_)
 ·
  have hp1 := of_decide_eq_true hb1
  refine gon h4 (d := 7) rfl rfl hb1 ?_
  refine mv h4 rfl rfl fun a5 h5 => ?_
  refine gon h5 (d := 7) rfl rfl hb1 ?_
  refine mv h5 rfl rfl fun a6 h6 => ?_
  refine gon h6 (d := 7) rfl rfl hb1 ?_
  refine leq h6 rfl rfl rfl fun a7 h7 => ?_
  refine pkt h7 rfl hb1 rfl rfl fun a8 h8 => ?_
  refine asg h8 rfl rfl fun a9 h9 => ?_
  clear hK1 h1 h2 h3 h4 h5 h6 h7 h8 K1 a1 a2 a3 a4 a5 a6 a7 a8
  refine wpL_nil (hK2 _ _ ?_)
  refine rtn (leave h9 (res1 h9 rfl (rvt rfl)) ?_)
  exact ⟨_, rfl, by simp [Pl.inR, *], rfl⟩
 ·
  have hp1 := of_decide_eq_false hb1
  refine goff h4 (d := 7) rfl rfl hb1 rfl fun a10 h10 => ?_
  refine goff h10 (d := 7) rfl rfl hb1 rfl fun a11 h11 => ?_
  refine goff h11 (d := 7) rfl rfl hb1 rfl fun a12 h12 => ?_
  refine pkf h12 rfl hb1 rfl rfl fun a13 h13 => ?_
  refine asg h13 rfl rfl fun a14 h14 => ?_
  clear hK1 h1 h2 h3 h4 h10 h11 h12 h13 K1 a1 a2 a3 a4 a10 a11 a12 a13
  refine wpL_nil (hK2 _ _ ?_)
  refine rtn (leave h14 (res1 h14 rfl (rvt rfl)) ?_)
  exact ⟨_, rfl, by simp [Pl.inR, *], rfl⟩

/-- parse.in -/
theorem c_pin (n x y : Int) (w : World) :
  C Try.prog 120 [.int .i64 n, .int .i64 x, .int .i64 y] w fun v w' => v = .bool (Pl.inB n x y) ∧ w = w' := by
 refine enterE Try.func120 rfl 15 rfl rfl fun a0 h0 => ?_
 have hB := Kept.refl w
 refine sq fun K1 hK1 => ?_
 refine reg [some 6] rfl ?_
 refine asg h0 rfl rfl fun a1 h1 => ?_
 clear h0 a0
 refine wpL_nil (hK1 _ _ ?_)
 refine sq fun K2 hK2 => ?_
 refine reg [some 7, some 8, some 9, some 10, some 11, some 12, some 13, some 14, some 6] rfl ?_
 refine mv h1 rfl rfl fun a2 h2 => ?_
 refine mv h2 rfl rfl fun a3 h3 => ?_
 refine geq h3 rfl rfl rfl fun a4 h4 => ?_
 refine mv h4 rfl rfl fun a5 h5 => ?_
 refine spl h5 (d := 10) rfl (fun hb1 => ?_) (fun hb1 => ?_)
 ·
  have hp1 := of_decide_eq_true hb1
  refine gon h5 (d := 10) rfl rfl hb1 ?_
  refine mv h5 rfl rfl fun a6 h6 => ?_
  refine gon h6 (d := 10) rfl rfl hb1 ?_
  refine mv h6 rfl rfl fun a7 h7 => ?_
  refine gon h7 (d := 10) rfl rfl hb1 ?_
  refine leq h7 rfl rfl rfl fun a8 h8 => ?_
  refine pkt h8 rfl hb1 rfl rfl fun a9 h9 => ?_
  refine asg h9 rfl rfl fun a10 h10 => ?_
  clear hK1 h1 h2 h3 h4 h5 h6 h7 h8 h9 K1 a1 a2 a3 a4 a5 a6 a7 a8 a9
  refine wpL_nil (hK2 _ _ ?_)
  refine rtn (leave h10 (res1 h10 rfl (rvt rfl)) ?_)
  exact ⟨_, rfl, by simp [Pl.inB, *], rfl⟩
 ·
  have hp1 := of_decide_eq_false hb1
  refine goff h5 (d := 10) rfl rfl hb1 rfl fun a11 h11 => ?_
  refine goff h11 (d := 10) rfl rfl hb1 rfl fun a12 h12 => ?_
  refine goff h12 (d := 10) rfl rfl hb1 rfl fun a13 h13 => ?_
  refine pkf h13 rfl hb1 rfl rfl fun a14 h14 => ?_
  refine asg h14 rfl rfl fun a15 h15 => ?_
  clear hK1 h1 h2 h3 h4 h5 h11 h12 h13 h14 K1 a1 a2 a3 a4 a5 a11 a12 a13 a14
  refine wpL_nil (hK2 _ _ ?_)
  refine rtn (leave h15 (res1 h15 rfl (rvt rfl)) ?_)
  exact ⟨_, rfl, by simp [Pl.inB, *], rfl⟩

end Go.Proofs.Ytpgeogdmjgmimaa
