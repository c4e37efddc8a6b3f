/-
  Walks, written by wip/gen/gen.py.
-/
import Derived.Test.YtpgeogdmjgmimaaW14
import Derived.Test.YtpgeogdmjgmimaaPTree
import Derived.Test.YtpgeogdmjgmimaaK16
set_option linter.unusedVariables false
set_option linter.unusedSimpArgs false
set_option maxRecDepth 4000
namespace Go.Proofs.Ytpgeogdmjgmimaa
open Go Go.RowKit K

/-- A literal's value. -/
theorem bld32_0_1_2 (x0 : ByteArray) (x1 : ByteArray) (x2 : Int) (w : World) : (Instr.build 32 [(0, (.string x0)), (1, (.string x1)), (2, (.int .u8 x2))].toArray).run Try.prog w = .ok (.agg #[.string x0, .string x1, .int .u8 x2, .int .i64 0, .int .i64 0, .int .i64 0, .int .i64 0, str []]) w := by kernel_rfl
theorem u8inj {a b : UInt8} : ((a.toNat : Int) = (b.toNat : Int)) = (a = b) := by
  apply propext; constructor
  · intro h; exact UInt8.toNat_inj.1 (by omega)
  · rintro rfl; rfl
noncomputable def kindsF : Value → Option Value := upd (upd (upd (upd (fun _ => none) (.int .u8 48) (.func (.func 145) #[] #[])) (.int .u8 49) (.func (.func 146) #[] #[])) (.int .u8 50) (.func (.func 147) #[] #[])) (.int .u8 53) (.func (.func 148) #[] #[])
theorem kindsF_at (t : UInt8) : kindsF (u8 t) = if t = 53 then some (.func (.func 148) #[] #[]) else if t = 50 then some (.func (.func 147) #[] #[]) else if t = 49 then some (.func (.func 146) #[] #[]) else if t = 48 then some (.func (.func 145) #[] #[]) else none := by
  have e : ∀ q : UInt8, (u8 t = .int .u8 (q.toNat : Int)) = (t = q) := fun q => by
    apply propext; constructor
    · intro h; injection h with _ h; exact UInt8.toNat_inj.1 (by omega)
    · rintro rfl; rfl
  have e1 : (u8 t = .int .u8 48) = (t = 48) := e 48
  have e2 : (u8 t = .int .u8 49) = (t = 49) := e 49
  have e3 : (u8 t = .int .u8 50) = (t = 50) := e 50
  have e4 : (u8 t = .int .u8 53) = (t = 53) := e 53
  unfold kindsF upd
  simp only [e1, e2, e3, e4]
theorem kind48 {n : Pl.Nd} (h : n.kind = 48) : Pl.kindMay n = (decide (n.link = []) && decide ((n.data.length : Int) ≤ 4000)) := by unfold Pl.kindMay; rw [if_pos h]
theorem kind49 {n : Pl.Nd} (h : n.kind = 49) : Pl.kindMay n = (decide (n = ⟨n.path, n.link, n.kind, 0, 0, 0, 0, []⟩) && Pl.pathMay n.link) := by unfold Pl.kindMay; rw [if_neg (by rw [h]; decide), if_pos h]; rfl
theorem kind50 {n : Pl.Nd} (h : n.kind = 50) : Pl.kindMay n = (Pl.longText n.link && decide (n.data = [])) := by unfold Pl.kindMay; rw [if_neg (by rw [h]; decide), if_neg (by rw [h]; decide), if_pos h]
theorem kind53 {n : Pl.Nd} (h : n.kind = 53) : Pl.kindMay n = (decide (n.link = []) && decide (n.data = [])) := by unfold Pl.kindMay; rw [if_neg (by rw [h]; decide), if_neg (by rw [h]; decide), if_neg (by rw [h]; decide), if_pos h]
theorem kind_no {n : Pl.Nd} (h : (kindsF (u8 n.kind)).isSome = false) : Pl.kindMay n = false := by
  rw [kindsF_at] at h
  unfold Pl.kindMay
  split at h
  · cases h
  · split at h
    · cases h
    · split at h
      · cases h
      · split at h
        · cases h
        · rename_i h4 h3 h2 h1
          rw [if_neg h1, if_neg h2, if_neg h3, if_neg h4]
theorem eqg32 : Try.prog.eqGuardType Try.prog.depth 32 = false := by kernel_rfl
theorem eqND (n m : Pl.Nd) (w : World) : (Op.equalIn 10000 32 (.agg (ndCells n).toArray) (.agg (ndCells m).toArray)).run Try.prog w = .ok (decide (n = m)) w := by
  have u3 := Try.underlying3
  have a3 := Try.isAgg3
  have z3 := Try.sizeOf3
  have u5 := Try.underlying5
  have a5 := Try.isAgg5
  have z5 := Try.sizeOf5
  have u9 := Try.underlying9
  have a9 := Try.isAgg9
  have z9 := Try.sizeOf9
  have hS : Try.prog.underlying 32 = some (.struct (Try.prog.fieldsOf 32)) := by kernel_rfl
  have hp : Try.prog.stoodInHeld 32 = false := by kernel_rfl
  rw [show (10000 : Nat) = 9999 + 1 from rfl, run_equalIn_agg w 9999 32 _ _ hS hp]
  simp only [Program.fieldsOf, Try.underlying32, ndCells]
  go_simp
  obtain ⟨n1, n2, n3, n4, n5, n6, n7, n8⟩ := n
  obtain ⟨m1, m2, m3, m4, m5, m6, m7, m8⟩ := m
  simp only [byteArray_toList, Pl.Nd.mk.injEq, u8inj]
  by_cases e1 : n1 = m1 <;> by_cases e2 : n2 = m2 <;> by_cases e3 : n3 = m3 <;> by_cases e4 : n4 = m4 <;> by_cases e5 : n5 = m5 <;> by_cases e6 : n6 = m6 <;> by_cases e7 : n7 = m7 <;> by_cases e8 : n8 = m8 <;> simp [e1, e2, e3, e4, e5, e6, e7, e8]

/-- tree.kinds$1 -/
theorem c_kind1 (n : Pl.Nd) (w : World) (hk0 : n.kind = 48) :
  C Try.prog 145 [ndV n] w fun v w' => v = .bool (Pl.kindMay n) ∧ Kept w w' := by
 refine enterE Try.func145 rfl 12 rfl rfl fun a0 h0 => ?_
 have hB := Kept.refl w
 refine sq fun K1 hK1 => ?_
 refine reg [some 1, some 2] rfl ?_
 refine bxv h0 rfl rfl rfl fun a1 w1 g1 h1 hk1 hz1 hg1 => ?_
 have hleg1 := Nat.le_trans hB.size hz1
 replace hB := Kept.trans hB hk1
 refine asg h1 rfl rfl fun a2 h2 => ?_
 clear h0 h1 a0 a1
 refine wpL_nil (hK1 _ _ ?_)
 refine sq fun K2 hK2 => ?_
 refine reg [some 3, some 4, some 5, some 6, some 7, some 8, some 9, some 10, some 11, some 2] rfl ?_
 refine fab h2 rfl Try.underlying32 rfl Try.sizeOf9 rfl 1 rfl rfl fun a3 h3 => ?_
 refine ldb h3 hg1 rfl Try.isAgg9 rfl rfl fun a4 h4 => ?_
 refine seq h4 rfl rfl rfl fun a5 h5 => ?_
 refine mv h5 rfl rfl fun a6 h6 => ?_
 refine spl h6 (d := 6) rfl (fun hb1 => ?_) (fun hb1 => ?_)
 ·
  have hp1 := of_decide_eq_true hb1
  refine gon h6 (d := 6) rfl rfl hb1 ?_
  refine fab h6 rfl Try.underlying32 rfl Try.sizeOf9 rfl 7 rfl rfl fun a7 h7 => ?_
  refine gon h7 (d := 6) rfl rfl hb1 ?_
  refine ldb h7 hg1 rfl Try.isAgg9 rfl rfl fun a8 h8 => ?_
  refine gon h8 (d := 6) rfl rfl hb1 ?_
  refine lens h8 rfl Try.underlying9 rfl rfl fun a9 h9 => ?_
  refine gon h9 (d := 6) rfl rfl hb1 ?_
  refine leq h9 rfl rfl rfl fun a10 h10 => ?_
  refine pkt h10 rfl hb1 rfl rfl fun a11 h11 => ?_
  refine asg h11 rfl rfl fun a12 h12 => ?_
  clear hK1 h2 h3 h4 h5 h6 h7 h8 h9 h10 h11 K1 a2 a3 a4 a5 a6 a7 a8 a9 a10 a11
  refine wpL_nil (hK2 _ _ ?_)
  refine rtn (leave h12 (res1 h12 rfl (rvt rfl)) ?_)
  exact ⟨_, rfl, by rw [kind48 hk0, hb1]; rfl, hB⟩
 ·
  have hp1 := of_decide_eq_false hb1
  refine goff h6 (d := 6) rfl rfl hb1 rfl fun a13 h13 => ?_
  refine goff h13 (d := 6) rfl rfl hb1 rfl fun a14 h14 => ?_
  refine goff h14 (d := 6) rfl rfl hb1 rfl fun a15 h15 => ?_
  refine goff h15 (d := 6) rfl rfl hb1 rfl fun a16 h16 => ?_
  refine pkf h16 rfl hb1 rfl rfl fun a17 h17 => ?_
  refine asg h17 rfl rfl fun a18 h18 => ?_
  clear hK1 h2 h3 h4 h5 h6 h13 h14 h15 h16 h17 K1 a2 a3 a4 a5 a6 a13 a14 a15 a16 a17
  refine wpL_nil (hK2 _ _ ?_)
  refine rtn (leave h18 (res1 h18 rfl (rvt rfl)) ?_)
  exact ⟨_, rfl, by rw [kind48 hk0, hb1]; rfl, hB⟩

/-- tree.kinds$2 -/
theorem c_kind2 (n : Pl.Nd) (w : World) (hk0 : n.kind = 49) (hn : NdL n) :
  C Try.prog 146 [ndV n] w fun v w' => v = .bool (Pl.kindMay n) ∧ Kept w w' := by
 obtain ⟨hn1, hn2, hn3⟩ := hn
 refine enterE Try.func146 rfl 17 rfl rfl fun a0 h0 => ?_
 have hB := Kept.refl w
 refine sq fun K1 hK1 => ?_
 refine reg [some 1, some 2] rfl ?_
 refine bxv h0 rfl rfl rfl fun a1 w1 g1 h1 hk1 hz1 hg1 => ?_
 have hleg1 := Nat.le_trans hB.size hz1
 replace hB := Kept.trans hB hk1
 refine asg h1 rfl rfl fun a2 h2 => ?_
 clear h0 h1 a0 a1
 refine wpL_nil (hK1 _ _ ?_)
 refine sq fun K2 hK2 => ?_
 refine reg [some 3, some 4, some 5, some 6, some 7, some 8, some 9, some 10, some 11, some 12, some 13, some 14, some 15, some 16, some 2] rfl ?_
 refine ldbn h2 hg1 ([str n.path, str n.link, u8 n.kind, .int .i64 n.mode, .int .i64 n.uid, .int .i64 n.gid, .int .i64 n.mtime, str n.data]) rfl Try.isAgg32 Try.sizeOf32 rfl rfl fun a3 h3 => ?_
 refine fab h3 rfl Try.underlying32 rfl Try.sizeOf9 rfl 0 rfl rfl fun a4 h4 => ?_
 refine ldb h4 hg1 rfl Try.isAgg9 rfl rfl fun a5 h5 => ?_
 refine fab h5 rfl Try.underlying32 rfl Try.sizeOf9 rfl 1 rfl rfl fun a6 h6 => ?_
 refine ldb h6 hg1 rfl Try.isAgg9 rfl rfl fun a7 h7 => ?_
 refine fab h7 rfl Try.underlying32 rfl Try.sizeOf5 rfl 2 rfl rfl fun a8 h8 => ?_
 refine ldb h8 hg1 rfl Try.isAgg5 rfl rfl fun a9 h9 => ?_
 refine bld h9 rfl (bld32_0_1_2 _ _ _) rfl fun a10 h10 => ?_
 refine steq h10 (eqND n ⟨n.path, n.link, n.kind, 0, 0, 0, 0, []⟩) rfl rfl eqg32 rfl fun a11 h11 => ?_
 refine mv h11 rfl rfl fun a12 h12 => ?_
 refine spl h12 (d := 12) rfl (fun hb1 => ?_) (fun hb1 => ?_)
 ·
  have hp1 := of_decide_eq_true hb1
  refine gon h12 (d := 12) rfl rfl hb1 ?_
  refine fab h12 rfl Try.underlying32 rfl Try.sizeOf9 rfl 1 rfl rfl fun a13 h13 => ?_
  refine gon h13 (d := 12) rfl rfl hb1 ?_
  refine ldb h13 hg1 rfl Try.isAgg9 rfl rfl fun a14 h14 => ?_
  refine gon h14 (d := 12) rfl rfl hb1 ?_
  refine cal h14 Try.call61 rfl (c_pathMay _ _ (by omega)) rfl ?_
  rintro v2 w2 a15 ⟨rfl, hk2⟩ h15
  replace hB := Kept.trans hB hk2
  refine pkt h15 rfl hb1 rfl rfl fun a16 h16 => ?_
  refine asg h16 rfl rfl fun a17 h17 => ?_
  clear hK1 h2 h3 h4 h5 h6 h7 h8 h9 h10 h11 h12 h13 h14 h15 h16 K1 a2 a3 a4 a5 a6 a7 a8 a9 a10 a11 a12 a13 a14 a15 a16
  refine wpL_nil (hK2 _ _ ?_)
  refine rtn (leave h17 (res1 h17 rfl (rvt rfl)) ?_)
  exact ⟨_, rfl, by rw [kind49 hk0, hb1]; rfl, hB⟩
 ·
  have hp1 := of_decide_eq_false hb1
  refine goff h12 (d := 12) rfl rfl hb1 rfl fun a18 h18 => ?_
  refine goff h18 (d := 12) rfl rfl hb1 rfl fun a19 h19 => ?_
  refine goff h19 (d := 12) rfl rfl hb1 rfl fun a20 h20 => ?_
  refine pkf h20 rfl hb1 rfl rfl fun a21 h21 => ?_
  refine asg h21 rfl rfl fun a22 h22 => ?_
  clear hK1 h2 h3 h4 h5 h6 h7 h8 h9 h10 h11 h12 h18 h19 h20 h21 K1 a2 a3 a4 a5 a6 a7 a8 a9 a10 a11 a12 a18 a19 a20 a21
  refine wpL_nil (hK2 _ _ ?_)
  refine rtn (leave h22 (res1 h22 rfl (rvt rfl)) ?_)
  exact ⟨_, rfl, by rw [kind49 hk0, hb1]; rfl, hB⟩

/-- tree.kinds$3 -/
theorem c_kind3 (n : Pl.Nd) (w : World) (hk0 : n.kind = 50) :
  C Try.prog 147 [ndV n] w fun v w' => v = .bool (Pl.kindMay n) ∧ Kept w w' := by
 refine enterE Try.func147 rfl 11 rfl rfl fun a0 h0 => ?_
 have hB := Kept.refl w
 refine sq fun K1 hK1 => ?_
 refine reg [some 1, some 2] rfl ?_
 refine bxv h0 rfl rfl rfl fun a1 w1 g1 h1 hk1 hz1 hg1 => ?_
 have hleg1 := Nat.le_trans hB.size hz1
 replace hB := Kept.trans hB hk1
 refine asg h1 rfl rfl fun a2 h2 => ?_
 clear h0 h1 a0 a1
 refine wpL_nil (hK1 _ _ ?_)
 refine sq fun K2 hK2 => ?_
 refine reg [some 3, some 4, some 5, some 6, some 7, some 8, some 9, some 10, some 2] rfl ?_
 refine fab h2 rfl Try.underlying32 rfl Try.sizeOf9 rfl 1 rfl rfl fun a3 h3 => ?_
 refine ldb h3 hg1 rfl Try.isAgg9 rfl rfl fun a4 h4 => ?_
 refine cal h4 Try.call35 rfl (c_longText _ _) rfl ?_
 rintro v2 w2 a5 ⟨rfl, rfl⟩ h5
 refine mv h5 rfl rfl fun a6 h6 => ?_
 refine spl h6 (d := 6) rfl (fun hb1 => ?_) (fun hb1 => ?_)
 ·
  refine gon h6 (d := 6) rfl rfl hb1 ?_
  refine fab h6 rfl Try.underlying32 rfl Try.sizeOf9 rfl 7 rfl rfl fun a7 h7 => ?_
  refine gon h7 (d := 6) rfl rfl hb1 ?_
  refine ldb h7 hg1 rfl Try.isAgg9 rfl rfl fun a8 h8 => ?_
  refine gon h8 (d := 6) rfl rfl hb1 ?_
  refine seq h8 rfl rfl rfl fun a9 h9 => ?_
  refine pkt h9 rfl hb1 rfl rfl fun a10 h10 => ?_
  refine asg h10 rfl rfl fun a11 h11 => ?_
  clear hK1 h2 h3 h4 h5 h6 h7 h8 h9 h10 K1 a2 a3 a4 a5 a6 a7 a8 a9 a10
  refine wpL_nil (hK2 _ _ ?_)
  refine rtn (leave h11 (res1 h11 rfl (rvt rfl)) ?_)
  exact ⟨_, rfl, by rw [kind50 hk0, hb1]; rfl, hB⟩
 ·
  refine goff h6 (d := 6) rfl rfl hb1 rfl fun a12 h12 => ?_
  refine goff h12 (d := 6) rfl rfl hb1 rfl fun a13 h13 => ?_
  refine goff h13 (d := 6) rfl rfl hb1 rfl fun a14 h14 => ?_
  refine pkf h14 rfl hb1 rfl rfl fun a15 h15 => ?_
  refine asg h15 rfl rfl fun a16 h16 => ?_
  clear hK1 h2 h3 h4 h5 h6 h12 h13 h14 h15 K1 a2 a3 a4 a5 a6 a12 a13 a14 a15
  refine wpL_nil (hK2 _ _ ?_)
  refine rtn (leave h16 (res1 h16 rfl (rvt rfl)) ?_)
  exact ⟨_, rfl, by rw [kind50 hk0, hb1]; rfl, hB⟩

/-- tree.kinds$4 -/
theorem c_kind4 (n : Pl.Nd) (w : World) (hk0 : n.kind = 53) :
  C Try.prog 148 [ndV n] w fun v w' => v = .bool (Pl.kindMay n) ∧ Kept w w' := by
 refine enterE Try.func148 rfl 11 rfl rfl fun a0 h0 => ?_
 have hB := Kept.refl w
 refine sq fun K1 hK1 => ?_
 refine reg [some 1, some 2] rfl ?_
 refine bxv h0 rfl rfl rfl fun a1 w1 g1 h1 hk1 hz1 hg1 => ?_
 have hleg1 := Nat.le_trans hB.size hz1
 replace hB := Kept.trans hB hk1
 refine asg h1 rfl rfl fun a2 h2 => ?_
 clear h0 h1 a0 a1
 refine wpL_nil (hK1 _ _ ?_)
 refine sq fun K2 hK2 => ?_
 refine reg [some 3, some 4, some 5, some 6, some 7, some 8, some 9, some 10, some 2] rfl ?_
 refine fab h2 rfl Try.underlying32 rfl Try.sizeOf9 rfl 1 rfl rfl fun a3 h3 => ?_
 refine ldb h3 hg1 rfl Try.isAgg9 rfl rfl fun a4 h4 => ?_
 refine seq h4 rfl rfl rfl fun a5 h5 => ?_
 refine mv h5 rfl rfl fun a6 h6 => ?_
 refine spl h6 (d := 6) rfl (fun hb1 => ?_) (fun hb1 => ?_)
 ·
  have hp1 := of_decide_eq_true hb1
  refine gon h6 (d := 6) rfl rfl hb1 ?_
  refine fab h6 rfl Try.underlying32 rfl Try.sizeOf9 rfl 7 rfl rfl fun a7 h7 => ?_
  refine gon h7 (d := 6) rfl rfl hb1 ?_
  refine ldb h7 hg1 rfl Try.isAgg9 rfl rfl fun a8 h8 => ?_
  refine gon h8 (d := 6) rfl rfl hb1 ?_
  refine seq h8 rfl rfl rfl fun a9 h9 => ?_
  refine pkt h9 rfl hb1 rfl rfl fun a10 h10 => ?_
  refine asg h10 rfl rfl fun a11 h11 => ?_
  clear hK1 h2 h3 h4 h5 h6 h7 h8 h9 h10 K1 a2 a3 a4 a5 a6 a7 a8 a9 a10
  refine wpL_nil (hK2 _ _ ?_)
  refine rtn (leave h11 (res1 h11 rfl (rvt rfl)) ?_)
  exact ⟨_, rfl, by rw [kind53 hk0, hb1]; rfl, hB⟩
 ·
  have hp1 := of_decide_eq_false hb1
  refine goff h6 (d := 6) rfl rfl hb1 rfl fun a12 h12 => ?_
  refine goff h12 (d := 6) rfl rfl hb1 rfl fun a13 h13 => ?_
  refine goff h13 (d := 6) rfl rfl hb1 rfl fun a14 h14 => ?_
  refine pkf h14 rfl hb1 rfl rfl fun a15 h15 => ?_
  refine asg h15 rfl rfl fun a16 h16 => ?_
  clear hK1 h2 h3 h4 h5 h6 h12 h13 h14 h15 K1 a2 a3 a4 a5 a6 a12 a13 a14 a15
  refine wpL_nil (hK2 _ _ ?_)
  refine rtn (leave h16 (res1 h16 rfl (rvt rfl)) ?_)
  exact ⟨_, rfl, by rw [kind53 hk0, hb1]; rfl, hB⟩

/-- tree.kinds -/
theorem c_kinds  (w : World) :
  C Try.prog 98 [] w fun v w' => (∃ b, v = .map (some b) ∧ Mp (.int .u8) kindsF w' b) ∧ Kept w w' := by
 refine enterE Try.func98 rfl 3 rfl rfl fun a0 h0 => ?_
 have hB := Kept.refl w
 refine sq fun K1 hK1 => ?_
 refine reg [some 0] rfl ?_
 refine asg h0 rfl rfl fun a1 h1 => ?_
 clear h0 a0
 refine wpL_nil (hK1 _ _ ?_)
 refine sq fun K2 hK2 => ?_
 refine reg [some 1, none, none, none, none, some 2, some 0] rfl ?_
 refine mkm (.int .u8) h1 rfl fun a2 w1 g1 h2 hk1 hz1 hg1 => ?_
 have hleg1 := Nat.le_trans hB.size hz1
 replace hB := Kept.trans hB hk1
 refine mins h2 hg1 rfl rfl rfl (by first | trivial | rfl) Try.underlying130 Try.underlying5 fun w2 hg1' hk2 => ?_
 replace hB := Kept.but hB hk2 (by omega)
 clear hg1; have hg1 := hg1'; clear hg1'
 refine mins h2 hg1 rfl rfl rfl (by first | trivial | rfl) Try.underlying130 Try.underlying5 fun w3 hg1' hk3 => ?_
 replace hB := Kept.but hB hk3 (by omega)
 clear hg1; have hg1 := hg1'; clear hg1'
 refine mins h2 hg1 rfl rfl rfl (by first | trivial | rfl) Try.underlying130 Try.underlying5 fun w4 hg1' hk4 => ?_
 replace hB := Kept.but hB hk4 (by omega)
 clear hg1; have hg1 := hg1'; clear hg1'
 refine mins h2 hg1 rfl rfl rfl (by first | trivial | rfl) Try.underlying130 Try.underlying5 fun w5 hg1' hk5 => ?_
 replace hB := Kept.but hB hk5 (by omega)
 clear hg1; have hg1 := hg1'; clear hg1'
 refine mv h2 rfl rfl fun a3 h3 => ?_
 refine asg h3 rfl rfl fun a4 h4 => ?_
 clear hK1 h1 h2 h3 K1 a1 a2 a3
 refine wpL_nil (hK2 _ _ ?_)
 refine rtn (leave h4 (res1 h4 rfl (rvt rfl)) ?_)
 exact ⟨_, rfl, ⟨_, rfl, hg1⟩, hB⟩

end Go.Proofs.Ytpgeogdmjgmimaa
