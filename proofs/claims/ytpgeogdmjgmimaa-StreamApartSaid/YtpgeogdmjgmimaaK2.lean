/-
  The walk's own small kit, second part: one lemma for each kind of operation that touches no memory.
-/
import Derived.Test.YtpgeogdmjgmimaaK1
import Derived.WalkLawsBesides
import Derived.Lib.Strings
import Derived.Laws.StructEq
import Derived.Laws.Slices
set_option linter.unusedVariables false
set_option linter.unusedSimpArgs false
namespace Go.Proofs.Ytpgeogdmjgmimaa.K
open Go Go.RowKit

abbrev str (x : List UInt8) : Value := .string ⟨x.toArray⟩
abbrev u8 (b : UInt8) : Value := .int .u8 (b.toNat : Int)

theorem byteArray_toList (x : List UInt8) : (ByteArray.mk x.toArray).toList = x := by
  simp [Lib.toList_data]

theorem wrap_i64 {z : Int} (h : -9223372036854775808 ≤ z ∧ z ≤ 9223372036854775807) : IntKind.i64.wrap z = z := by
  rw [IntKind.wrap_i64]; omega

theorem run_beq {P : Program} {u : TypeId} {s t : Bool} (hu : P.underlying u = some .bool) (w : World) : (binOp .eql u (.bool s) (.bool t)).run P w = .ok (.bool (s == t)) w := by
  simp only [binOp]
  simp [Op.equal, Op.maxDepth, run_equalIn_bool' w 9999 u s t hu]
theorem run_bne {P : Program} {u : TypeId} {s t : Bool} (hu : P.underlying u = some .bool) (w : World) : (binOp .neq u (.bool s) (.bool t)).run P w = .ok (.bool (!(s == t))) w := by
  simp only [binOp]
  simp [Op.equal, Op.maxDepth, run_equalIn_bool' w 9999 u s t hu]

/-- A slice expression's bound: given, or not. -/
def Bnd (l : Env) : Option Operand → Nat → Nat → Prop
  | none, d, i => i = d
  | some o, _, i => ∃ q : Int, ev l o = some (.int .i64 q) ∧ q = (i : Int)
def BndV : Option Value → Nat → Nat → Prop
  | none, d, i => i = d
  | some v, _, i => v = .int .i64 (i : Int)
theorem Bnd.opt {ds : List Deferred} {n : Nat} {l : Env} {a : Act} {o : Option Operand} {d i : Nat} (h : Bnd l o d i) (hH : Has ds n l a) : BndV (o.map a.eval) d i := by
  cases o with
  | none => exact h
  | some o =>
    obtain ⟨q, hq, rfl⟩ := h
    exact hH.eval hq
theorem run_bounds {P : Program} {w : World} (isSlice : Bool) (len cap : Nat) {lo hi : Option Value} {i j : Nat} (hlo : BndV lo 0 i) (hhi : BndV hi len j) (hij : i ≤ j) (hj : j ≤ cap) :
    (Instr.sliceBounds isSlice len cap lo hi none).run P w = .ok (i, j, cap) w := by
  have hi' : (0 : Int) ≤ i ∧ (i : Int) ≤ j := ⟨by omega, by omega⟩
  have hj' : (0 : Int) ≤ j ∧ (j : Int) ≤ cap := ⟨by omega, by omega⟩
  cases lo <;> cases hi <;> simp only [BndV] at hlo hhi <;> subst hlo <;> subst hhi <;> simp [Instr.sliceBounds, Instr.sliceBound, asIntOf, hi', hj', hij, hj]

section
variable {P : Program} {ro : Option Nat} {Y : List (Option Tmp)} {Q : Exit → Act → World → Prop} {rest : List Oper} {ds : List Deferred} {n : Nat} {l : Env} {a : Act} {w : World}
variable {T : TypeId} {p : String} {af : Array Edge}

/-- A value comes out; the world is as it was. -/
theorem val (hH : Has ds n l a) {op : Op} {d : Nat} {v : Value} (hr : (execOp a.eval ⟨some d, op, T, p, af, none⟩).run P w = .ok (.value v) w) (hd : Nat.blt d n = true)
    (h : ∀ a', Has ds n ((d, v) :: l) a' → wpL P ro Y Q rest a' w) : wpL P ro Y Q (⟨some d, op, T, p, af, none⟩ :: rest) a w :=
  wpL_value rfl hr (h _ (hH.put d v hd))
theorem valw (hH : Has ds n l a) {op : Op} {d : Nat} {v : Value} {w' : World} (hr : (execOp a.eval ⟨some d, op, T, p, af, none⟩).run P w = .ok (.value v) w') (hd : Nat.blt d n = true)
    (h : ∀ a', Has ds n ((d, v) :: l) a' → wpL P ro Y Q rest a' w') : wpL P ro Y Q (⟨some d, op, T, p, af, none⟩ :: rest) a w :=
  wpL_value rfl hr (h _ (hH.put d v hd))

theorem mv (hH : Has ds n l a) {x : Operand} {d : Nat} {v : Value} (hx : ev l x = some v) (hd : Nat.blt d n = true)
    (h : ∀ a', Has ds n ((d, v) :: l) a' → wpL P ro Y Q rest a' w) : wpL P ro Y Q (⟨some d, .move x, T, p, af, none⟩ :: rest) a w :=
  val hH (by simp [execOp, hH.eval hx]) hd h
theorem asg (hH : Has ds n l a) {x : Operand} {d : Nat} {v : Value} (hx : ev l x = some v) (hd : Nat.blt d n = true)
    (h : ∀ a', Has ds n ((d, v) :: l) a' → wpL P ro Y Q rest a' w) : wpL P ro Y Q (⟨some d, .assign x, T, p, af, none⟩ :: rest) a w :=
  val hH (by simp [execOp, hH.eval hx]) hd h
theorem pkt (hH : Has ds n l a) {c x y : Operand} {d : Nat} {t : Bool} {v : Value} (hc : ev l c = some (.bool t)) (ht : t = true) (hx : ev l x = some v) (hd : Nat.blt d n = true)
    (h : ∀ a', Has ds n ((d, v) :: l) a' → wpL P ro Y Q rest a' w) : wpL P ro Y Q (⟨some d, .pick c x y, T, p, af, none⟩ :: rest) a w :=
  val hH (by simp [execOp, hH.eval hx, hH.eval hc, asBool, ht]) hd h
theorem pkf (hH : Has ds n l a) {c x y : Operand} {d : Nat} {t : Bool} {v : Value} (hc : ev l c = some (.bool t)) (ht : t = false) (hy : ev l y = some v) (hd : Nat.blt d n = true)
    (h : ∀ a', Has ds n ((d, v) :: l) a' → wpL P ro Y Q rest a' w) : wpL P ro Y Q (⟨some d, .pick c x y, T, p, af, none⟩ :: rest) a w :=
  val hH (by simp [execOp, hH.eval hy, hH.eval hc, asBool, ht]) hd h
theorem ext (hH : Has ds n l a) {x : Operand} {i d : Nat} {vs : Array Value} {v : Value} (hx : ev l x = some (.tuple vs)) (hv : vs[i]? = some v) (hd : Nat.blt d n = true)
    (h : ∀ a', Has ds n ((d, v) :: l) a' → wpL P ro Y Q rest a' w) : wpL P ro Y Q (⟨some d, .extract x i, T, p, af, none⟩ :: rest) a w :=
  val hH (by simp [execOp, hH.eval hx, Instr.extract, hv]) hd h
theorem ext2_0 (hH : Has ds n l a) {x : Operand} {d : Nat} {v0 v1 : Value} (hx : ev l x = some (.tuple #[v0, v1])) (hd : Nat.blt d n = true)
    (h : ∀ a', Has ds n ((d, v0) :: l) a' → wpL P ro Y Q rest a' w) : wpL P ro Y Q (⟨some d, .extract x 0, T, p, af, none⟩ :: rest) a w := ext hH hx rfl hd h
theorem ext2_1 (hH : Has ds n l a) {x : Operand} {d : Nat} {v0 v1 : Value} (hx : ev l x = some (.tuple #[v0, v1])) (hd : Nat.blt d n = true)
    (h : ∀ a', Has ds n ((d, v1) :: l) a' → wpL P ro Y Q rest a' w) : wpL P ro Y Q (⟨some d, .extract x 1, T, p, af, none⟩ :: rest) a w := ext hH hx rfl hd h
theorem ext3_0 (hH : Has ds n l a) {x : Operand} {d : Nat} {v0 v1 v2 : Value} (hx : ev l x = some (.tuple #[v0, v1, v2])) (hd : Nat.blt d n = true)
    (h : ∀ a', Has ds n ((d, v0) :: l) a' → wpL P ro Y Q rest a' w) : wpL P ro Y Q (⟨some d, .extract x 0, T, p, af, none⟩ :: rest) a w := ext hH hx rfl hd h
theorem ext3_1 (hH : Has ds n l a) {x : Operand} {d : Nat} {v0 v1 v2 : Value} (hx : ev l x = some (.tuple #[v0, v1, v2])) (hd : Nat.blt d n = true)
    (h : ∀ a', Has ds n ((d, v1) :: l) a' → wpL P ro Y Q rest a' w) : wpL P ro Y Q (⟨some d, .extract x 1, T, p, af, none⟩ :: rest) a w := ext hH hx rfl hd h
theorem ext3_2 (hH : Has ds n l a) {x : Operand} {d : Nat} {v0 v1 v2 : Value} (hx : ev l x = some (.tuple #[v0, v1, v2])) (hd : Nat.blt d n = true)
    (h : ∀ a', Has ds n ((d, v2) :: l) a' → wpL P ro Y Q rest a' w) : wpL P ro Y Q (⟨some d, .extract x 2, T, p, af, none⟩ :: rest) a w := ext hH hx rfl hd h
theorem ext4_0 (hH : Has ds n l a) {x : Operand} {d : Nat} {v0 v1 v2 v3 : Value} (hx : ev l x = some (.tuple #[v0, v1, v2, v3])) (hd : Nat.blt d n = true)
    (h : ∀ a', Has ds n ((d, v0) :: l) a' → wpL P ro Y Q rest a' w) : wpL P ro Y Q (⟨some d, .extract x 0, T, p, af, none⟩ :: rest) a w := ext hH hx rfl hd h
theorem ext4_1 (hH : Has ds n l a) {x : Operand} {d : Nat} {v0 v1 v2 v3 : Value} (hx : ev l x = some (.tuple #[v0, v1, v2, v3])) (hd : Nat.blt d n = true)
    (h : ∀ a', Has ds n ((d, v1) :: l) a' → wpL P ro Y Q rest a' w) : wpL P ro Y Q (⟨some d, .extract x 1, T, p, af, none⟩ :: rest) a w := ext hH hx rfl hd h
theorem ext4_2 (hH : Has ds n l a) {x : Operand} {d : Nat} {v0 v1 v2 v3 : Value} (hx : ev l x = some (.tuple #[v0, v1, v2, v3])) (hd : Nat.blt d n = true)
    (h : ∀ a', Has ds n ((d, v2) :: l) a' → wpL P ro Y Q rest a' w) : wpL P ro Y Q (⟨some d, .extract x 2, T, p, af, none⟩ :: rest) a w := ext hH hx rfl hd h
theorem ext4_3 (hH : Has ds n l a) {x : Operand} {d : Nat} {v0 v1 v2 v3 : Value} (hx : ev l x = some (.tuple #[v0, v1, v2, v3])) (hd : Nat.blt d n = true)
    (h : ∀ a', Has ds n ((d, v3) :: l) a' → wpL P ro Y Q rest a' w) : wpL P ro Y Q (⟨some d, .extract x 3, T, p, af, none⟩ :: rest) a w := ext hH hx rfl hd h
theorem ext5_0 (hH : Has ds n l a) {x : Operand} {d : Nat} {v0 v1 v2 v3 v4 : Value} (hx : ev l x = some (.tuple #[v0, v1, v2, v3, v4])) (hd : Nat.blt d n = true)
    (h : ∀ a', Has ds n ((d, v0) :: l) a' → wpL P ro Y Q rest a' w) : wpL P ro Y Q (⟨some d, .extract x 0, T, p, af, none⟩ :: rest) a w := ext hH hx rfl hd h
theorem ext5_1 (hH : Has ds n l a) {x : Operand} {d : Nat} {v0 v1 v2 v3 v4 : Value} (hx : ev l x = some (.tuple #[v0, v1, v2, v3, v4])) (hd : Nat.blt d n = true)
    (h : ∀ a', Has ds n ((d, v1) :: l) a' → wpL P ro Y Q rest a' w) : wpL P ro Y Q (⟨some d, .extract x 1, T, p, af, none⟩ :: rest) a w := ext hH hx rfl hd h
theorem ext5_2 (hH : Has ds n l a) {x : Operand} {d : Nat} {v0 v1 v2 v3 v4 : Value} (hx : ev l x = some (.tuple #[v0, v1, v2, v3, v4])) (hd : Nat.blt d n = true)
    (h : ∀ a', Has ds n ((d, v2) :: l) a' → wpL P ro Y Q rest a' w) : wpL P ro Y Q (⟨some d, .extract x 2, T, p, af, none⟩ :: rest) a w := ext hH hx rfl hd h
theorem ext5_3 (hH : Has ds n l a) {x : Operand} {d : Nat} {v0 v1 v2 v3 v4 : Value} (hx : ev l x = some (.tuple #[v0, v1, v2, v3, v4])) (hd : Nat.blt d n = true)
    (h : ∀ a', Has ds n ((d, v3) :: l) a' → wpL P ro Y Q rest a' w) : wpL P ro Y Q (⟨some d, .extract x 3, T, p, af, none⟩ :: rest) a w := ext hH hx rfl hd h
theorem ext5_4 (hH : Has ds n l a) {x : Operand} {d : Nat} {v0 v1 v2 v3 v4 : Value} (hx : ev l x = some (.tuple #[v0, v1, v2, v3, v4])) (hd : Nat.blt d n = true)
    (h : ∀ a', Has ds n ((d, v4) :: l) a' → wpL P ro Y Q rest a' w) : wpL P ro Y Q (⟨some d, .extract x 4, T, p, af, none⟩ :: rest) a w := ext hH hx rfl hd h
theorem unot (hH : Has ds n l a) {x : Operand} {u : TypeId} {d : Nat} {t : Bool} (hx : ev l x = some (.bool t)) (hd : Nat.blt d n = true)
    (h : ∀ a', Has ds n ((d, .bool (!t)) :: l) a' → wpL P ro Y Q rest a' w) : wpL P ro Y Q (⟨some d, .unOp .not u x, T, p, af, none⟩ :: rest) a w :=
  val hH (by simp [execOp, hH.eval hx, Op.unary]) hd h
theorem nlc (hH : Has ds n l a) {x : Operand} {d : Nat} {ad : Addr} (hx : ev l x = some (.pointer (some ad))) (hd : Nat.blt d n = true)
    (h : ∀ a', Has ds n ((d, .pointer (some ad)) :: l) a' → wpL P ro Y Q rest a' w) : wpL P ro Y Q (⟨some d, .nilCheck x, T, p, af, none⟩ :: rest) a w :=
  val hH (by simp [execOp, hH.eval hx]) hd h

/-! whole numbers -/
section
variable {x y : Operand} {u u' : TypeId} {k : IntKind} {i j : Int} {d : Nat}
theorem lss (hH : Has ds n l a) (hx : ev l x = some (.int k i)) (hy : ev l y = some (.int k j)) (hd : Nat.blt d n = true)
    (h : ∀ a', Has ds n ((d, .bool (decide (i < j))) :: l) a' → wpL P ro Y Q rest a' w) : wpL P ro Y Q (⟨some d, .binOp .lss u x y u', T, p, af, none⟩ :: rest) a w :=
  val hH (by simp [execOp, hH.eval hx, hH.eval hy, eqGuard, binOp, Op.intCmp]) hd h
theorem leq (hH : Has ds n l a) (hx : ev l x = some (.int k i)) (hy : ev l y = some (.int k j)) (hd : Nat.blt d n = true)
    (h : ∀ a', Has ds n ((d, .bool (decide (i ≤ j))) :: l) a' → wpL P ro Y Q rest a' w) : wpL P ro Y Q (⟨some d, .binOp .leq u x y u', T, p, af, none⟩ :: rest) a w :=
  val hH (by simp [execOp, hH.eval hx, hH.eval hy, eqGuard, binOp, Op.intCmp]) hd h
theorem gtr (hH : Has ds n l a) (hx : ev l x = some (.int k i)) (hy : ev l y = some (.int k j)) (hd : Nat.blt d n = true)
    (h : ∀ a', Has ds n ((d, .bool (decide (j < i))) :: l) a' → wpL P ro Y Q rest a' w) : wpL P ro Y Q (⟨some d, .binOp .gtr u x y u', T, p, af, none⟩ :: rest) a w :=
  val hH (by simp [execOp, hH.eval hx, hH.eval hy, eqGuard, binOp, Op.intCmp]) hd h
theorem geq (hH : Has ds n l a) (hx : ev l x = some (.int k i)) (hy : ev l y = some (.int k j)) (hd : Nat.blt d n = true)
    (h : ∀ a', Has ds n ((d, .bool (decide (j ≤ i))) :: l) a' → wpL P ro Y Q rest a' w) : wpL P ro Y Q (⟨some d, .binOp .geq u x y u', T, p, af, none⟩ :: rest) a w :=
  val hH (by simp [execOp, hH.eval hx, hH.eval hy, eqGuard, binOp, Op.intCmp]) hd h
theorem ieq (hH : Has ds n l a) (hx : ev l x = some (.int k i)) (hy : ev l y = some (.int k j)) (hd : Nat.blt d n = true)
    (h : ∀ a', Has ds n ((d, .bool (decide (i = j))) :: l) a' → wpL P ro Y Q rest a' w) : wpL P ro Y Q (⟨some d, .binOp .eql u x y u', T, p, af, none⟩ :: rest) a w :=
  val hH (by simp [execOp, hH.eval hx, hH.eval hy, eqGuard, binOp, Op.intCmp]; rfl) hd h
theorem ineq (hH : Has ds n l a) (hx : ev l x = some (.int k i)) (hy : ev l y = some (.int k j)) (hd : Nat.blt d n = true)
    (h : ∀ a', Has ds n ((d, .bool (!decide (i = j))) :: l) a' → wpL P ro Y Q rest a' w) : wpL P ro Y Q (⟨some d, .binOp .neq u x y u', T, p, af, none⟩ :: rest) a w :=
  val hH (by simp [execOp, hH.eval hx, hH.eval hy, eqGuard, binOp, Op.intCmp]; rfl) hd h
theorem add (hH : Has ds n l a) (hx : ev l x = some (.int .i64 i)) (hy : ev l y = some (.int .i64 j)) (hd : Nat.blt d n = true) (hb : -9223372036854775808 ≤ i + j ∧ i + j ≤ 9223372036854775807)
    (h : ∀ a', Has ds n ((d, .int .i64 (i + j)) :: l) a' → wpL P ro Y Q rest a' w) : wpL P ro Y Q (⟨some d, .binOp .add u x y u', T, p, af, none⟩ :: rest) a w :=
  val hH (by simp [execOp, hH.eval hx, hH.eval hy, eqGuard, binOp, Op.intArith, wrap_i64 hb]) hd h
theorem sub (hH : Has ds n l a) (hx : ev l x = some (.int .i64 i)) (hy : ev l y = some (.int .i64 j)) (hd : Nat.blt d n = true) (hb : -9223372036854775808 ≤ i - j ∧ i - j ≤ 9223372036854775807)
    (h : ∀ a', Has ds n ((d, .int .i64 (i - j)) :: l) a' → wpL P ro Y Q rest a' w) : wpL P ro Y Q (⟨some d, .binOp .sub u x y u', T, p, af, none⟩ :: rest) a w :=
  val hH (by simp [execOp, hH.eval hx, hH.eval hy, eqGuard, binOp, Op.intArith, wrap_i64 hb]) hd h
theorem mul (hH : Has ds n l a) (hx : ev l x = some (.int .i64 i)) (hy : ev l y = some (.int .i64 j)) (hd : Nat.blt d n = true) (hb : -9223372036854775808 ≤ i * j ∧ i * j ≤ 9223372036854775807)
    (h : ∀ a', Has ds n ((d, .int .i64 (i * j)) :: l) a' → wpL P ro Y Q rest a' w) : wpL P ro Y Q (⟨some d, .binOp .mul u x y u', T, p, af, none⟩ :: rest) a w :=
  val hH (by simp [execOp, hH.eval hx, hH.eval hy, eqGuard, binOp, Op.intArith, wrap_i64 hb]) hd h
/-- The same with the wrap left as it stands. -/
theorem addw (hH : Has ds n l a) (hx : ev l x = some (.int k i)) (hy : ev l y = some (.int k j)) (hd : Nat.blt d n = true)
    (h : ∀ a', Has ds n ((d, .int k (k.wrap (i + j))) :: l) a' → wpL P ro Y Q rest a' w) : wpL P ro Y Q (⟨some d, .binOp .add u x y u', T, p, af, none⟩ :: rest) a w :=
  val hH (by simp [execOp, hH.eval hx, hH.eval hy, eqGuard, binOp, Op.intArith]) hd h
theorem subw (hH : Has ds n l a) (hx : ev l x = some (.int k i)) (hy : ev l y = some (.int k j)) (hd : Nat.blt d n = true)
    (h : ∀ a', Has ds n ((d, .int k (k.wrap (i - j))) :: l) a' → wpL P ro Y Q rest a' w) : wpL P ro Y Q (⟨some d, .binOp .sub u x y u', T, p, af, none⟩ :: rest) a w :=
  val hH (by simp [execOp, hH.eval hx, hH.eval hy, eqGuard, binOp, Op.intArith]) hd h
theorem mulw (hH : Has ds n l a) (hx : ev l x = some (.int k i)) (hy : ev l y = some (.int k j)) (hd : Nat.blt d n = true)
    (h : ∀ a', Has ds n ((d, .int k (k.wrap (i * j))) :: l) a' → wpL P ro Y Q rest a' w) : wpL P ro Y Q (⟨some d, .binOp .mul u x y u', T, p, af, none⟩ :: rest) a w :=
  val hH (by simp [execOp, hH.eval hx, hH.eval hy, eqGuard, binOp, Op.intArith]) hd h
theorem quo (hH : Has ds n l a) (hx : ev l x = some (.int .i64 i)) (hy : ev l y = some (.int .i64 j)) (hd : Nat.blt d n = true) (hb : 0 ≤ i ∧ i ≤ 9223372036854775807 ∧ 0 < j)
    (h : ∀ a', Has ds n ((d, .int .i64 (i / j)) :: l) a' → wpL P ro Y Q rest a' w) : wpL P ro Y Q (⟨some d, .binOp .quo u x y u', T, p, af, none⟩ :: rest) a w :=
  val hH (by
    have h1 : i.tdiv j = i / j := Int.tdiv_eq_ediv_of_nonneg hb.1
    have h0 : 0 ≤ i / j := Int.ediv_nonneg hb.1 (by omega)
    have h2 : i / j ≤ i := Int.ediv_le_self _ hb.1
    have h3 : IntKind.i64.wrap (i.tdiv j) = i / j := by rw [h1]; exact wrap_i64 ⟨by omega, by omega⟩
    have h4 : ¬ j = 0 := by omega
    simp [execOp, hH.eval hx, hH.eval hy, eqGuard, binOp, Op.intDiv, h3, h4]) hd h
theorem rem (hH : Has ds n l a) (hx : ev l x = some (.int .i64 i)) (hy : ev l y = some (.int .i64 j)) (hd : Nat.blt d n = true) (hb : 0 ≤ i ∧ 0 < j)
    (h : ∀ a', Has ds n ((d, .int .i64 (i % j)) :: l) a' → wpL P ro Y Q rest a' w) : wpL P ro Y Q (⟨some d, .binOp .rem u x y u', T, p, af, none⟩ :: rest) a w :=
  val hH (by
    have h1 : i.tmod j = i % j := Int.tmod_eq_emod_of_nonneg hb.1
    have h4 : ¬ j = 0 := by omega
    simp [execOp, hH.eval hx, hH.eval hy, eqGuard, binOp, Op.intDiv, h1, h4]) hd h
theorem remt (hH : Has ds n l a) (hx : ev l x = some (.int k i)) (hy : ev l y = some (.int k j)) (hd : Nat.blt d n = true) (hb : j ≠ 0)
    (h : ∀ a', Has ds n ((d, .int k (i.tmod j)) :: l) a' → wpL P ro Y Q rest a' w) : wpL P ro Y Q (⟨some d, .binOp .rem u x y u', T, p, af, none⟩ :: rest) a w :=
  val hH (by
    simp [execOp, hH.eval hx, hH.eval hy, eqGuard, binOp, Op.intDiv, hb]) hd h
theorem shr (hH : Has ds n l a) {k' : IntKind} {c : Nat} (hx : ev l x = some (.int .i64 i)) (hy : ev l y = some (.int k' (c : Int))) (hd : Nat.blt d n = true) (hc : c ≤ 64)
    (h : ∀ a', Has ds n ((d, .int .i64 (i / (2 ^ c : Nat))) :: l) a' → wpL P ro Y Q rest a' w) : wpL P ro Y Q (⟨some d, .binOp .shr u x y u', T, p, af, none⟩ :: rest) a w :=
  val hH (by
    have h4 : ¬ ((c : Int) < 0) := by omega
    have h5 : min c IntKind.i64.bits = c := Nat.min_eq_left hc
    have h6 : i.fdiv (2 ^ c) = i / ((2 ^ c : Nat) : Int) := by
      rw [Int.fdiv_eq_ediv_of_nonneg _ (by exact Int.pow_nonneg (by omega))]
      simp
    simp only [execOp, hH.eval hx, hH.eval hy, eqGuard, binOp, Op.shift]
    simp [h4, h5, h6]) hd h
theorem and7 (hH : Has ds n l a) (hx : ev l x = some (.int .i64 i)) (hy : ev l y = some (.int .i64 7)) (hd : Nat.blt d n = true) (hb : 0 ≤ i ∧ i ≤ 9223372036854775807)
    (h : ∀ a', Has ds n ((d, .int .i64 (i % 8)) :: l) a' → wpL P ro Y Q rest a' w) : wpL P ro Y Q (⟨some d, .binOp .and u x y u', T, p, af, none⟩ :: rest) a w :=
  val hH (by
    obtain ⟨m, rfl⟩ := Int.eq_ofNat_of_zero_le hb.1
    have h1 : (BitVec.ofInt 64 (m : Int) &&& BitVec.ofInt 64 7).toNat = m % 8 := by
      have e1 : (BitVec.ofInt 64 (m : Int)).toNat = m := by
        rw [BitVec.ofInt_natCast, BitVec.toNat_ofNat]; exact Nat.mod_eq_of_lt (by omega)
      have e2 : (BitVec.ofInt 64 7).toNat = 2 ^ 3 - 1 := rfl
      rw [BitVec.toNat_and, e1, e2, Nat.and_two_pow_sub_one_eq_mod]
    have h2 : IntKind.i64.wrap (((BitVec.ofInt 64 (m : Int) &&& BitVec.ofInt 64 7).toNat : Nat) : Int) = (m : Int) % 8 := by
      rw [h1, wrap_i64 ⟨by omega, by omega⟩]; omega
    have h2' : IntKind.i64.wrap (((BitVec.ofInt IntKind.i64.bits (m : Int) &&& BitVec.ofInt IntKind.i64.bits 7).toNat : Nat) : Int) = (m : Int) % 8 := h2
    simp only [execOp, hH.eval hx, hH.eval hy, eqGuard, binOp, Op.intBits, h2']
    simp) hd h
theorem ctoi (hH : Has ds n l a) {s t : TypeId} (hx : ev l x = some (.int .u8 i)) (hs : P.underlying s = some (.int .u8)) (ht : P.underlying t = some (.int .i64)) (hd : Nat.blt d n = true) (hb : 0 ≤ i ∧ i ≤ 255)
    (h : ∀ a', Has ds n ((d, .int .i64 i) :: l) a' → wpL P ro Y Q rest a' w) : wpL P ro Y Q (⟨some d, .convert s t x, T, p, af, none⟩ :: rest) a w :=
  val hH (by
    have : IntKind.i64.wrap i = i := wrap_i64 ⟨by omega, by omega⟩
    simp [execOp, hH.eval hx, convert, run_underlying hs, run_underlying ht, Conv.intToInt, this]) hd h
theorem itoc (hH : Has ds n l a) {s t : TypeId} (hx : ev l x = some (.int .i64 i)) (hs : P.underlying s = some (.int .i64)) (ht : P.underlying t = some (.int .u8)) (hd : Nat.blt d n = true)
    (h : ∀ a', Has ds n ((d, .int .u8 (IntKind.u8.wrap i)) :: l) a' → wpL P ro Y Q rest a' w) : wpL P ro Y Q (⟨some d, .convert s t x, T, p, af, none⟩ :: rest) a w :=
  val hH (by simp [execOp, hH.eval hx, convert, run_underlying hs, run_underlying ht, Conv.intToInt]) hd h
end

/-! bools and strings -/
section
variable {x y : Operand} {u u' : TypeId} {d : Nat}
theorem beqv (hH : Has ds n l a) {s t : Bool} (hu : P.underlying u = some .bool) (hx : ev l x = some (.bool s)) (hy : ev l y = some (.bool t)) (hd : Nat.blt d n = true)
    (h : ∀ a', Has ds n ((d, .bool (s == t)) :: l) a' → wpL P ro Y Q rest a' w) : wpL P ro Y Q (⟨some d, .binOp .eql u x y u', T, p, af, none⟩ :: rest) a w :=
  val hH (by simp [execOp, hH.eval hx, hH.eval hy, eqGuard, run_beq hu]) hd h
theorem bnev (hH : Has ds n l a) {s t : Bool} (hu : P.underlying u = some .bool) (hx : ev l x = some (.bool s)) (hy : ev l y = some (.bool t)) (hd : Nat.blt d n = true)
    (h : ∀ a', Has ds n ((d, .bool (!(s == t))) :: l) a' → wpL P ro Y Q rest a' w) : wpL P ro Y Q (⟨some d, .binOp .neq u x y u', T, p, af, none⟩ :: rest) a w :=
  val hH (by simp [execOp, hH.eval hx, hH.eval hy, eqGuard, run_bne hu]) hd h
theorem seq (hH : Has ds n l a) {s t : List UInt8} (hx : ev l x = some (str s)) (hy : ev l y = some (str t)) (hd : Nat.blt d n = true)
    (h : ∀ a', Has ds n ((d, .bool (decide (s = t))) :: l) a' → wpL P ro Y Q rest a' w) : wpL P ro Y Q (⟨some d, .binOp .eql u x y u', T, p, af, none⟩ :: rest) a w :=
  val hH (by
    have e : (s == t) = decide (s = t) := by rw [Bool.eq_iff_iff]; simp
    simp [execOp, hH.eval hx, hH.eval hy, eqGuard, binOp, Op.stringOp, byteArray_toList, e]) hd h
theorem sneq (hH : Has ds n l a) {s t : List UInt8} (hx : ev l x = some (str s)) (hy : ev l y = some (str t)) (hd : Nat.blt d n = true)
    (h : ∀ a', Has ds n ((d, .bool (!decide (s = t))) :: l) a' → wpL P ro Y Q rest a' w) : wpL P ro Y Q (⟨some d, .binOp .neq u x y u', T, p, af, none⟩ :: rest) a w :=
  val hH (by
    have e : (s == t) = decide (s = t) := by rw [Bool.eq_iff_iff]; simp
    simp [execOp, hH.eval hx, hH.eval hy, eqGuard, binOp, Op.stringOp, byteArray_toList, e]) hd h
theorem sleq (hH : Has ds n l a) {s t : List UInt8} (hx : ev l x = some (str s)) (hy : ev l y = some (str t)) (hd : Nat.blt d n = true)
    (h : ∀ a', Has ds n ((d, .bool (Op.bytesLess s t || s == t)) :: l) a' → wpL P ro Y Q rest a' w) : wpL P ro Y Q (⟨some d, .binOp .leq u x y u', T, p, af, none⟩ :: rest) a w :=
  val hH (by
    simp [execOp, hH.eval hx, hH.eval hy, eqGuard, binOp, Op.stringOp, byteArray_toList]) hd h
theorem sadd (hH : Has ds n l a) {s t : List UInt8} (hx : ev l x = some (str s)) (hy : ev l y = some (str t)) (hd : Nat.blt d n = true) (hb : s.length + t.length ≤ 9223372036854775807)
    (h : ∀ a', Has ds n ((d, str (s ++ t)) :: l) a' → wpL P ro Y Q rest a' w) : wpL P ro Y Q (⟨some d, .binOp .add u x y u', T, p, af, none⟩ :: rest) a w :=
  val hH (by
    have e : (ByteArray.mk s.toArray ++ ByteArray.mk t.toArray) = ByteArray.mk (s ++ t).toArray := by
      apply ByteArray.ext; simp
    have e1 : (ByteArray.mk s.toArray).size = s.length := by simp [ByteArray.size]
    have e2 : (ByteArray.mk t.toArray).size = t.length := by simp [ByteArray.size]
    have hm : IntKind.i64.max = 9223372036854775807 := rfl
    have h4 : ¬ (((s.length + t.length : Nat) : Int) > IntKind.i64.max) := by rw [hm]; omega
    simp only [execOp, hH.eval hx, hH.eval hy, eqGuard, binOp, Op.stringOp, e1, e2, if_neg h4, e]
    simp) hd h
theorem lens (hH : Has ds n l a) {s : List UInt8} {ts : Array TypeId} (ht : ts = #[u]) (hu : P.underlying u = some .string) (hx : ev l x = some (str s)) (hd : Nat.blt d n = true)
    (h : ∀ a', Has ds n ((d, .int .i64 (s.length : Int)) :: l) a' → wpL P ro Y Q rest a' w) : wpL P ro Y Q (⟨some d, .call { callee := .builtin .len, args := #[x], argTypes := ts }, T, p, af, none⟩ :: rest) a w :=
  val hH (by
    have e1 : (ByteArray.mk s.toArray).size = s.length := by simp [ByteArray.size]
    subst ht
    simp [execOp, hH.eval hx, resolve, invoke, builtin, Builtin.len_, run_underlying hu, goInt, e1]) hd h
theorem lenv (hH : Has ds n l a) {A : Option Addr} {m c : Nat} {e : TypeId} {ts : Array TypeId} (ht : ts = #[u]) (hu : P.underlying u = some (.slice e)) (hx : ev l x = some (.slice A m c)) (hd : Nat.blt d n = true)
    (h : ∀ a', Has ds n ((d, .int .i64 (m : Int)) :: l) a' → wpL P ro Y Q rest a' w) : wpL P ro Y Q (⟨some d, .call { callee := .builtin .len, args := #[x], argTypes := ts }, T, p, af, none⟩ :: rest) a w :=
  val hH (by
    subst ht
    simp [execOp, hH.eval hx, resolve, invoke, builtin, Builtin.len_, run_underlying hu, goInt]) hd h
theorem capv (hH : Has ds n l a) {A : Option Addr} {m c : Nat} {e : TypeId} {ts : Array TypeId} (ht : ts = #[u]) (hu : P.underlying u = some (.slice e)) (hx : ev l x = some (.slice A m c)) (hd : Nat.blt d n = true)
    (h : ∀ a', Has ds n ((d, .int .i64 (c : Int)) :: l) a' → wpL P ro Y Q rest a' w) : wpL P ro Y Q (⟨some d, .call { callee := .builtin .cap, args := #[x], argTypes := ts }, T, p, af, none⟩ :: rest) a w :=
  val hH (by
    subst ht
    simp [execOp, hH.eval hx, resolve, invoke, builtin, Builtin.cap_, run_underlying hu, goInt]) hd h
theorem minv (hH : Has ds n l a) {i j : Int} {ts : Array TypeId} (hx : ev l x = some (.int .i64 i)) (hy : ev l y = some (.int .i64 j)) (hd : Nat.blt d n = true)
    (h : ∀ a', Has ds n ((d, .int .i64 (min i j)) :: l) a' → wpL P ro Y Q rest a' w) : wpL P ro Y Q (⟨some d, .call { callee := .builtin .min, args := #[x, y], argTypes := ts }, T, p, af, none⟩ :: rest) a w :=
  val hH (by
    have e : (if j < i then j else i) = min i j := by rw [Int.min_def]; split <;> split <;> omega
    simp [execOp, hH.eval hx, hH.eval hy, resolve, invoke, builtin, Builtin.min_, Builtin.min2, e]) hd h
theorem maxv (hH : Has ds n l a) {i j : Int} {ts : Array TypeId} (hx : ev l x = some (.int .i64 i)) (hy : ev l y = some (.int .i64 j)) (hd : Nat.blt d n = true)
    (h : ∀ a', Has ds n ((d, .int .i64 (max i j)) :: l) a' → wpL P ro Y Q rest a' w) : wpL P ro Y Q (⟨some d, .call { callee := .builtin .max, args := #[x, y], argTypes := ts }, T, p, af, none⟩ :: rest) a w :=
  val hH (by
    have e : (if i < j then j else i) = max i j := by rw [Int.max_def]; split <;> split <;> omega
    simp [execOp, hH.eval hx, hH.eval hy, resolve, invoke, builtin, Builtin.max_, Builtin.max2, e]) hd h

/-- s[i:j] of a string, each bound given or not. -/
theorem slcs {s : List UInt8} {lo hi : Option Operand} (i j : Nat) (hH : Has ds n l a) (hu : P.underlying u = some .string) (hx : ev l x = some (str s))
    (hlo : Bnd l lo 0 i) (hhi : Bnd l hi s.length j) (hij : i ≤ j) (hj : j ≤ s.length) (hd : Nat.blt d n = true)
    (h : ∀ a', Has ds n ((d, str ((s.take j).drop i)) :: l) a' → wpL P ro Y Q rest a' w) : wpL P ro Y Q (⟨some d, .slice u x lo hi none, T, p, af, none⟩ :: rest) a w :=
  val hH (by
    have e : (ByteArray.mk s.toArray).extract i j = ByteArray.mk ((s.take j).drop i).toArray := by
      apply ByteArray.ext
      rw [ByteArray.data_extract]
      simp
      rw [List.drop_take]
    have e1 : (ByteArray.mk s.toArray).size = s.length := by simp [ByteArray.size]
    have hb := run_bounds (P := P) (w := w) false s.length s.length (hlo.opt hH) (hhi.opt hH) hij hj
    simp only [execOp, hH.eval hx, Option.map_none]
    rw [Sem.run_bind, run_sliceAt_string w u _ _ _ _ hu]
    simp [Instr.slice, run_underlying hu, e1, hb, e]) hd h
end
end
end Go.Proofs.Ytpgeogdmjgmimaa.K
