/-
  The walk's own small kit, third part: memory. What is there stays there (Kept); blocks that are known whole (Blk); rows that are read (In); one lemma for each operation on memory.
-/
import Derived.Test.YtpgeogdmjgmimaaK2
import Derived.Laws.AppendOwn
import Derived.Laws.Cells
import Derived.Laws.CopyRow
set_option linter.unusedVariables false
set_option linter.unusedSimpArgs false
namespace Go.Proofs.Ytpgeogdmjgmimaa.K
open Go Go.RowKit

/-- All that was there is there as it was. -/
abbrev Kept (w w' : World) : Prop := Below w.heap.size w w'
/-- All that was there, but for block g, is there as it was. -/
abbrev But (g : Nat) (w w' : World) : Prop := w.grownBy w' (some g)

theorem Kept.refl (w : World) : Kept w w := Below.refl _ _
theorem Kept.trans {a b c : World} (h : Kept a b) (k : Kept b c) : Kept a c := Below.trans h (k.mono h.size)
theorem Kept.drew {w w' : World} (h : Kept w w') : Kept w w'.drew := Below.drew h
theorem Kept.drewN {w w' : World} (h : Kept w w') (n : Nat) : Kept w (w'.drewN n) := ⟨h.os, h.tape, h.output, h.size, h.block⟩
theorem Kept.alloc {w w' : World} (h : Kept w w') (o : Obj) : Kept w (w'.alloc o) := Below.alloc h h.size o
theorem Kept.but {w0 w w' : World} (h : Kept w0 w) {g : Nat} (k : But g w w') (hg : w0.heap.size ≤ g) : Kept w0 w' :=
  Below.grown h k h.size (fun i e => by cases e; exact hg)
theorem Kept.toBut {w w' : World} (h : Kept w w') (g : Nat) : But g w w' := ⟨h.os, h.tape, h.output, h.size, fun k hk _ => h.block k hk⟩

/-- Block g is just these cells, none of them frozen. -/
def Blk (w : World) (g : Nat) (t : TypeId) (cs : List Value) : Prop := ∃ fr : Nat × Nat, w.heap[g]? = some (.cells cs.toArray t fr) ∧ (fr.1 = fr.2 ∨ cs.length ≤ fr.1)
section
variable {w w' : World} {g : Nat} {t : TypeId} {cs : List Value}
theorem Blk.lt (h : Blk w g t cs) : g < w.heap.size := by
  obtain ⟨fr, h, _⟩ := h
  rcases Nat.lt_or_ge g w.heap.size with hlt | hge
  · exact hlt
  · rw [Array.getElem?_eq_none hge] at h; cases h
theorem Blk.cell (h : Blk w g t cs) (i : Nat) : w.cell? ⟨g, i, none⟩ = cs[i]? := by
  obtain ⟨fr, h, _⟩ := h
  simp [World.cell?, h]
theorem Blk.frozen (h : Blk w g t cs) (i : Nat) (hi : i < cs.length) : w.frozen? ⟨g, i, none⟩ = false := by
  obtain ⟨fr, h, hf⟩ := h
  have : ¬ (fr.1 ≤ i ∧ i < fr.2) := by rcases hf with hf | hf <;> omega
  simp only [World.frozen?, h]
  simpa using this
theorem Blk.shape (h : Blk w g t cs) : w.shape? g = some (t, cs.length) := by
  obtain ⟨fr, h, _⟩ := h
  simp [World.shape?, h]
theorem Blk.kept (h : Blk w g t cs) (hk : Kept w w') : Blk w' g t cs := by
  have hl := h.lt
  obtain ⟨fr, h, hf⟩ := h
  exact ⟨fr, (hk.block g hl).trans h, hf⟩
theorem Blk.but {g' : Nat} (h : Blk w g t cs) (hk : But g' w w') (hne : g ≠ g') : Blk w' g t cs := by
  have hl := h.lt
  obtain ⟨fr, h, hf⟩ := h
  exact ⟨fr, (hk.block g hl (by intro e; cases e; exact hne rfl)).trans h, hf⟩
theorem Blk.new (w : World) (t : TypeId) (cs : List Value) : Blk (w.alloc (.cells cs.toArray t)) w.heap.size t cs := ⟨(0, 0), heap_alloc_new w _, .inl rfl⟩
theorem Blk.set_ (h : Blk w g t cs) (i : Nat) (u : Value) : Blk (w.setCell ⟨g, i, none⟩ u) g t (cs.set i u) := by
  obtain ⟨fr, h, hf⟩ := h
  refine ⟨fr, ?_, by simpa using hf⟩
  simp [World.setCell, Array.getElem?_modify, h]
theorem But.set_ (w : World) (g i : Nat) (u : Value) : But g w (w.setCell ⟨g, i, none⟩ u) :=
  ⟨rfl, rfl, rfl, by simp [World.setCell], fun k hk hne => Below.heap_setCell w _ u k (fun e => hne (by rw [e]))⟩
theorem But.refl (g : Nat) (w : World) : But g w w := ⟨rfl, rfl, rfl, Nat.le_refl _, fun _ _ _ => rfl⟩
theorem But.trans {a b c : World} {g : Nat} (h : But g a b) (k : But g b c) : But g a c :=
  ⟨k.os.trans h.os, k.tape.trans h.tape, k.output.trans h.output, Nat.le_trans h.size k.size, fun i hi hne => (k.block i (Nat.lt_of_lt_of_le hi h.size) hne).trans (h.block i hi hne)⟩
end

/-- Where A points there stand these values, in a block of which S holds. -/
def In (S : Nat → Prop) (w : World) (A : Option Addr) (vs : List Value) : Prop :=
  vs = [] ∨ ∃ ad, A = some ad ∧ S ad.block ∧ ad.spot = none ∧ ∀ i v, vs[i]? = some v → w.cell? (ad.add i) = some v
theorem block_add (a : Addr) (n : Nat) : (a.add n).block = a.block := by unfold Addr.add; split <;> rfl
theorem add_add' (a : Addr) (i j : Nat) : (a.add i).add j = a.add (i + j) := by
  unfold Addr.add
  by_cases hi : i = 0 <;> by_cases hj : j = 0 <;> simp [hi, hj, Nat.add_assoc]
theorem add_mk (g i j : Nat) : (⟨g, i, none⟩ : Addr).add j = ⟨g, i + j, none⟩ := by
  unfold Addr.add; split
  · rename_i h; subst h; rfl
  · rfl
theorem add_spot (a : Addr) (h : a.spot = none) (n : Nat) : a.add n = ⟨a.block, a.off + n, none⟩ := by
  cases a with
  | mk b o s => simp only at h; subst h; exact add_mk b o n
section
variable {S S' : Nat → Prop} {w w' : World} {A : Option Addr} {vs : List Value}
theorem In.nil (S : Nat → Prop) (w : World) (A : Option Addr) : In S w A [] := .inl rfl
theorem In.get (h : In S w A vs) {i : Nat} {v : Value} (hv : vs[i]? = some v) : ∃ ad, A = some ad ∧ S ad.block ∧ ad.spot = none ∧ w.cell? (ad.add i) = some v := by
  rcases h with rfl | ⟨ad, hA, hS, hsp, hc⟩
  · simp at hv
  · exact ⟨ad, hA, hS, hsp, hc i v hv⟩
theorem In.mono (h : In S w A vs) (hS : ∀ b, S b → S' b) : In S' w A vs := by
  rcases h with h | ⟨ad, hA, hb, hsp, hc⟩
  · exact .inl h
  · exact .inr ⟨ad, hA, hS _ hb, hsp, hc⟩
theorem In.of_block (h : In S w A vs) (hk : ∀ b, b < w.heap.size → S b → w'.heap[b]? = w.heap[b]?) : In S w' A vs := by
  rcases h with h | ⟨ad, hA, hb, hsp, hc⟩
  · exact .inl h
  · refine .inr ⟨ad, hA, hb, hsp, fun i v hv => ?_⟩
    have h1 := hc i v hv
    have h2 := World.block_lt_of_cell? w _ h1
    rw [block_add] at h2
    rw [World.cell?_of_block (w := w) (by rw [block_add]; exact hk _ h2 hb)]
    exact h1
theorem In.kept (h : In S w A vs) (hk : Kept w w') : In S w' A vs := h.of_block fun b hb _ => hk.block b hb
theorem In.but {g : Nat} (h : In S w A vs) (hk : But g w w') (hg : ¬ S g) : In S w' A vs :=
  h.of_block fun b hb hS => hk.block b hb (by intro e; cases e; exact hg hS)
/-- What is read lies in memory that is there: below its size. -/
theorem In.lt (h : In S w A vs) : In (fun b => S b ∧ b < w.heap.size) w A vs := by
  rcases h with h | ⟨ad, hA, hb, hsp, hc⟩
  · exact .inl h
  · cases vs with
    | nil => exact .inl rfl
    | cons v vs =>
      refine .inr ⟨ad, hA, ⟨hb, ?_⟩, hsp, hc⟩
      have := World.block_lt_of_cell? w _ (hc 0 v rfl)
      rwa [block_add] at this
/-- A part of it: as s[i:j] has it. -/
theorem In.slice (h : In S w A vs) (i j m : Nat) (size : Nat) (hj : j ≤ m) : In S w (if m = i then A else A.map (·.add (i * size))) ((vs.take (j * size)).drop (i * size)) := by
  rcases h with rfl | ⟨ad, rfl, hb, hsp, hc⟩
  · left; simp
  · by_cases hm : m = i
    · left
      have : j * size ≤ i * size := Nat.mul_le_mul_right _ (by omega)
      apply List.eq_nil_of_length_eq_zero
      simp; omega
    · rw [if_neg hm]
      right
      refine ⟨ad.add (i * size), rfl, by rw [block_add]; exact hb, ?_, fun k v hv => ?_⟩
      · unfold Addr.add; split
        · exact hsp
        · rfl
      · rw [add_add']
        refine hc _ v ?_
        rw [List.getElem?_drop, List.getElem?_take] at hv
        split at hv
        · exact hv
        · cases hv
end

/-! ### Bytes, rows of bytes, and what else the program's data are -/
/-- A slice of bytes. -/
def Byt (S : Nat → Prop) (w : World) (v : Value) (bs : List UInt8) : Prop :=
  ∃ A c, v = .slice A bs.length c ∧ bs.length ≤ c ∧ c ≤ 9223372036854775807 ∧ In S w A (bs.map u8)
/-- A slice of slices of bytes. -/
def Rws (S : Nat → Prop) (w : World) (v : Value) (l : List (List UInt8)) : Prop :=
  ∃ A c vs, v = .slice A l.length c ∧ l.length ≤ c ∧ c ≤ 9223372036854775807 ∧ vs.length = l.length ∧ In S w A vs ∧ ∀ (i : Nat) (u : Value) (b : List UInt8), vs[i]? = some u → l[i]? = some b → Byt S w u b
/-- A slice of whole numbers. -/
def Ints (S : Nat → Prop) (w : World) (v : Value) (l : List Int) : Prop :=
  ∃ A c, v = .slice A l.length c ∧ l.length ≤ c ∧ c ≤ 9223372036854775807 ∧ In S w A (l.map (Value.int .i64))
/-- A slice of structs: each one's cells. -/
def Sts {α : Type} (f : α → List Value) (S : Nat → Prop) (w : World) (v : Value) (l : List α) : Prop :=
  ∃ A c, v = .slice A l.length c ∧ l.length ≤ c ∧ c ≤ 9223372036854775807 ∧ In S w A (l.flatMap f)
section
variable {S S' : Nat → Prop} {w w' : World} {v : Value}
theorem Byt.kept {bs : List UInt8} (h : Byt S w v bs) (hk : Kept w w') : Byt S w' v bs := by
  obtain ⟨A, c, rfl, h1, h2, h3⟩ := h; exact ⟨A, c, rfl, h1, h2, h3.kept hk⟩
theorem Byt.but {bs : List UInt8} {g : Nat} (h : Byt S w v bs) (hk : But g w w') (hg : ¬ S g) : Byt S w' v bs := by
  obtain ⟨A, c, rfl, h1, h2, h3⟩ := h; exact ⟨A, c, rfl, h1, h2, h3.but hk hg⟩
theorem Byt.mono {bs : List UInt8} (h : Byt S w v bs) (hS : ∀ b, S b → S' b) : Byt S' w v bs := by
  obtain ⟨A, c, rfl, h1, h2, h3⟩ := h; exact ⟨A, c, rfl, h1, h2, h3.mono hS⟩
theorem Byt.lt {bs : List UInt8} (h : Byt S w v bs) : Byt (fun b => S b ∧ b < w.heap.size) w v bs := by
  obtain ⟨A, c, rfl, h1, h2, h3⟩ := h; exact ⟨A, c, rfl, h1, h2, h3.lt⟩
theorem Byt.nil (S : Nat → Prop) (w : World) : Byt S w (.slice none 0 0) [] := ⟨none, 0, rfl, by simp, by omega, In.nil _ _ _⟩
theorem Rws.kept {l : List (List UInt8)} (h : Rws S w v l) (hk : Kept w w') : Rws S w' v l := by
  obtain ⟨A, c, vs, rfl, h1, h2, h3, h4, h5⟩ := h; exact ⟨A, c, vs, rfl, h1, h2, h3, h4.kept hk, fun i u b hu hb => (h5 i u b hu hb).kept hk⟩
theorem Rws.but {l : List (List UInt8)} {g : Nat} (h : Rws S w v l) (hk : But g w w') (hg : ¬ S g) : Rws S w' v l := by
  obtain ⟨A, c, vs, rfl, h1, h2, h3, h4, h5⟩ := h; exact ⟨A, c, vs, rfl, h1, h2, h3, h4.but hk hg, fun i u b hu hb => (h5 i u b hu hb).but hk hg⟩
theorem Rws.mono {l : List (List UInt8)} (h : Rws S w v l) (hS : ∀ b, S b → S' b) : Rws S' w v l := by
  obtain ⟨A, c, vs, rfl, h1, h2, h3, h4, h5⟩ := h; exact ⟨A, c, vs, rfl, h1, h2, h3, h4.mono hS, fun i u b hu hb => (h5 i u b hu hb).mono hS⟩
theorem Rws.lt {l : List (List UInt8)} (h : Rws S w v l) : Rws (fun b => S b ∧ b < w.heap.size) w v l := by
  obtain ⟨A, c, vs, rfl, h1, h2, h3, h4, h5⟩ := h; exact ⟨A, c, vs, rfl, h1, h2, h3, h4.lt, fun i u b hu hb => (h5 i u b hu hb).lt⟩
theorem Rws.nil (S : Nat → Prop) (w : World) : Rws S w (.slice none 0 0) [] := ⟨none, 0, [], rfl, by simp, by omega, rfl, In.nil _ _ _, fun i u b hu => by simp at hu⟩
theorem Ints.kept {l : List Int} (h : Ints S w v l) (hk : Kept w w') : Ints S w' v l := by
  obtain ⟨A, c, rfl, h1, h2, h3⟩ := h; exact ⟨A, c, rfl, h1, h2, h3.kept hk⟩
theorem Ints.but {l : List Int} {g : Nat} (h : Ints S w v l) (hk : But g w w') (hg : ¬ S g) : Ints S w' v l := by
  obtain ⟨A, c, rfl, h1, h2, h3⟩ := h; exact ⟨A, c, rfl, h1, h2, h3.but hk hg⟩
theorem Sts.kept {α : Type} {f : α → List Value} {l : List α} (h : Sts f S w v l) (hk : Kept w w') : Sts f S w' v l := by
  obtain ⟨A, c, rfl, h1, h2, h3⟩ := h; exact ⟨A, c, rfl, h1, h2, h3.kept hk⟩
theorem Sts.but {α : Type} {f : α → List Value} {l : List α} {g : Nat} (h : Sts f S w v l) (hk : But g w w') (hg : ¬ S g) : Sts f S w' v l := by
  obtain ⟨A, c, rfl, h1, h2, h3⟩ := h; exact ⟨A, c, rfl, h1, h2, h3.but hk hg⟩
theorem Sts.mono {α : Type} {f : α → List Value} {l : List α} (h : Sts f S w v l) (hS : ∀ b, S b → S' b) : Sts f S' w v l := by
  obtain ⟨A, c, rfl, h1, h2, h3⟩ := h; exact ⟨A, c, rfl, h1, h2, h3.mono hS⟩
theorem Sts.nil {α : Type} (f : α → List Value) (S : Nat → Prop) (w : World) : Sts f S w (.slice none 0 0) [] := ⟨none, 0, rfl, by simp, by omega, In.nil _ _ _⟩
end

/-! ### The operations -/
section
variable {P : Program} {ro : Option Nat} {Y : List (Option Tmp)} {Q : Exit → Act → World → Prop} {rest : List Oper} {ds : List Deferred} {n : Nat} {l : Env} {a : Act} {w : World}
variable {T : TypeId} {p : String} {af : Array Edge} {x y : Operand} {u : TypeId} {d : Nat}

/-- A new block of one variable: zero. -/
theorem alc (hH : Has ds n l a) {z : Value} {cs : List Value} (hz : ∀ w, (zeroValue u).run P w = .ok z w) (hcs : z.cells = cs.toArray) (hd : Nat.blt d n = true)
    (h : ∀ a' w' g, Has ds n ((d, .pointer (some ⟨g, 0, none⟩)) :: l) a' → Kept w w' → w.heap.size ≤ g → Blk w' g u cs → wpL P ro Y Q rest a' w') : wpL P ro Y Q (⟨some d, .alloc u, T, p, af, none⟩ :: rest) a w :=
  wpL_value (v := .pointer (some ⟨w.heap.size, 0, none⟩)) (w' := w.alloc (.cells cs.toArray u)) rfl (by
    simp only [execOp, Instr.alloc]
    simp [hz, newVar, newRow, newObj, hcs]
    rfl) (h _ _ _ (hH.put d _ hd) ((Kept.refl w).alloc _) (Nat.le_refl _) (Blk.new _ _ _))
/-- A new block of one variable: a value. -/
theorem bxv (hH : Has ds n l a) {v : Value} {cs : List Value} (hx : ev l x = some v) (hcs : v.cells = cs.toArray) (hd : Nat.blt d n = true)
    (h : ∀ a' w' g, Has ds n ((d, .pointer (some ⟨g, 0, none⟩)) :: l) a' → Kept w w' → w.heap.size ≤ g → Blk w' g u cs → wpL P ro Y Q rest a' w') : wpL P ro Y Q (⟨some d, .box u x, T, p, af, none⟩ :: rest) a w :=
  wpL_value (v := .pointer (some ⟨w.heap.size, 0, none⟩)) (w' := w.alloc (.cells cs.toArray u)) rfl (by
    simp only [execOp, Instr.box, hH.eval hx]
    simp [newVar, newRow, newObj, hcs]
    rfl) (h _ _ _ (hH.put d _ hd) ((Kept.refl w).alloc _) (Nat.le_refl _) (Blk.new _ _ _))

/-- A variable of one cell is read. -/
theorem ld1 (hH : Has ds n l a) {ad : Addr} {v : Value} (hx : ev l x = some (.pointer (some ad))) (hag : ∀ w, (isAgg u).run P w = .ok false w) (hc : w.cell? ad = some v) (hd : Nat.blt d n = true)
    (h : ∀ a', Has ds n ((d, v) :: l) a' → wpL P ro Y Q rest a' w) : wpL P ro Y Q (⟨some d, .load u x, T, p, af, none⟩ :: rest) a w :=
  val hH (by
    simp only [execOp, hH.eval hx, Instr.loadAt, Instr.sureAddr]
    simp [loadVar, hag, hc]) hd h
/-- A variable of several cells is read. -/
theorem ldn (hH : Has ds n l a) {ad : Addr} (vs : List Value) (hx : ev l x = some (.pointer (some ad))) (hag : ∀ w, (isAgg u).run P w = .ok true w) (hsz : ∀ w, (sizeOf u).run P w = .ok vs.length w) (hc : ∀ i v, vs[i]? = some v → w.cell? (ad.add i) = some v) (hd : Nat.blt d n = true)
    (h : ∀ a', Has ds n ((d, .agg vs.toArray) :: l) a' → wpL P ro Y Q rest a' w) : wpL P ro Y Q (⟨some d, .load u x, T, p, af, none⟩ :: rest) a w :=
  val hH (by
    simp only [execOp, hH.eval hx, Instr.loadAt, Instr.sureAddr]
    simp [loadVar, hag, hsz, run_loadCells_list w ad vs hc]) hd h
/-- A known block's variable. -/
theorem ldb (hH : Has ds n l a) {g o : Nat} {t : TypeId} {cs : List Value} {v : Value} (hB : Blk w g t cs) (hx : ev l x = some (.pointer (some ⟨g, o, none⟩))) (hag : ∀ w, (isAgg u).run P w = .ok false w) (hc : cs[o]? = some v) (hd : Nat.blt d n = true)
    (h : ∀ a', Has ds n ((d, v) :: l) a' → wpL P ro Y Q rest a' w) : wpL P ro Y Q (⟨some d, .load u x, T, p, af, none⟩ :: rest) a w :=
  ld1 hH hx hag (by rw [hB.cell]; exact hc) hd h
theorem ldbn (hH : Has ds n l a) {g o : Nat} {t : TypeId} {cs : List Value} (hB : Blk w g t cs) (vs : List Value) (hx : ev l x = some (.pointer (some ⟨g, o, none⟩))) (hag : ∀ w, (isAgg u).run P w = .ok true w) (hsz : ∀ w, (sizeOf u).run P w = .ok vs.length w) (hc : (cs.drop o).take vs.length = vs) (hd : Nat.blt d n = true)
    (h : ∀ a', Has ds n ((d, .agg vs.toArray) :: l) a' → wpL P ro Y Q rest a' w) : wpL P ro Y Q (⟨some d, .load u x, T, p, af, none⟩ :: rest) a w :=
  ldn hH vs hx hag hsz (fun i v hv => by
    rw [add_mk, hB.cell]
    rw [← hc, List.getElem?_take] at hv
    split at hv
    · rw [List.getElem?_drop] at hv; exact hv
    · cases hv) hd h

theorem run_storeCells_blk (g : Nat) (t : TypeId) : ∀ (vs : List Value) (i o : Nat) (cs : List Value) (w : World), Blk w g t cs → o + i + vs.length ≤ cs.length → (∀ v ∈ vs, v.oneCell' = true) →
    ∃ w', (storeCells ⟨g, o, none⟩ vs i).run P w = .ok () w' ∧ Blk w' g t (cs.take (o + i) ++ vs ++ cs.drop (o + i + vs.length)) ∧ But g w w' := by
  intro vs
  induction vs with
  | nil =>
    intro i o cs w hB hl h1
    refine ⟨w, by simp [storeCells], by simpa using hB, ⟨rfl, rfl, rfl, Nat.le_refl _, fun _ _ _ => rfl⟩⟩
  | cons v vs ih =>
    intro i o cs w hB hl h1
    have hv : v.oneCell' = true := h1 v (by simp)
    have hlt : o + i < cs.length := by simp at hl; omega
    have hcell : w.cell? ⟨g, o + i, none⟩ = some (cs[o + i]) := by rw [hB.cell]; exact List.getElem?_eq_getElem hlt
    have hB2 := hB.set_ (o + i) v
    obtain ⟨w', hr, hB', hb⟩ := ih (i + 1) o (cs.set (o + i) v) _ hB2 (by simp at hl ⊢; omega) (fun u hu => h1 u (by simp [hu]))
    refine ⟨w', ?_, ?_, ?_⟩
    · simp only [storeCells, add_mk, Sem.run_bind]
      rw [run_store P w _ v .plain hv]
      simp only [stored, hcell, hB.frozen _ hlt]
      simpa using hr
    · have e : List.take (o + (i + 1)) (cs.set (o + i) v) ++ vs ++ List.drop (o + (i + 1) + vs.length) (cs.set (o + i) v) = List.take (o + i) cs ++ (v :: vs) ++ List.drop (o + i + (v :: vs).length) cs := by
        rw [List.take_set, List.drop_set, if_pos (by omega), ← Nat.add_assoc]
        rw [List.take_succ_eq_append_getElem hlt]
        rw [List.set_append, if_neg (by simp; omega)]
        have : o + i - (List.take (o + i) cs).length = 0 := by simp; omega
        rw [this]
        simp [Nat.add_assoc, Nat.add_comm 1]
      rw [e] at hB'
      exact hB'
    · have hb1 := But.set_ w g (o + i) v
      exact ⟨hb.os.trans hb1.os, hb.tape.trans hb1.tape, hb.output.trans hb1.output, Nat.le_trans hb1.size hb.size, fun k hk hne => (hb.block k (Nat.lt_of_lt_of_le hk hb1.size) hne).trans (hb1.block k hk hne)⟩

/-- A store into a known block. -/
theorem stb (hH : Has ds n l a) {g o : Nat} {t : TypeId} {cs : List Value} {v : Value} (hB : Blk w g t cs) (hx : ev l x = some (.pointer (some ⟨g, o, none⟩))) (hy : ev l y = some v) (vs : List Value) (hcs : v.cells = vs.toArray)
    (hsz : ∀ w, (sizeOf u).run P w = .ok vs.length w) (h1 : ∀ v ∈ vs, v.oneCell' = true) (cs' : List Value) (hl : o + vs.length ≤ cs.length) (hcs' : cs.take o ++ vs ++ cs.drop (o + vs.length) = cs')
    (h : ∀ w', Blk w' g t cs' → But g w w' → wpL P ro Y Q rest a w') : wpL P ro Y Q (⟨none, .store u x y, T, p, af, none⟩ :: rest) a w := by
  obtain ⟨w', hr, hB', hb⟩ := run_storeCells_blk (P := P) g t vs 0 o cs w hB (by omega) h1
  refine wpL_skip (w' := w') rfl ?_ (h w' (by rw [← hcs']; exact hB') hb)
  simp only [execOp, hH.eval hx, hH.eval hy, Instr.storeAt, Instr.sureAddr]
  have : v.cells.size = vs.length := by rw [hcs]; simp
  simp [storeVar, hsz, this, hcs, hr]
end
end Go.Proofs.Ytpgeogdmjgmimaa.K
