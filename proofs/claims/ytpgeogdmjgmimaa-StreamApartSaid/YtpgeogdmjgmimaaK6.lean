/-
  The walk's own small kit, sixth part: rows of the call's own: made, appended to, copied into.
-/
import Derived.Test.YtpgeogdmjgmimaaK5
set_option linter.unusedVariables false
set_option linter.unusedSimpArgs false
namespace Go.Proofs.Ytpgeogdmjgmimaa.K
open Go Go.RowKit

/-- A row that the call owns: nothing, or the head of a block known whole, from lo on. -/
def Own (lo : Nat) (w : World) (v : Value) (t : TypeId) (sz : Nat) (xs : List Value) : Prop :=
  (v = .slice none 0 0 ∧ xs = []) ∨ ∃ g n c cs, v = .slice (some ⟨g, 0, none⟩) n c ∧ lo ≤ g ∧ Blk w g t cs ∧ cs.length = c * sz ∧ xs.length = n * sz ∧ n ≤ c ∧ c ≤ 9223372036854775807 ∧ cs.take (n * sz) = xs
section
variable {lo lo' : Nat} {w w' : World} {v : Value} {t : TypeId} {sz : Nat} {xs : List Value}
theorem Own.nil (lo : Nat) (w : World) (t : TypeId) (sz : Nat) : Own lo w (.slice none 0 0) t sz [] := .inl ⟨rfl, rfl⟩
theorem Own.kept (h : Own lo w v t sz xs) (hk : Kept w w') : Own lo w' v t sz xs := by
  rcases h with h | ⟨g, n, c, cs, h1, h2, h3, r⟩
  · exact .inl h
  · exact .inr ⟨g, n, c, cs, h1, h2, h3.kept hk, r⟩
theorem Own.mono (h : Own lo w v t sz xs) (hl : lo' ≤ lo) : Own lo' w v t sz xs := by
  rcases h with h | ⟨g, n, c, cs, h1, h2, r⟩
  · exact .inl h
  · exact .inr ⟨g, n, c, cs, h1, by omega, r⟩
theorem Own.but {g' : Nat} (h : Own lo w v t sz xs) (hk : But g' w w') (hne : g' < lo) : Own lo w' v t sz xs := by
  rcases h with h | ⟨g, n, c, cs, h1, h2, h3, r⟩
  · exact .inl h
  · exact .inr ⟨g, n, c, cs, h1, h2, h3.but hk (by omega), r⟩
theorem Own.in_ (h : Own lo w v t sz xs) (hs : 0 < sz) : ∃ A n c, v = .slice A n c ∧ n ≤ c ∧ c ≤ 9223372036854775807 ∧ xs.length = n * sz ∧ In (fun b => lo ≤ b ∧ some b = v.ownBlock) w A xs := by
  rcases h with ⟨rfl, rfl⟩ | ⟨g, n, c, cs, rfl, h2, h3, h4, h5, h6, h7, h8⟩
  · exact ⟨none, 0, 0, rfl, by omega, by omega, by simp, In.nil _ _ _⟩
  · refine ⟨_, n, c, rfl, h6, h7, h5, .inr ⟨_, rfl, ⟨h2, rfl⟩, rfl, fun i u hu => ?_⟩⟩
    rw [add_mk, h3.cell, Nat.zero_add]
    rw [← h8, List.getElem?_take] at hu
    split at hu
    · exact hu
    · cases hu
theorem Own.byt {bs : List UInt8} (h : Own lo w v t 1 (bs.map u8)) : Byt (fun b => lo ≤ b) w v bs := by
  obtain ⟨A, n, c, rfl, h1, h2, h3, h4⟩ := h.in_ (by omega)
  have : n = bs.length := by simpa using h3.symm
  subst this
  exact ⟨A, c, rfl, h1, h2, h4.mono fun b hb => hb.1⟩
theorem Own.ints {l : List Int} (h : Own lo w v t 1 (l.map (Value.int .i64))) : Ints (fun b => lo ≤ b) w v l := by
  obtain ⟨A, n, c, rfl, h1, h2, h3, h4⟩ := h.in_ (by omega)
  have : n = l.length := by simpa using h3.symm
  subst this
  exact ⟨A, c, rfl, h1, h2, h4.mono fun b hb => hb.1⟩
theorem Own.sts {α : Type} {f : α → List Value} {l : List α} (hf : ∀ x, (f x).length = sz) (hs : 0 < sz) (h : Own lo w v t sz (l.flatMap f)) : Sts f (fun b => lo ≤ b) w v l := by
  obtain ⟨A, n, c, rfl, h1, h2, h3, h4⟩ := h.in_ hs
  have hl : (l.flatMap f).length = l.length * sz := by
    rw [List.length_flatMap]
    have : l.map (fun x => (f x).length) = List.replicate l.length sz := by
      rw [List.eq_replicate_iff]; simp; exact fun a _ => hf a
    rw [this]; simp
  have : n = l.length := by rw [hl] at h3; exact (Nat.eq_of_mul_eq_mul_right hs h3).symm
  subst this
  exact ⟨A, c, rfl, h1, h2, h4.mono fun b hb => hb.1⟩
theorem Blk.byt {g : Nat} {t : TypeId} {bs : List UInt8} {c : Nat} (h : Blk w g t (bs.map u8)) (n : Nat) (hn : n = bs.length) (hc : bs.length ≤ c) (hm : c ≤ 9223372036854775807) : Byt (fun b => b = g) w (.slice (some ⟨g, 0, none⟩) n c) bs := by
  subst hn
  refine ⟨_, c, rfl, hc, hm, .inr ⟨_, rfl, rfl, rfl, fun i v hv => ?_⟩⟩
  rw [add_mk, h.cell, Nat.zero_add]
  exact hv
/-- The world but for v's own block. -/
abbrev ButV (v : Value) (w w' : World) : Prop := w.grownBy w' v.ownBlock
theorem ButV.kept0 {w0 : World} (h : Kept w0 w) (k : ButV v w w') (ho : Own lo w v t sz xs) (hlo : w0.heap.size ≤ lo) : Kept w0 w' :=
  Below.grown h k h.size fun i hi => by
    rcases ho with ⟨rfl, _⟩ | ⟨g, n, c, cs, rfl, h2, _⟩
    · cases hi
    · have : g = i := by simpa [Value.ownBlock] using hi
      omega
theorem In.butV {S : Nat → Prop} {A : Option Addr} {vs : List Value} (h : In S w A vs) (hk : ButV v w w') (hg : ∀ b, S b → b < w.heap.size → some b ≠ v.ownBlock) : In S w' A vs :=
  h.of_block fun b hb hS => hk.block b hb (hg b hS hb)
theorem Blk.butV {g : Nat} {cs : List Value} {t : TypeId} (h : Blk w g t cs) (hk : ButV v w w') (hg : some g ≠ v.ownBlock) : Blk w' g t cs := by
  have hl := h.lt
  obtain ⟨fr, h, hf⟩ := h
  exact ⟨fr, (hk.block g hl hg).trans h, hf⟩
theorem Kept.toButV (h : Kept w w') : ButV v w w' := ⟨h.os, h.tape, h.output, h.size, fun k hk _ => h.block k hk⟩
/-- What lies below lo, or at any place that a row owns not. -/
theorem Own.ne {b : Nat} (h : Own lo w v t sz xs) (hb : b < lo) : some b ≠ v.ownBlock := by
  rcases h with ⟨rfl, _⟩ | ⟨g, n, c, cs, rfl, h2, _⟩
  · simp [Value.ownBlock]
  · simp [Value.ownBlock]; omega
theorem Own.ne_type {g : Nat} {t' : TypeId} {cs : List Value} (h : Own lo w v t sz xs) (hb : Blk w g t' cs) (hne : t ≠ t') : some g ≠ v.ownBlock := by
  rcases h with ⟨rfl, _⟩ | ⟨g', n, c, cs', rfl, h2, h3, _⟩
  · simp [Value.ownBlock]
  · intro e
    have : g = g' := by simpa [Value.ownBlock] using e
    subst this
    obtain ⟨_, h3, _⟩ := h3
    obtain ⟨_, hb, _⟩ := hb
    rw [h3] at hb
    injection hb with hb
    injection hb with _ ht _
    exact hne ht
end

section
variable {P : Program} {w : World}
theorem run_loadIn {S : Nat → Prop} {ad : Addr} {ys : List Value} (hI : In S w (some ad) ys) : (loadCells ad ys.length).run P w = .ok ys.toArray w := by
  refine run_loadCells_list w ad ys fun j v hv => ?_
  obtain ⟨ad', e, _, _, h⟩ := hI.get hv
  cases e
  exact h
theorem run_firstIn {S : Nat → Prop} {A : Option Addr} {ys : List Value} {m c sz : Nat} (hl : ys.length = m * sz) (hI : In S w A ys) (hA : A = none → ys = []) : (Builtin.firstCells sz m (.slice A m c)).run P w = .ok ys.toArray w := by
  cases A with
  | none =>
    have := hA rfl
    subst this
    simp [Builtin.firstCells]
  | some ad =>
    simp only [Builtin.firstCells]
    rw [← hl]
    exact run_loadIn hI
theorem In.none_nil {S : Nat → Prop} {ys : List Value} (h : In S w none ys) : ys = [] := by
  rcases h with h | ⟨ad, h, _⟩
  · exact h
  · cases h

theorem run_append_any {S : Nat → Prop} {lo t e ty : Nat} {ti : TypeInfo} {z : Value} {sz : Nat} {v : Value} {xs : List Value} {A : Option Addr} {m c : Nat} {ys : List Value}
    (hu : P.underlying t = some (.slice e)) (hti : P.info? e = some ti) (hz : ti.zero = some z) (hsz : ti.size = sz) (hzs : z.cells.size = sz) (h0 : 0 < sz)
    (ho : Own lo w v e sz xs) (hlo : lo ≤ w.heap.size) (hI : In S w A ys) (hl : ys.length = m * sz) (h1 : ∀ u ∈ ys, u.oneCell' = true) (hb : (xs.length + ys.length) * ti.bytes ≤ 140737488355328) (hb0 : 0 < ti.bytes) :
    ∃ v' w', (Builtin.append_ #[t, t] ty #[v, .slice A m c]).run P w = .ok v' w' ∧ Own lo w' v' e sz (xs ++ ys) ∧ ButV v w w' ∧ (v'.ownBlock = v.ownBlock ∨ v'.ownBlock = some w.heap.size) := by
  subst hsz
  have hAn : A = none → ys = [] := fun h => by subst h; exact hI.none_nil
  have grown : ∀ (old need : Nat), old < need → need ≤ 9223372036854775807 → need * ti.size = (xs ++ ys).length →
      Own lo (w.drew.alloc (.cells (xs.toArray ++ ys.toArray ++ Builtin.zeroCells z.cells (grownCap w need old e - need)) e)) (.slice (some ⟨w.heap.size, 0, none⟩) need (grownCap w need old e)) e ti.size (xs ++ ys) ∧
      Kept w (w.drew.alloc (.cells (xs.toArray ++ ys.toArray ++ Builtin.zeroCells z.cells (grownCap w need old e - need)) e)) := by
    intro old need hlt hn hlen
    have hge : need ≤ grownCap w need old e := grownCap_ge w need old e
    have hle : grownCap w need old e ≤ 9223372036854775807 := by
      unfold grownCap Question.cut
      have : w.tape w.drawn (Question.appendCap need old e) % (2 ^ 63 - need) < 2 ^ 63 - need := Nat.mod_lt _ (by omega)
      simp only
      omega
    refine ⟨.inr ⟨w.heap.size, need, _, xs ++ ys ++ (Builtin.zeroCells z.cells (grownCap w need old e - need)).toList, rfl, hlo, ?_, ?_, ?_, hge, hle, ?_⟩, (Kept.refl w).drew.alloc _⟩
    · have := Blk.new w.drew e (xs ++ ys ++ (Builtin.zeroCells z.cells (grownCap w need old e - need)).toList)
      have e1 : (xs ++ ys ++ (Builtin.zeroCells z.cells (grownCap w need old e - need)).toList).toArray = xs.toArray ++ ys.toArray ++ Builtin.zeroCells z.cells (grownCap w need old e - need) := by
        apply Array.ext'; simp
      rw [e1] at this
      exact this
    · simp only [List.length_append, Array.length_toList, size_zeroCells, hzs]
      have : need * ti.size = xs.length + ys.length := by rw [hlen]; simp
      rw [← this, ← Nat.add_mul]; congr 1; omega
    · exact hlen.symm
    · rw [hlen]; exact List.take_left
  have hmb : (xs.length + ys.length) ≤ 140737488355328 := Nat.le_trans (Nat.le_mul_of_pos_right _ hb0) hb
  rcases ho with ⟨rfl, rfl⟩ | ⟨g, n, cap, cs, rfl, h2, h3, h4, h5, h6, h7, h8⟩
  · by_cases hm : m = 0
    · subst hm
      have hy : ys = [] := List.eq_nil_of_length_eq_zero (by simpa using hl)
      subst hy
      refine ⟨.slice none 0 0, w, ?_, .inl ⟨rfl, rfl⟩, ⟨rfl, rfl, rfl, Nat.le_refl _, fun _ _ _ => rfl⟩, .inl rfl⟩
      cases A <;> simp [Builtin.append_, run_underlying hu, sizeOf, typeInfo, hti, Builtin.lenOf, Builtin.firstCells, loadCells, loadCellsFrom]
    · cases A with
      | none => exact absurd (by have := hAn rfl; subst this; rcases Nat.mul_eq_zero.1 hl.symm with hl | hl <;> omega) hm
      | some ad =>
        have hm1 : m ≤ ys.length := by rw [hl]; exact Nat.le_mul_of_pos_right _ h0
        have hr := run_append_nil (P := P) w t ty e ti z hu hti hz ad m c ys hl (fun j u hu' => by obtain ⟨ad', e', _, _, h⟩ := hI.get hu'; cases e'; exact h) (by omega) (by simp at hmb; omega) (by
          have h9 : m * ti.bytes ≤ ys.length * ti.bytes := Nat.mul_le_mul_right _ hm1
          simp only [List.length_nil, Nat.zero_add] at hb
          omega)
        obtain ⟨g1, g2⟩ := grown 0 m (by omega) (by simp at hmb; omega) (by simp [hl])
        simp only [List.nil_append] at hr g1 g2 ⊢
        have e1 : (([] : List Value).toArray ++ ys.toArray) = ys.toArray := by simp
        rw [e1] at g1 g2
        exact ⟨_, _, hr, g1, g2.toButV, .inr rfl⟩
  · by_cases hroom : n + m ≤ cap
    · have hfit : n * ti.size + ys.length ≤ cs.length := by rw [hl, h4, ← Nat.add_mul]; exact Nat.mul_le_mul_right _ hroom
      obtain ⟨w', hr, hB', hbut⟩ := run_storeCells_blk (P := P) g e ys 0 (n * ti.size) cs w h3 (by omega) h1
      refine ⟨.slice (some ⟨g, 0, none⟩) (n + m) cap, w', ?_, .inr ⟨g, n + m, cap, _, rfl, h2, hB', ?_, ?_, hroom, h7, ?_⟩, hbut, .inl rfl⟩
      · have hf := run_firstIn (P := P) (c := c) hl hI hAn
        simp [Builtin.append_, run_underlying hu, sizeOf, typeInfo, hti, Builtin.lenOf, hroom, hf, add_mk, hr]
      · simp; omega
      · simp [h5, hl, Nat.add_mul]
      · simp only [Nat.add_zero]
        rw [h8]
        rw [List.take_append_of_le_length (by simp [h5, hl, Nat.add_mul])]
        rw [List.take_of_length_le (by simp [h5, hl, Nat.add_mul])]
    · cases A with
      | none =>
        exfalso
        have := hAn rfl
        subst this
        have : m = 0 := by
          rcases Nat.eq_zero_or_pos m with h | h
          · exact h
          · have := Nat.mul_pos h h0; simp at hl; omega
        omega
      | some ad =>
        have hnm : (n + m) * ti.size = xs.length + ys.length := by rw [Nat.add_mul, h5, hl]
        have hnm1 : n + m ≤ xs.length + ys.length := by rw [← hnm]; exact Nat.le_mul_of_pos_right _ h0
        have hcell : ∀ j u, xs[j]? = some u → w.cell? ((⟨g, 0, none⟩ : Addr).add j) = some u := fun j u hu' => by
          rw [add_mk, h3.cell, Nat.zero_add]
          rw [← h8, List.getElem?_take] at hu'
          split at hu'
          · exact hu'
          · cases hu'
        have hr := run_append_grow (P := P) w t ty e ti z hu hti hz ⟨g, 0, none⟩ n cap xs h5 hcell ad m c ys hl (fun j u hu' => by obtain ⟨ad', e', _, _, h⟩ := hI.get hu'; cases e'; exact h) (by omega) (by omega)
          (growslice_fits (by omega) (by
            have h9 : (n + m) * ti.bytes ≤ (xs.length + ys.length) * ti.bytes := Nat.mul_le_mul_right _ hnm1
            omega))
        obtain ⟨g1, g2⟩ := grown cap (n + m) (by omega) (by omega) (by rw [hnm]; simp)
        exact ⟨_, _, hr, g1, g2.toButV, .inr rfl⟩
end

section
variable {P : Program} {ro : Option Nat} {Y : List (Option Tmp)} {Q : Exit → Act → World → Prop} {rest : List Oper} {ds : List Deferred} {n : Nat} {l : Env} {a : Act} {w : World}
variable {T : TypeId} {p : String} {af : Array Edge} {x y : Operand} {u : TypeId} {d : Nat}

/-- append(v, ys...) -/
theorem apn (hH : Has ds n l a) {S : Nat → Prop} {lo t e : Nat} {ti : TypeInfo} {z : Value} {sz : Nat} {v : Value} {xs : List Value} {A : Option Addr} {m c : Nat} {ys : List Value}
    (hx : ev l x = some v) (hy : ev l y = some (.slice A m c))
    (hu : P.underlying t = some (.slice e)) (hti : P.info? e = some ti) (hz : ti.zero = some z) (hsz : ti.size = sz) (hzs : z.cells.size = sz) (h0 : 0 < sz)
    (ho : Own lo w v e sz xs) (hlo : lo ≤ w.heap.size) (hI : In S w A ys) (hl : ys.length = m * sz) (h1 : ∀ u ∈ ys, u.oneCell' = true) (hb : (xs.length + ys.length) * ti.bytes ≤ 140737488355328) (hb0 : 0 < ti.bytes) (hd : Nat.blt d n = true)
    (h : ∀ a' v' w', Has ds n ((d, v') :: l) a' → Own lo w' v' e sz (xs ++ ys) → ButV v w w' → (v'.ownBlock = v.ownBlock ∨ v'.ownBlock = some w.heap.size) → wpL P ro Y Q rest a' w') :
    wpL P ro Y Q (⟨some d, .call { callee := .builtin .append, args := #[x, y], argTypes := #[t, t] }, T, p, af, none⟩ :: rest) a w := by
  obtain ⟨v', w', hr, g1, g2, g3⟩ := run_append_any (P := P) (ty := T) (c := c) hu hti hz hsz hzs h0 ho hlo hI hl h1 hb hb0
  refine wpL_value (v := v') (w' := w') rfl ?_ (h _ v' w' (hH.put d _ hd) g1 g2 g3)
  simp only [execOp, resolve, invoke, builtin]
  simp [hH.eval hx, hH.eval hy, hr]

/-- []byte(s) -/
theorem stob (hH : Has ds n l a) {s t e : TypeId} {bs : List UInt8} (hx : ev l x = some (str bs)) (hs : P.underlying s = some .string) (ht : P.underlying t = some (.slice e)) (he : P.underlying e = some (.int .u8)) (hb : bs.length ≤ 9223372036854775807) (hd : Nat.blt d n = true)
    (h : ∀ a' v w', Has ds n ((d, v) :: l) a' → Kept w w' → Own w.heap.size w' v e 1 (bs.map u8) → wpL P ro Y Q rest a' w') : wpL P ro Y Q (⟨some d, .convert s t x, T, p, af, none⟩ :: rest) a w := by
  have e1 : (ByteArray.mk bs.toArray).size = bs.length := by simp [ByteArray.size]
  let cap := (Question.appendCap bs.length 0 e).cut (w.tape w.drawn (.appendCap bs.length 0 e))
  have hge : bs.length ≤ cap := by show bs.length ≤ _ + _; omega
  have hle : cap ≤ 9223372036854775807 := by
    show bs.length + w.tape w.drawn (.appendCap bs.length 0 e) % (2 ^ 63 - bs.length) ≤ _
    have : w.tape w.drawn (.appendCap bs.length 0 e) % (2 ^ 63 - bs.length) < 2 ^ 63 - bs.length := Nat.mod_lt _ (by omega)
    omega
  let cs : List Value := bs.map u8 ++ List.replicate (cap - bs.length) (u8 0)
  have hcs : cs.length = cap := by simp [cs]; omega
  let w1 := w.drew.alloc (.cells cs.toArray e)
  let w2 := w1.freeze ⟨w.heap.size, cap, none⟩ 1
  have hB : Blk w2 w.heap.size e cs := by
    refine ⟨(cap, cap + 1), ?_, .inr (by rw [hcs]; exact Nat.le_refl _)⟩
    have h1 : w1.heap[w.heap.size]? = some (.cells cs.toArray e (0, 0)) := heap_alloc_new w.drew _
    show (w1.freeze _ 1).heap[w.heap.size]? = _
    simp [World.freeze, Array.getElem?_modify, h1]
  have hK : Kept w w2 := by
    have hK1 : Kept w w1 := (Kept.refl w).drew.alloc _
    refine ⟨hK1.os, hK1.tape, hK1.output, by simpa [w2, World.freeze] using hK1.size, fun k hk => ?_⟩
    rw [← hK1.block k hk]
    show (w1.freeze _ 1).heap[k]? = _
    simp only [World.freeze]
    rw [if_neg (by omega)]
    simp only [Array.getElem?_modify]
    rw [if_neg (by omega)]
  refine wpL_value (v := .slice (some ⟨w.heap.size, 0, none⟩) bs.length cap) (w' := w2) rfl ?_ (h _ _ w2 (hH.put d _ hd) hK ?_)
  · have hsh : w1.shape? w.heap.size = some (e, cap) := by
      have h1 : w1.heap[w.heap.size]? = some (.cells cs.toArray e (0, 0)) := heap_alloc_new w.drew _
      simp [World.shape?, h1, hcs]
    have e3 : (List.map (fun b : UInt8 => Value.int IntKind.u8 (b.toNat : Int)) bs).toArray ++ Array.replicate ((Question.appendCap bs.length 0 e).cut (w.tape w.drawn (Question.appendCap bs.length 0 e)) - bs.length) (Value.int IntKind.u8 0) = cs.toArray := by
      apply Array.ext'; simp [cs]; rfl
    have hsh' : (w.drew.alloc (.cells cs.toArray e)).shape? w.heap.size = some (e, cap) := hsh
    simp only [execOp, hH.eval hx]
    simp only [convert, Sem.run_bind, run_underlying hs, run_underlying ht, run_underlying he, Result.andThen_ok]
    simp [Conv.stringToBytes, e1, Question.forced, newRow, markStringish]
    rw [e3, hsh']
    simp [freeze, Sem.run]
    exact ⟨rfl, rfl⟩
  · exact .inr ⟨w.heap.size, bs.length, cap, cs, rfl, Nat.le_refl _, hB, by omega, by simp, hge, hle, by simp [cs]⟩
end
end Go.Proofs.Ytpgeogdmjgmimaa.K
