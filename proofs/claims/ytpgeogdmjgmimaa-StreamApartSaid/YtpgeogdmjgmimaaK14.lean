/-
  The walk's own small kit, fourteenth part: append to a full row; a part of a known row; the first place of a byte among bytes.
-/
import Derived.Test.YtpgeogdmjgmimaaK13
import Derived.Lib.BytesEntry
set_option linter.unusedVariables false
set_option linter.unusedSimpArgs false
namespace Go.Proofs.Ytpgeogdmjgmimaa.K
open Go Go.RowKit

theorem Own.of_blk {lo g t sz c : Nat} {w : World} {cs : List Value} (hB : Blk w g t cs) (hg : lo ≤ g) (hc : cs.length = c * sz) (hm : c ≤ 9223372036854775807) : Own lo w (.slice (some ⟨g, 0, none⟩) c c) t sz cs :=
  .inr ⟨g, c, c, cs, rfl, hg, hB, hc, hc, Nat.le_refl _, hm, by rw [← hc, List.take_length]⟩
section
variable {P : Program} {ro : Option Nat} {Y : List (Option Tmp)} {Q : Exit → Act → World → Prop} {rest : List Oper} {ds : List Deferred} {n : Nat} {l : Env} {a : Act} {w : World}
variable {T : TypeId} {p : String} {af : Array Edge} {x y : Operand} {u : TypeId} {d : Nat} {S : Nat → Prop} {v : Value}
theorem run_append_full {S : Nat → Prop} {t e ty g : Nat} {ti : TypeInfo} {z : Value} {sz c : Nat} {xs : List Value} {A : Option Addr} {m c2 : Nat} {ys : List Value} {lo : Nat}
    (hu : P.underlying t = some (.slice e)) (hti : P.info? e = some ti) (hz : ti.zero = some z) (hsz : ti.size = sz) (hzs : z.cells.size = sz) (h0 : 0 < sz)
    (hB : Blk w g e xs) (hc : xs.length = c * sz) (hlo : lo ≤ w.heap.size) (hI : In S w A ys) (hl : ys.length = m * sz) (hm0 : 0 < m) (hb : (xs.length + ys.length) * ti.bytes ≤ 140737488355328) (hb0 : 0 < ti.bytes) :
    ∃ v' w', (Builtin.append_ #[t, t] ty #[.slice (some ⟨g, 0, none⟩) c c, .slice A m c2]).run P w = .ok v' w' ∧ Own lo w' v' e sz (xs ++ ys) ∧ Kept w w' := by
  subst hsz
  have hmb : (xs.length + ys.length) ≤ 140737488355328 := Nat.le_trans (Nat.le_mul_of_pos_right _ hb0) hb
  cases A with
  | none =>
    have := hI.none_nil
    subst this
    have := Nat.mul_pos hm0 h0
    simp at hl; omega
  | some ad =>
    have hnm : (c + m) * ti.size = xs.length + ys.length := by rw [Nat.add_mul, hc, hl]
    have hnm1 : c + m ≤ xs.length + ys.length := by rw [← hnm]; exact Nat.le_mul_of_pos_right _ h0
    have hr := run_append_grow (P := P) (w := w) t ty e ti z hu hti hz ⟨g, 0, none⟩ c c xs hc (fun j u hu' => by rw [add_mk, hB.cell, Nat.zero_add]; exact hu') ad m c2 ys hl
      (fun j u hu' => by obtain ⟨ad', e', _, _, h⟩ := hI.get hu'; cases e'; exact h) (by omega) (by omega)
      (growslice_fits (by omega) (by
        have h9 : (c + m) * ti.bytes ≤ (xs.length + ys.length) * ti.bytes := Nat.mul_le_mul_right _ hnm1
        omega))
    have hge : c + m ≤ grownCap w (c + m) c e := grownCap_ge w _ _ e
    have hle : grownCap w (c + m) c e ≤ 9223372036854775807 := by
      unfold grownCap Question.cut
      have : w.tape w.drawn (Question.appendCap (c + m) c e) % (2 ^ 63 - (c + m)) < 2 ^ 63 - (c + m) := Nat.mod_lt _ (by omega)
      simp only
      omega
    refine ⟨_, _, hr, .inr ⟨w.heap.size, c + m, _, xs ++ ys ++ (Builtin.zeroCells z.cells (grownCap w (c + m) c e - (c + m))).toList, rfl, hlo, ?_, ?_, ?_, hge, hle, ?_⟩, (Kept.refl w).drew.alloc _⟩
    · have := Blk.new w.drew e (xs ++ ys ++ (Builtin.zeroCells z.cells (grownCap w (c + m) c e - (c + m))).toList)
      have e1 : (xs ++ ys ++ (Builtin.zeroCells z.cells (grownCap w (c + m) c e - (c + m))).toList).toArray = xs.toArray ++ ys.toArray ++ Builtin.zeroCells z.cells (grownCap w (c + m) c e - (c + m)) := by
        apply Array.ext'; simp
      rw [e1] at this
      exact this
    · simp only [List.length_append, Array.length_toList, size_zeroCells, hzs]
      rw [← hnm, ← Nat.add_mul]; congr 1; omega
    · rw [List.length_append]; exact hnm.symm
    · rw [hnm, ← List.length_append]; exact List.take_left
/-- append to a row that is full: a new one. -/
theorem apf (hH : Has ds n l a) {S : Nat → Prop} {lo t e g : Nat} {ti : TypeInfo} {z : Value} {sz c : Nat} {xs : List Value} {A : Option Addr} {m c2 : Nat} {ys : List Value}
    (hx : ev l x = some (.slice (some ⟨g, 0, none⟩) c c)) (hy : ev l y = some (.slice A m c2))
    (hu : P.underlying t = some (.slice e)) (hti : P.info? e = some ti) (hz : ti.zero = some z) (hsz : ti.size = sz) (hzs : z.cells.size = sz) (h0 : 0 < sz)
    (hB : Blk w g e xs) (hc : xs.length = c * sz) (hlo : lo ≤ w.heap.size) (hI : In S w A ys) (hl : ys.length = m * sz) (hm0 : 0 < m) (hb : (xs.length + ys.length) * ti.bytes ≤ 140737488355328) (hb0 : 0 < ti.bytes) (hd : Nat.blt d n = true)
    (h : ∀ a' v' w', Has ds n ((d, v') :: l) a' → Own lo w' v' e sz (xs ++ ys) → Kept w w' → wpL P ro Y Q rest a' w') :
    wpL P ro Y Q (⟨some d, .call { callee := .builtin .append, args := #[x, y], argTypes := #[t, t] }, T, p, af, none⟩ :: rest) a w := by
  obtain ⟨v', w', hr, g1, g2⟩ := run_append_full (P := P) (ty := T) (c2 := c2) hu hti hz hsz hzs h0 hB hc hlo hI hl hm0 hb hb0
  refine wpL_value (v := v') (w' := w') rfl ?_ (h _ v' w' (hH.put d _ hd) g1 g2)
  simp only [execOp, resolve, invoke, builtin]
  simp [hH.eval hx, hH.eval hy, hr]
/-- b[i:] of a known row. -/
theorem slr {g o m c : Nat} {e : TypeId} {lo : Option Operand} (i : Nat) (hH : Has ds n l a) (hu : P.underlying u = some (.slice e)) (hx : ev l x = some (.slice (some ⟨g, o, none⟩) m c)) (hsz : ∀ w, (sizeOf e).run P w = .ok 1 w)
    (hlo : Bnd l lo 0 i) (hi : i ≤ m) (hmc : m ≤ c) (hic : i < c) (hd : Nat.blt d n = true)
    (h : ∀ a', Has ds n ((d, .slice (some ⟨g, o + i, none⟩) (m - i) (c - i)) :: l) a' → wpL P ro Y Q rest a' w) : wpL P ro Y Q (⟨some d, .slice u x lo none none, T, p, af, none⟩ :: rest) a w :=
  slv i m hH hu hx hsz hlo rfl hi hmc hd (fun a' hH' => h a' (by
    rw [if_neg (by omega)] at hH'
    simpa [add_mk] using hH'))
theorem run_indexByteB {bs : List UInt8} {c : UInt8} (h : Byt S w v bs) : (Extern.BytealgIndexByte.indexByte #[v, u8 c]).run P w = .ok (.int .i64 (Lib.indexByte bs c)) w := by
  obtain ⟨A, cp, rfl, h1, h2, h3⟩ := h
  rcases h3 with h3 | ⟨ad, rfl, hS, hsp, hc⟩
  · have e : bs = [] := by simpa using h3
    subst e
    cases A with
    | none => rw [Lib.run_indexByteNil]; rfl
    | some ad =>
      obtain ⟨b, off, sp⟩ := ad
      have := Lib.run_indexByteNil (P := P) (w := w) 0 cp (c.toNat : Int)
      exact this
  · obtain ⟨b, off, sp⟩ := ad
    simp only at hsp; subst hsp
    have := Lib.run_indexByteSlice (P := P) (w := w) b off bs.length cp (bs.map fun b => (b.toNat : Int)) (by simp) (fun i hi => by
      have hv : (bs.map u8)[i]? = some (u8 bs[i]) := by simp [hi]
      have := hc i _ hv
      rw [add_mk] at this
      rw [this]
      simp [hi]) (c.toNat : Int)
    rw [this]
    have e : Lib.bytesOf (bs.map fun b => (b.toNat : Int)) = bs := by
      simp only [Lib.bytesOf, List.map_map]
      conv => rhs; rw [← List.map_id bs]
      apply List.map_congr_left
      intro b _
      simp
    rw [e]; simp
end
end Go.Proofs.Ytpgeogdmjgmimaa.K
