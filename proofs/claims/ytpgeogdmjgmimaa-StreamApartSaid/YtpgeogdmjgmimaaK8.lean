/-
  The walk's own small kit, eighth part: small words for regions that draw their order, and for calls.
-/
import Derived.Test.YtpgeogdmjgmimaaK7
set_option linter.unusedVariables false
set_option linter.unusedSimpArgs false
namespace Go.Proofs.Ytpgeogdmjgmimaa.K
open Go Go.RowKit

abbrev Fx (t : Value) : Value → World → Prop := fun v _ => v = t
def Mono (R : World → World → Prop) (F : List (Value → World → Prop)) : Prop := ∀ (j : Nat) (f : Value → World → Prop) (v : Value) (w w' : World), F[j]? = some f → R w w' → f v w → f v w'
theorem mnil {R : World → World → Prop} : Mono R [] := fun j f v w w' h => by simp at h
theorem mcons {R : World → World → Prop} {f : Value → World → Prop} {F : List (Value → World → Prop)} (h : ∀ v w w', R w w' → f v w → f v w') (hF : Mono R F) : Mono R (f :: F) := fun j g v w w' hj => by
  cases j with
  | zero => have : f = g := by simpa using hj
            subst this; exact h v w w'
  | succ j => exact hF j g v w w' (by simpa using hj)
theorem mfx {R : World → World → Prop} {t : Value} : ∀ v w w', R w w' → Fx t v w → Fx t v w' := fun _ _ _ _ h => h
section
variable {l : Env}
theorem evs0 : evs l [] = some [] := rfl
theorem evs1 {x : Operand} {v : Value} (h : ev l x = some v) : evs l [x] = some [v] := by simp [evs, h]
theorem evs2 {x y : Operand} {v u : Value} (h : ev l x = some v) (k : ev l y = some u) : evs l [x, y] = some [v, u] := by simp [evs, h, k]
theorem evs3 {x y z : Operand} {v u s : Value} (h : ev l x = some v) (k : ev l y = some u) (m : ev l z = some s) : evs l [x, y, z] = some [v, u, s] := by simp [evs, h, k, m]
theorem evs4 {x y z q : Operand} {v u s r : Value} (h : ev l x = some v) (k : ev l y = some u) (m : ev l z = some s) (o : ev l q = some r) : evs l [x, y, z, q] = some [v, u, s, r] := by simp [evs, h, k, m, o]
end
theorem drewKept (w : World) : Kept w { w with drawn := w.drawn + 1 } := (Kept.refl w).drew
theorem keptT (a b c : World) (h : Kept a b) (k : Kept b c) : Kept a c := Kept.trans h k
/-- What a contract says of an answer and a world stays while nothing turns. -/
theorem In.getU {S : Nat → Prop} {w : World} {A : Option Addr} {vs : List Value} (h : In S w A vs) {i : Nat} (hi : i < vs.length) : ∃ ad, A = some ad ∧ S ad.block ∧ ad.spot = none ∧ ∀ i v, vs[i]? = some v → w.cell? (ad.add i) = some v := by
  rcases h with rfl | h
  · simp at hi
  · exact h
section
variable {P : Program} {ro : Option Nat} {Y : List (Option Tmp)} {Q : Exit → Act → World → Prop} {rest : List Oper} {ds : List Deferred} {n : Nat} {l : Env} {a : Act} {w : World}
variable {T : TypeId} {p : String} {af : Array Edge} {u : TypeId} {d : Nat}
def evp (l : Env) : List (Nat × Operand) → Option (List (Nat × Value))
  | [] => some []
  | (i, x) :: xs => match ev l x, evp l xs with
    | some v, some vs => some ((i, v) :: vs)
    | _, _ => none
theorem evp_eval (hH : Has ds n l a) : ∀ {xs : List (Nat × Operand)} {vs : List (Nat × Value)}, evp l xs = some vs → xs.map (fun q => (q.1, a.eval q.2)) = vs := by
  intro xs
  induction xs with
  | nil => intro vs h; simp [evp] at h; simp [h]
  | cons x xs ih =>
    obtain ⟨i, x⟩ := x
    intro vs h
    simp only [evp] at h
    split at h
    · rename_i v vs' h1 h2
      cases h
      simp [hH.eval h1, ih h2]
    · cases h
theorem evp0 : evp l [] = some [] := rfl
theorem evpc {i : Nat} {x : Operand} {v : Value} {xs : List (Nat × Operand)} {vs : List (Nat × Value)} (h : ev l x = some v) (k : evp l xs = some vs) : evp l ((i, x) :: xs) = some ((i, v) :: vs) := by simp [evp, h, k]
theorem bld (hH : Has ds n l a) {ps : List (Nat × Operand)} {qs : List (Nat × Value)} {vs : Array Value} (hq : evp l ps = some qs) (hr : ∀ w, (Instr.build u qs.toArray).run P w = .ok (.agg vs) w) (hd : Nat.blt d n = true)
    (h : ∀ a', Has ds n ((d, .agg vs) :: l) a' → wpL P ro Y Q rest a' w) : wpL P ro Y Q (⟨some d, .build u ps.toArray, T, p, af, none⟩ :: rest) a w :=
  val hH (by
    have e := evp_eval hH hq
    have e2 : (ps.toArray.map fun (q : Nat × Operand) => (q.1, a.eval q.2)) = qs.toArray := by rw [← e]; simp
    have e3 : (ps.toArray.map fun (x : Nat × Operand) => match x with | (i, x) => (i, a.eval x)) = qs.toArray := e2
    simp only [execOp]
    rw [e3]
    simp [hr]) hd h
theorem bsl (hH : Has ds n l a) {m : Nat} {e : TypeId} {ps : List (Nat × Operand)} {qs : List (Nat × Value)} {cs : List Value} (hq : evp l ps = some qs) (hr : ∀ w, (Instr.buildSlice u m qs.toArray).run P w = .ok (.slice (some ⟨w.heap.size, 0, none⟩) m m) (w.alloc (.cells cs.toArray e))) (hd : Nat.blt d n = true)
    (h : ∀ a' w' g, Has ds n ((d, .slice (some ⟨g, 0, none⟩) m m) :: l) a' → Kept w w' → w.heap.size ≤ g → Blk w' g e cs → wpL P ro Y Q rest a' w') : wpL P ro Y Q (⟨some d, .buildSlice u m ps.toArray, T, p, af, none⟩ :: rest) a w :=
  wpL_value (v := .slice (some ⟨w.heap.size, 0, none⟩) m m) (w' := w.alloc (.cells cs.toArray e)) rfl (by
    have e := evp_eval hH hq
    have e2 : (ps.toArray.map fun (q : Nat × Operand) => (q.1, a.eval q.2)) = qs.toArray := by rw [← e]; simp
    have e3 : (ps.toArray.map fun (x : Nat × Operand) => match x with | (i, x) => (i, a.eval x)) = qs.toArray := e2
    simp only [execOp]
    rw [e3]
    simp [hr]) (h _ _ w.heap.size (hH.put d _ hd) ((Kept.refl w).alloc _) (Nat.le_refl _) (Blk.new _ _ _))
end
/-- A known block's cells, from one on, as a row that is read. -/
theorem Blk.in_ {w : World} {g : Nat} {t : TypeId} {cs : List Value} (h : Blk w g t cs) (o m : Nat) (vs : List Value) (hv : (cs.drop o).take m = vs) : In (fun b => b = g) w (some ⟨g, o, none⟩) vs := by
  refine .inr ⟨_, rfl, rfl, rfl, fun i v hi => ?_⟩
  rw [add_mk, h.cell]
  rw [← hv, List.getElem?_take] at hi
  split at hi
  · rw [List.getElem?_drop] at hi; exact hi
  · cases hi
theorem In.cellAt {S : Nat → Prop} {w : World} {ad : Addr} {vs : List Value} (h : In S w (some ad) vs) {i : Nat} {v : Value} (hv : vs[i]? = some v) : w.cell? (ad.add i) = some v := by
  obtain ⟨ad', e, _, _, hc⟩ := h.get hv
  cases e; exact hc
theorem In.some_ {S : Nat → Prop} {w : World} {A : Option Addr} {vs : List Value} (h : In S w A vs) (hl : 0 < vs.length) : ∃ ad, A = some ad := by
  rcases h with rfl | ⟨ad, h, _⟩
  · simp at hl
  · exact ⟨ad, h⟩
theorem cellK {S : Nat → Prop} {w : World} {ad : Addr} {vs : List Value} (h : In S w (some ad) vs) {k : Nat} {v : Value} (hv : vs[k]? = some v) : w.cell? (ad.add ((k : Int).toNat * 1)) = some v := by
  have := h.cellAt hv
  simpa using this
end Go.Proofs.Ytpgeogdmjgmimaa.K
