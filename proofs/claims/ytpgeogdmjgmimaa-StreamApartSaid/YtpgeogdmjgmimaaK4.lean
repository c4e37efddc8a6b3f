/-
  The walk's own small kit, fourth part: addresses, slices, calls, conversions, make, append, copy.
-/
import Derived.Test.YtpgeogdmjgmimaaK3
import Derived.Laws.Append
import Derived.Laws.Entries
import Derived.Maps.AppendAt
set_option linter.unusedVariables false
set_option linter.unusedSimpArgs false
namespace Go.Proofs.Ytpgeogdmjgmimaa.K
open Go Go.RowKit

section
variable {P : Program} {ro : Option Nat} {Y : List (Option Tmp)} {Q : Exit → Act → World → Prop} {rest : List Oper} {ds : List Deferred} {n : Nat} {l : Env} {a : Act} {w : World}
variable {T : TypeId} {p : String} {af : Array Edge} {x y : Operand} {u : TypeId} {d : Nat}

/-! addresses -/
theorem fad (hH : Has ds n l a) {ad : Addr} {i k : Nat} {fs : Array Field} {f : Field} (hx : ev l x = some (.pointer (some ad))) (hu : P.underlying u = some (.struct fs)) (hf : fs[i]? = some f)
    (hsz : ∀ w, (sizeOf f.type).run P w = .ok k w) (hk : Nat.beq k 0 = false) (hd : Nat.blt d n = true)
    (h : ∀ a', Has ds n ((d, .pointer (some (ad.add f.offset))) :: l) a' → wpL P ro Y Q rest a' w) : wpL P ro Y Q (⟨some d, .fieldAddr u x i, T, p, af, none⟩ :: rest) a w :=
  val hH (by
    have hk' : ¬ k = 0 := by intro e; subst e; cases hk
    simp only [execOp, hH.eval hx]
    simp [Instr.fieldAt, Instr.sureAddr, run_underlying hu, hf, fieldPlace, hsz, hk']) hd h
theorem fab (hH : Has ds n l a) {g o i k : Nat} {fs : Array Field} {f : Field} (hx : ev l x = some (.pointer (some ⟨g, o, none⟩))) (hu : P.underlying u = some (.struct fs)) (hf : fs[i]? = some f)
    (hsz : ∀ w, (sizeOf f.type).run P w = .ok k w) (hk : Nat.beq k 0 = false) (o' : Nat) (ho : o + f.offset = o') (hd : Nat.blt d n = true)
    (h : ∀ a', Has ds n ((d, .pointer (some ⟨g, o', none⟩)) :: l) a' → wpL P ro Y Q rest a' w) : wpL P ro Y Q (⟨some d, .fieldAddr u x i, T, p, af, none⟩ :: rest) a w :=
  fad hH hx hu hf hsz hk hd (fun a' hH' => h a' (by rw [add_mk, ho] at hH'; exact hH'))
theorem ixa (hH : Has ds n l a) {ad : Addr} {m c sz : Nat} {i : Int} {e : TypeId} (hx : ev l x = some (.slice (some ad) m c)) (hy : ev l y = some (.int .i64 i)) (hu : P.underlying u = some (.slice e))
    (hsz : ∀ w, (sizeOf e).run P w = .ok sz w) (hb : 0 ≤ i ∧ i < (m : Int)) (hd : Nat.blt d n = true)
    (h : ∀ a', Has ds n ((d, .pointer (some (ad.add (i.toNat * sz)))) :: l) a' → wpL P ro Y Q rest a' w) : wpL P ro Y Q (⟨some d, .indexAddr u x y, T, p, af, none⟩ :: rest) a w :=
  val hH (by
    simp only [execOp, hH.eval hx, hH.eval hy]
    simp [Instr.indexAt, asIntOf, run_underlying hu, hb, hsz]) hd h
/-- The element's value, at once: its address is asked for no more. -/
theorem ixl (hH : Has ds n l a) {A : Option Addr} {m c k d' : Nat} {i : Int} {e : TypeId} {T' : TypeId} {p' : String} {af' : Array Edge} {S : Nat → Prop} {vs : List Value} {v : Value} (hx : ev l x = some (.slice A m c)) (hy : ev l y = some (.int .i64 i)) (hu : P.underlying u = some (.slice e))
    (hsz : ∀ w, (sizeOf e).run P w = .ok 1 w) (hag : ∀ w, (isAgg e).run P w = .ok false w) (hI : In S w A vs) (hk : i = (k : Int)) (hm : vs.length = m) (hv : vs[k]? = some v) (hd : Nat.blt d n = true) (hd' : Nat.blt d' n = true)
    (h : ∀ a' z, Has ds n ((d', v) :: (d, z) :: l) a' → wpL P ro Y Q rest a' w) : wpL P ro Y Q (⟨some d, .indexAddr u x y, T, p, af, none⟩ :: ⟨some d', .load e (.tmp d), T', p', af', none⟩ :: rest) a w := by
  obtain ⟨ad, rfl, hS, hsp, hc⟩ := hI.get hv
  have hlt : k < vs.length := (List.getElem?_eq_some_iff.1 hv).1
  refine ixa hH hx hy hu hsz ⟨by omega, by omega⟩ hd fun a' hH' => ?_
  refine ld1 (v := v) hH' (by simp [ev, look_cons]; rfl) hag (by rw [hk]; simpa using hc) hd' fun a'' hH'' => ?_
  exact h a'' _ hH''
/-- Of a known block that is a slice's row. -/
theorem ixb (hH : Has ds n l a) {g o m c sz : Nat} {i : Int} {e : TypeId} (hx : ev l x = some (.slice (some ⟨g, o, none⟩) m c)) (hy : ev l y = some (.int .i64 i)) (hu : P.underlying u = some (.slice e))
    (hsz : ∀ w, (sizeOf e).run P w = .ok sz w) (k : Nat) (hk : i = (k : Int)) (hb : k < m) (o' : Nat) (ho : o + k * sz = o') (hd : Nat.blt d n = true)
    (h : ∀ a', Has ds n ((d, .pointer (some ⟨g, o', none⟩)) :: l) a' → wpL P ro Y Q rest a' w) : wpL P ro Y Q (⟨some d, .indexAddr u x y, T, p, af, none⟩ :: rest) a w :=
  ixa hH hx hy hu hsz ⟨by omega, by omega⟩ hd (fun a' hH' => h a' (by rw [add_mk, hk] at hH'; simp only [Int.toNat_natCast] at hH'; rw [ho] at hH'; exact hH'))

/-! a slice of a slice -/
theorem slv {A : Option Addr} {m c sz : Nat} {e : TypeId} {lo hi : Option Operand} (i j : Nat) (hH : Has ds n l a) (hu : P.underlying u = some (.slice e)) (hx : ev l x = some (.slice A m c)) (hsz : ∀ w, (sizeOf e).run P w = .ok sz w)
    (hlo : Bnd l lo 0 i) (hhi : Bnd l hi m j) (hij : i ≤ j) (hj : j ≤ c) (hd : Nat.blt d n = true)
    (h : ∀ a', Has ds n ((d, .slice (if c = i then A else A.map (·.add (i * sz))) (j - i) (c - i)) :: l) a' → wpL P ro Y Q rest a' w) : wpL P ro Y Q (⟨some d, .slice u x lo hi none, T, p, af, none⟩ :: rest) a w :=
  val hH (by
    have hb := run_bounds (P := P) (w := w) true m c (hlo.opt hH) (hhi.opt hH) hij hj
    simp only [execOp, hH.eval hx, Option.map_none]
    simp [Instr.sliceAt, Instr.slice, run_underlying hu, hb, hsz]) hd h
theorem Byt.slice {S : Nat → Prop} {A : Option Addr} {bs : List UInt8} {c : Nat} (h : Byt S w (.slice A bs.length c) bs) (i j : Nat) (hij : i ≤ j) (hj : j ≤ bs.length) :
    Byt S w (.slice (if c = i then A else A.map (·.add (i * 1))) (j - i) (c - i)) ((bs.take j).drop i) := by
  obtain ⟨A', c', he, h1, h2, h3⟩ := h
  cases he
  have hl : ((bs.take j).drop i).length = j - i := by simp; omega
  refine ⟨if c = i then A else A.map (·.add (i * 1)), c - i, by rw [hl], by rw [hl]; omega, by omega, ?_⟩
  have := h3.slice i j c 1 (by omega)
  simpa [List.map_take, List.map_drop] using this

/-! calls -/
/-- It returns, and what it returns is so. -/
def Ret (Φ : Value → World → Prop) : Ending → World → Prop := fun e w' => ∃ v, e = .returned v ∧ Φ v w'
/-- A call that returns. -/
def C (P : Program) (k : FuncId) (args : List Value) (w : World) (Φ : Value → World → Prop) : Prop := Calls P k args.toArray w (Ret Φ)
theorem C.mono {k : FuncId} {args : List Value} {Φ Ψ : Value → World → Prop} (h : C P k args w Φ) (hi : ∀ v w', Φ v w' → Ψ v w') : C P k args w Ψ :=
  Calls.mono h fun e w' ⟨v, he, hv⟩ => ⟨v, he, hi v w' hv⟩

def evs (l : Env) : List Operand → Option (List Value)
  | [] => some []
  | x :: xs => match ev l x, evs l xs with
    | some v, some vs => some (v :: vs)
    | _, _ => none
theorem evs_eval (hH : Has ds n l a) : ∀ {xs : List Operand} {vs : List Value}, evs l xs = some vs → xs.map a.eval = vs := by
  intro xs
  induction xs with
  | nil => intro vs h; simp [evs] at h; simp [h]
  | cons x xs ih =>
    intro vs h
    simp only [evs] at h
    split at h
    · rename_i v vs' h1 h2
      cases h
      simp [hH.eval h1, ih h2]
    · cases h

theorem mkf (hH : Has ds n l a) {fn : Fn} {fs cs : List Operand} {fv cv : List Value} (hf : evs l fs = some fv) (hc : evs l cs = some cv) (hd : Nat.blt d n = true)
    (h : ∀ a', Has ds n ((d, .func fn fv.toArray cv.toArray) :: l) a' → wpL P ro Y Q rest a' w) : wpL P ro Y Q (⟨some d, .makeFunc fn fs.toArray cs.toArray, T, p, af, none⟩ :: rest) a w :=
  val hH (by
    have e1 := evs_eval hH hf
    have e2 := evs_eval hH hc
    simp [execOp, e1, e2, Instr.makeFunc]) hd h
theorem cal (hH : Has ds n l a) {k : FuncId} {xs : List Operand} {vs : List Value} {ts : Array TypeId} {Φ : Value → World → Prop} (hk : ∀ (args : Array Value) (w : World), (callFunc k args).run P w = .ok (.enter k args) w)
    (hxs : evs l xs = some vs) (hC : C P k vs w Φ) (hd : Nat.blt d n = true)
    (h : ∀ v w' a', Φ v w' → Has ds n ((d, v) :: l) a' → wpL P ro Y Q rest a' w') : wpL P ro Y Q (⟨some d, .call { callee := .value (.func k), args := xs.toArray, argTypes := ts }, T, p, af, none⟩ :: rest) a w := by
  refine wpL_enter (f := k) (args := vs.toArray) (w' := w) rfl ?_ hC ?_
  · simp only [execOp, resolve]
    simp [Act.eval, Deferred.ofValue, invoke, hk, evs_eval hH hxs]
  · rintro e w' ⟨v, rfl, hv⟩
    exact ⟨v, rfl, h v w' _ hv (hH.put d v hd)⟩
/-- A call of a function value: a plain function, or a closure with what it has captured. -/
theorem clv (hH : Has ds n l a) {k : FuncId} {f : Operand} {fv cv : Array Value} {xs : List Operand} {vs : List Value} {ts : Array TypeId} {Φ : Value → World → Prop} (hf : ev l f = some (.func (.func k) fv cv)) (hk : ∀ (args : Array Value) (w : World), (callFunc k args).run P w = .ok (.enter k args) w)
    (hxs : evs l xs = some vs) (ws : List Value) (hws : fv ++ vs.toArray ++ cv = ws.toArray) (hC : C P k ws w Φ) (hd : Nat.blt d n = true)
    (h : ∀ v w' a', Φ v w' → Has ds n ((d, v) :: l) a' → wpL P ro Y Q rest a' w') : wpL P ro Y Q (⟨some d, .call { callee := .value f, args := xs.toArray, argTypes := ts }, T, p, af, none⟩ :: rest) a w := by
  refine wpL_enter (f := k) (args := ws.toArray) (w' := w) rfl ?_ hC ?_
  · simp only [execOp, resolve, hH.eval hf]
    have e := evs_eval hH hxs
    simp [Deferred.ofValue, invoke, hk, e, hws]
  · rintro e w' ⟨v, rfl, hv⟩
    exact ⟨v, rfl, h v w' _ hv (hH.put d v hd)⟩
theorem cal0 (hH : Has ds n l a) {k : FuncId} {xs : List Operand} {vs : List Value} {ts : Array TypeId} {Φ : Value → World → Prop} (hk : ∀ (args : Array Value) (w : World), (callFunc k args).run P w = .ok (.enter k args) w)
    (hxs : evs l xs = some vs) (hC : C P k vs w Φ) 
    (h : ∀ v w', Φ v w' → wpL P ro Y Q rest a w') : wpL P ro Y Q (⟨none, .call { callee := .value (.func k), args := xs.toArray, argTypes := ts }, T, p, af, none⟩ :: rest) a w := by
  refine wpL_enter (f := k) (args := vs.toArray) (w' := w) rfl ?_ hC ?_
  · simp only [execOp, resolve]
    simp [Act.eval, Deferred.ofValue, invoke, hk, evs_eval hH hxs]
  · rintro e w' ⟨v, rfl, hv⟩
    exact ⟨v, rfl, h v w' hv⟩

/-! conversions -/
theorem loadCells_bytes {ad : Addr} {bs : List UInt8} (hc : ∀ i v, (bs.map u8)[i]? = some v → w.cell? (ad.add i) = some v) : (loadCells ad bs.length).run P w = .ok (bs.map u8).toArray w := by
  have := run_loadCells_list (P := P) w ad (bs.map u8) hc
  simpa using this
theorem run_pushAll (f : Value → ByteArray → Sem (ForInStep ByteArray)) (hf : ∀ (b : UInt8) (r : ByteArray), f (u8 b) r = pure (ForInStep.yield (r.push b))) (bs : List UInt8) (s : ByteArray) (w : World) :
    (forIn (bs.map u8).toArray s f).run P w = .ok ⟨s.data ++ bs.toArray⟩ w := by
  rw [List.forIn_toArray]
  induction bs generalizing s with
  | nil => simp
  | cons b bs ih =>
    simp only [List.map_cons, List.forIn_cons, hf]
    simp only [Sem.run_bind, Sem.run_pure, Result.andThen_ok]
    rw [ih (s.push b)]
    congr 2
    simp [ByteArray.push]
theorem run_string_of_bytes {S : Nat → Prop} {s t e : TypeId} {v : Value} {bs : List UInt8} (hs : P.underlying s = some (.slice e)) (he : P.underlying e = some (.int .u8)) (ht : P.underlying t = some .string) (hB : Byt S w v bs) :
    (convert s t v).run P w = .ok (str bs) w := by
  obtain ⟨A, c, rfl, h1, h2, h3⟩ := hB
  rcases h3 with h3 | ⟨ad, rfl, hS, hsp, hc⟩
  · have : bs = [] := by simpa using h3
    subst this
    cases A with
    | none => simp [convert, run_underlying hs, run_underlying ht, run_underlying he, Conv.bytesToString]; rfl
    | some ad => simp [convert, run_underlying hs, run_underlying ht, run_underlying he, Conv.bytesToString, loadCells, loadCellsFrom]; rfl
  · have hl := loadCells_bytes (P := P) hc
    simp only [convert, Sem.run_bind, run_underlying hs, run_underlying ht, run_underlying he, Result.andThen_ok]
    simp only [Conv.bytesToString, Sem.run_bind, hl, Result.andThen_ok]
    rw [run_pushAll (P := P) _ (fun b r => by simp) bs ByteArray.empty w]
    simp
theorem btos (hH : Has ds n l a) {S : Nat → Prop} {s t e : TypeId} {v : Value} {bs : List UInt8} (hx : ev l x = some v) (hs : P.underlying s = some (.slice e)) (he : P.underlying e = some (.int .u8)) (ht : P.underlying t = some .string) (hB : Byt S w v bs) (hd : Nat.blt d n = true)
    (h : ∀ a', Has ds n ((d, str bs) :: l) a' → wpL P ro Y Q rest a' w) : wpL P ro Y Q (⟨some d, .convert s t x, T, p, af, none⟩ :: rest) a w :=
  val hH (by
    simp only [execOp, hH.eval hx]
    simp [run_string_of_bytes hs he ht hB]) hd h
end
end Go.Proofs.Ytpgeogdmjgmimaa.K
