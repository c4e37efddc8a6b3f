/-
  The walk's own small kit, eleventh part: results that lie in cells; calls of the model's own functions; a string's byte.
-/
import Derived.Test.YtpgeogdmjgmimaaK10
import Derived.Laws.Externs
set_option linter.unusedVariables false
set_option linter.unusedSimpArgs false
namespace Go.Proofs.Ytpgeogdmjgmimaa.K
open Go Go.RowKit

/-- A result's value. -/
def rv (P : Program) (w : World) (l : Env) : ResultVar → Value → Prop
  | .tmp t, v => look l t = some v
  | .cell c t, v => ∃ ad, look l c = some (.pointer (some ad)) ∧ (loadVar t ad).run P w = .ok v w
section
variable {P : Program} {ds : List Deferred} {n : Nat} {l : Env} {a : Act} {w : World} {fn : Func}
theorem rvc {g o : Nat} {t : TypeId} {t' : TypeId} {cs : List Value} {c : Tmp} {v : Value} (hB : Blk w g t cs) (hx : look l c = some (.pointer (some ⟨g, o, none⟩))) (hag : ∀ w, (isAgg t').run P w = .ok false w) (hc : cs[o]? = some v) : rv P w l (.cell c t') v :=
  ⟨_, hx, by simp [loadVar, hag, hB.cell, hc]⟩
theorem rva {g o : Nat} {t : TypeId} {t' : TypeId} {cs : List Value} {c : Tmp} (vs : List Value) (hB : Blk w g t cs) (hx : look l c = some (.pointer (some ⟨g, o, none⟩))) (hag : ∀ w, (isAgg t').run P w = .ok true w) (hsz : ∀ w, (sizeOf t').run P w = .ok vs.length w) (hc : (cs.drop o).take vs.length = vs) : rv P w l (.cell c t') (.agg vs.toArray) :=
  ⟨_, hx, by
    have := run_loadCells_list (P := P) w ⟨g, o, none⟩ vs (fun i v hv => by
      rw [add_mk, hB.cell, ← List.getElem?_drop]
      rw [← hc, List.getElem?_take] at hv
      split at hv
      · exact hv
      · cases hv)
    simp [loadVar, hag, hsz, this]⟩
theorem rvt {t : Tmp} {v : Value} (h : look l t = some v) : rv P w l (.tmp t) v := h
theorem run_rv (hH : Has ds n l a) {r : ResultVar} {v : Value} (h : rv P w l r v) : Sem.run P (match r with | .tmp t => (pure (a.tmps.getD t undef) : Sem Value) | .cell c t => do loadVar t (← asAddr (a.tmps.getD c undef))) w = .ok v w := by
  cases r with
  | tmp t => simp [getD_of hH h]
  | cell c t =>
    obtain ⟨ad, h1, h2⟩ := h
    simp [getD_of hH h1, asAddr, h2]
theorem res0 (hr : fn.results = #[]) : (results fn a.tmps).run P w = .ok (.tuple #[]) w := results_none hr _ _ _
theorem res1 (hH : Has ds n l a) {r : ResultVar} {v : Value} (hr : fn.results = #[r]) (h : rv P w l r v) : (results fn a.tmps).run P w = .ok v w := by
  have := run_rv hH h
  simp [results, hr]
  cases r <;> simp_all
theorem res2 (hH : Has ds n l a) {r1 r2 : ResultVar} {v1 v2 : Value} (hr : fn.results = #[r1, r2]) (h1 : rv P w l r1 v1) (h2 : rv P w l r2 v2) : (results fn a.tmps).run P w = .ok (.tuple #[v1, v2]) w := by
  have := run_rv hH h1
  have := run_rv hH h2
  simp [results, hr]
  cases r1 <;> cases r2 <;> simp_all
theorem res3 (hH : Has ds n l a) {r1 r2 r3 : ResultVar} {v1 v2 v3 : Value} (hr : fn.results = #[r1, r2, r3]) (h1 : rv P w l r1 v1) (h2 : rv P w l r2 v2) (h3 : rv P w l r3 v3) : (results fn a.tmps).run P w = .ok (.tuple #[v1, v2, v3]) w := by
  have := run_rv hH h1
  have := run_rv hH h2
  have := run_rv hH h3
  simp [results, hr]
  cases r1 <;> cases r2 <;> cases r3 <;> simp_all
theorem res4 (hH : Has ds n l a) {r1 r2 r3 r4 : ResultVar} {v1 v2 v3 v4 : Value} (hr : fn.results = #[r1, r2, r3, r4]) (h1 : rv P w l r1 v1) (h2 : rv P w l r2 v2) (h3 : rv P w l r3 v3) (h4 : rv P w l r4 v4) : (results fn a.tmps).run P w = .ok (.tuple #[v1, v2, v3, v4]) w := by
  have := run_rv hH h1
  have := run_rv hH h2
  have := run_rv hH h3
  have := run_rv hH h4
  simp [results, hr]
  cases r1 <;> cases r2 <;> cases r3 <;> cases r4 <;> simp_all
theorem res5 (hH : Has ds n l a) {r1 r2 r3 r4 r5 : ResultVar} {v1 v2 v3 v4 v5 : Value} (hr : fn.results = #[r1, r2, r3, r4, r5]) (h1 : rv P w l r1 v1) (h2 : rv P w l r2 v2) (h3 : rv P w l r3 v3) (h4 : rv P w l r4 v4) (h5 : rv P w l r5 v5) :
    (results fn a.tmps).run P w = .ok (.tuple #[v1, v2, v3, v4, v5]) w := by
  have := run_rv hH h1
  have := run_rv hH h2
  have := run_rv hH h3
  have := run_rv hH h4
  have := run_rv hH h5
  simp [results, hr]
  cases r1 <;> cases r2 <;> cases r3 <;> cases r4 <;> cases r5 <;> simp_all
theorem leave {R : Ending → World → Prop} (hH : Has [] n l a) {v : Value} (hr : (results fn a.tmps).run P w = .ok v w) (h : R (.returned v) w) : bodyPost P fn R .ret a w := ⟨hH.1, _, hr, h⟩
theorem leaveE {R : Ending → World → Prop} (hH : Has [] n l a) {v : Value} (hr : (results fn a.tmps).run P w = .ok v w) (h : R (.returned v) w) : bodyPost P fn R .normal a w := ⟨hH.1, _, hr, h⟩
end
section
variable {P : Program} {ro : Option Nat} {Y : List (Option Tmp)} {Q : Exit → Act → World → Prop} {rest : List Oper} {ds : List Deferred} {n : Nat} {l : Env} {a : Act} {w : World}
variable {T : TypeId} {p : String} {af : Array Edge} {x y : Operand} {u : TypeId} {d : Nat}
/-- A call of a function that the model answers itself. -/
theorem calx (hH : Has ds n l a) {k : FuncId} {xs : List Operand} {vs : List Value} {ts : Array TypeId} {v : Value} (hxs : evs l xs = some vs) (hr : (callFunc k vs.toArray).run P w = .ok (.value v) w) (hd : Nat.blt d n = true)
    (h : ∀ a', Has ds n ((d, v) :: l) a' → wpL P ro Y Q rest a' w) : wpL P ro Y Q (⟨some d, .call { callee := .value (.func k), args := xs.toArray, argTypes := ts }, T, p, af, none⟩ :: rest) a w := by
  refine wpL_value (v := v) (w' := w) rfl ?_ (h _ (hH.put d v hd))
  simp only [execOp, resolve]
  simp [Act.eval, Deferred.ofValue, invoke, hr, evs_eval hH hxs]
/-- A string's byte. -/
theorem sdx (hH : Has ds n l a) {s : List UInt8} {i : Int} {k : Nat} {b : UInt8} (hu : P.underlying u = some .string) (hx : ev l x = some (str s)) (hy : ev l y = some (.int .i64 i)) (hk : i = (k : Int)) (hb : s[k]? = some b) (hd : Nat.blt d n = true)
    (h : ∀ a', Has ds n ((d, u8 b) :: l) a' → wpL P ro Y Q rest a' w) : wpL P ro Y Q (⟨some d, .index u x y, T, p, af, none⟩ :: rest) a w :=
  val hH (by
    subst hk
    obtain ⟨hlt, hb⟩ := List.getElem?_eq_some_iff.1 hb
    have e1 : (ByteArray.mk s.toArray).size = s.length := by simp [ByteArray.size]
    simp only [execOp, hH.eval hx, hH.eval hy]
    simp [Instr.index, asIntOf, run_underlying hu, e1, hlt]
    exact congrArg (fun z : UInt8 => (z.toNat : Int)) hb) hd h
end
end Go.Proofs.Ytpgeogdmjgmimaa.K
