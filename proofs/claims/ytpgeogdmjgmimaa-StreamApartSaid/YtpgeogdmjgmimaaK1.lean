/-
  The walk's own small kit: what a frame's slots hold (Has), and one lemma for each kind of operation and of code.
-/
import Derived.WalkKit
import Derived.Below
import Derived.KernelRfl
import Derived.Deep.Draws
import Derived.OrdersIn
import Derived.TacticsIn
import Derived.RangeFuncLeaves
import Derived.RangeFuncNested
set_option linter.unusedVariables false
set_option linter.unusedSimpArgs false
namespace Go.Proofs.Ytpgeogdmjgmimaa.K
open Go Go.RowKit

abbrev Env := List (Nat × Value)

def look : Env → Nat → Option Value
  | [], _ => none
  | (i, v) :: l, j => bif Nat.beq i j then some v else look l j

def ev (l : Env) : Operand → Option Value
  | .tmp t => look l t
  | .const v => some v
  | .global g => some (.pointer (some ⟨g, 0, none⟩))
  | .func f => some (.func (.func f) #[] #[])

/-- What a frame holds: its deferred calls, how many slots, and what is known of them. -/
def Has (ds : List Deferred) (n : Nat) (l : Env) (a : Act) : Prop :=
  a.defers = ds ∧ a.tmps.size = n ∧ ∀ i v, look l i = some v → a.tmps[i]? = some v

theorem look_cons (i : Nat) (v : Value) (l : Env) (j : Nat) : look ((i, v) :: l) j = if i = j then some v else look l j := by
  simp only [look]
  by_cases h : i = j
  · subst h; simp
  · rw [if_neg h]
    have : Nat.beq i j = false := by
      cases hb : Nat.beq i j with
      | true => exact absurd (Nat.eq_of_beq_eq_true hb) h
      | false => rfl
    rw [this]; rfl

section
variable {ds : List Deferred} {n : Nat} {l : Env} {a : Act}

theorem Has.eval (h : Has ds n l a) {x : Operand} {v : Value} (hx : ev l x = some v) : a.eval x = v := by
  cases x with
  | tmp t =>
    have := h.2.2 t v hx
    simp only [Act.eval]
    rw [Array.getD_eq_getD_getElem?, this]; rfl
  | const u => simpa [ev, Act.eval] using hx
  | global g => simpa [ev, Act.eval] using hx
  | func f => simpa [ev, Act.eval] using hx

theorem Has.put (h : Has ds n l a) (d : Nat) (v : Value) (hd : Nat.blt d n = true) : Has ds n ((d, v) :: l) (a.put (some d) v) := by
  have hd' : d < n := by simpa [Nat.blt_eq] using hd
  refine ⟨h.1, by simp [Act.put, h.2.1], fun i u hu => ?_⟩
  rw [look_cons] at hu
  simp only [Act.put, Array.getElem?_setIfInBounds]
  by_cases e : d = i
  · subst e
    rw [if_pos rfl] at hu
    rw [if_pos rfl, if_pos (by rw [h.2.1]; exact hd')]
    exact hu
  · rw [if_neg e] at hu
    rw [if_neg e]
    exact h.2.2 i u hu

/-- The same with a shorter list. -/
theorem Has.sub (h : Has ds n l a) {l' : Env} (hs : ∀ i v, look l' i = some v → look l i = some v) : Has ds n l' a :=
  ⟨h.1, h.2.1, fun i v hi => h.2.2 i v (hs i v hi)⟩

theorem Has.nil' (h : Has ds n l a) : Has ds n [] a := ⟨h.1, h.2.1, fun i v hi => by cases hi⟩
theorem Has.cons' (h : Has ds n l a) {i : Nat} {v : Value} (hi : look l i = some v) {l' : Env} (h' : Has ds n l' a) : Has ds n ((i, v) :: l') a := by
  refine ⟨h.1, h.2.1, fun j u hu => ?_⟩
  rw [look_cons] at hu
  by_cases e : i = j
  · rw [if_pos e] at hu; subst e; cases hu; exact h.2.2 _ _ hi
  · rw [if_neg e] at hu; exact h'.2.2 _ _ hu

theorem Has.start (args : Array Value) (k : Nat) (l : Env) (hl : ∀ i v, look l i = some v → args[i]? = some v) :
    Has [] (args.size + k) l { tmps := args ++ Array.replicate k undef, defers := [] } := by
  refine ⟨rfl, by simp, fun i v hi => ?_⟩
  have := hl i v hi
  obtain ⟨hlt, e⟩ := Array.getElem?_eq_some_iff.1 this
  show (args ++ Array.replicate k undef)[i]? = _
  rw [Array.getElem?_append_left hlt]
  exact this
end

/-! ### Lists of operations -/
/-- The wide fence, in a round or in none. -/
abbrev FW (ro : Option Nat) : Fence := { fn := fun _ => True, depth := none, alive := false, round := ro }
theorem FW_none : FW none = Fence.wide := rfl
theorem callsW {P : Program} {ro : Option Nat} {n : Nat} {f : FuncId} {args : Array Value} {w : World} {R : Ending → World → Prop} (h : Calls P f args w R) : CallsIn (FW ro) n P f args w R :=
  (callsIn_wide (n := n)).2 h
theorem semAt_of {P : Program} {ro : Option Nat} {ρ : Operand → Value} {o : Oper} {w : World} {r : Result Next} (hr : (execOp ρ o).run P w = r) (hd : ∀ d w', r ≠ .ok (.defer d) w') : (o.semAt ro ρ).run P w = r := by
  unfold Oper.semAt
  split
  · rename_i l c hc
    have e : execOp ρ o = (do pure (.defer (← resolve ρ c o.type))) := by simp only [execOp, hc]
    rw [e] at hr
    simp only [Sem.run_bind] at hr ⊢
    cases h : (resolve ρ c o.type).run P w with
    | ok d w1 =>
      rw [h] at hr
      simp at hr
      exact absurd hr.symm (hd _ _)
    | halt x w1 =>
      rw [h] at hr
      simpa using hr
  · exact hr
/-- As wpListIn, but only where each operation of the region writes is kept. -/
def wpL (P : Program) (ro : Option Nat) (Y : List (Option Tmp)) (Q : Exit → Act → World → Prop) (l : List Oper) (a : Act) (w : World) : Prop :=
  ∀ ops : Array Oper, ops.toList.map (·.dst) = Y → wpListIn (FW ro) 0 P ops Q l a w

def yd (Y : List (Option Tmp)) (j : Nat) : Option Tmp :=
  match Y, j with
  | [], _ => none
  | y :: _, 0 => y
  | _ :: Y, j + 1 => yd Y j

theorem yd_eq (Y : List (Option Tmp)) (j : Nat) : yd Y j = Y[j]?.join := by
  induction Y generalizing j with
  | nil => rfl
  | cons y Y ih => cases j with
    | zero => rfl
    | succ j => simpa [yd] using ih j

section
variable {P : Program} {ro : Option Nat} {Y : List (Option Tmp)} {Q : Exit → Act → World → Prop} {rest : List Oper} {ds : List Deferred} {n : Nat} {l : Env} {a : Act} {w : World}
variable {T : TypeId} {p : String} {af : Array Edge}

theorem reg {id : Nat} {l : List Oper} (Y : List (Option Tmp)) (hY : l.map (·.dst) = Y) (h : wpL P ro Y Q l a w) : (Code.region id l.toArray false).wpIn (FW ro) 0 P Q a w :=
  wpIn_region_lit (h _ (by simpa using hY))

theorem wpL_nil (h : Q .normal a w) : wpL P ro Y Q [] a w := fun _ _ => h

theorem wpL_value {o : Oper} {v : Value} {w' : World} (hg : o.guard = none) (hr : (execOp a.eval o).run P w = .ok (.value v) w')
    (h : wpL P ro Y Q rest (a.put o.dst v) w') : wpL P ro Y Q (o :: rest) a w := fun ops ho =>
  wpListIn_plain hg fun K hK => by
    refine ⟨fun _ _ => trivial, ?_⟩
    rw [semAt_of hr (by simp)]
    exact hK _ _ (h ops ho)

theorem wpL_skip {o : Oper} {w' : World} (hg : o.guard = none) (hr : (execOp a.eval o).run P w = .ok .skip w')
    (h : wpL P ro Y Q rest (a.put o.dst undef) w') : wpL P ro Y Q (o :: rest) a w := fun ops ho =>
  wpListIn_plain hg fun K hK => by
    refine ⟨fun _ _ => trivial, ?_⟩
    rw [semAt_of hr (by simp)]
    exact hK _ _ (h ops ho)

theorem wpL_enter {o : Oper} {f : FuncId} {args : Array Value} {R : Ending → World → Prop} {w' : World} (hg : o.guard = none) (hr : (execOp a.eval o).run P w = .ok (.enter f args) w')
    (hc : Calls P f args w' R) (h : ∀ e w', R e w' → ∃ v, e = .returned v ∧ wpL P ro Y Q rest (a.put o.dst v) w') : wpL P ro Y Q (o :: rest) a w := fun ops ho =>
  wpListIn_plain hg fun K hK => by
    refine ⟨fun _ _ => trivial, ?_⟩
    rw [semAt_of hr (by simp)]
    refine ⟨by simp, callsW (hc.mono fun e w' he => ?_)⟩
    obtain ⟨v, rfl, hv⟩ := h e w' he
    exact hK _ _ (hv ops ho)

/-- A call that may end in a panic. -/
theorem wpL_enterP {o : Oper} {f : FuncId} {args : Array Value} {R : Ending → World → Prop} {w' : World} (hg : o.guard = none) (hr : (execOp a.eval o).run P w = .ok (.enter f args) w')
    (hc : Calls P f args w' R) (h : ∀ e w', R e w' → (∃ v, e = .returned v ∧ wpL P ro Y Q rest (a.put o.dst v) w') ∨ (∃ ch, e = .panicked ch ∧ Q (.panic ch) a w')) : wpL P ro Y Q (o :: rest) a w := fun ops ho =>
  wpListIn_plain hg fun K hK => by
    refine ⟨fun _ _ => trivial, ?_⟩
    rw [semAt_of hr (by simp)]
    refine ⟨by simp, callsW (hc.mono fun e w' he => ?_)⟩
    rcases h e w' he with ⟨v, rfl, hv⟩ | ⟨ch, rfl, hq⟩
    · exact hK _ _ (hv ops ho)
    · exact hq

/-- A call that ends in a panic. -/
theorem wpL_panic {o : Oper} {v : Value} {w' : World} (hg : o.guard = none) (hr : (execOp a.eval o).run P w = .halt (.panic v) w')
    (h : Q (.panic [{ v, recovered := false }]) a w') : wpL P ro Y Q (o :: rest) a w := fun ops ho =>
  wpListIn_plain hg fun K hK => by
    refine ⟨fun _ _ => trivial, ?_⟩
    rw [semAt_of hr (by simp)]
    exact h

/-! guards -/
theorem yielded_of (hH : Has ds n l a) {ops : Array Oper} (ho : ops.toList.map (·.dst) = Y) {j d : Nat} (hy : yd Y j = some d) {v : Value} (hl : look l d = some v) :
    yielded ops a.tmps j = (match v with | .bool b => some b | _ => none) := by
  rw [yd_eq, ← ho] at hy
  have : (ops[j]?).bind (·.dst) = some d := by
    rw [← Array.getElem?_toList]
    simp only [List.getElem?_map] at hy
    cases h : ops.toList[j]? with
    | none => rw [h] at hy; simp at hy
    | some o => rw [h] at hy; simpa using hy
  have hs := hH.2.2 d v hl
  cases ho2 : ops[j]? with
  | none => rw [ho2] at this; cases this
  | some o =>
    rw [ho2] at this
    simp only [Option.bind_some] at this
    unfold yielded
    simp only [ho2, Option.bind_some, this, hs]
    cases v <;> rfl

theorem gon (hH : Has ds n l a) {dst : Option Tmp} {op : Op} {j d : Nat} {b t : Bool} (hy : yd Y j = some d) (hl : look l d = some (.bool t)) (ht : t = b)
    (h : wpL P ro Y Q (⟨dst, op, T, p, af, none⟩ :: rest) a w) : wpL P ro Y Q (⟨dst, op, T, p, af, some (j, b)⟩ :: rest) a w := by
  intro ops ho
  have h' := h ops ho
  have hyi := yielded_of hH ho hy hl
  unfold wpListIn at h' ⊢
  have hw : Region.wanted ⟨dst, op, T, p, af, some (j, b)⟩ (yielded ops a.tmps) = true := by
    simp [Region.wanted, hyi, ht]
  rw [if_pos hw]
  rw [if_pos (by simp [Region.wanted])] at h'
  exact h'

theorem goff_wanted (hH : Has ds n l a) {ops : Array Oper} (ho : ops.toList.map (·.dst) = Y) {dst : Option Tmp} {op : Op} {j d : Nat} {b : Bool} (hy : yd Y j = some d) {v : Value} (hl : look l d = some v) (ht : v = .bool (!b) ∨ v = undef) :
    Region.wanted ⟨dst, op, T, p, af, some (j, b)⟩ (yielded ops a.tmps) = false := by
  have hyi := yielded_of hH ho hy hl
  rcases ht with rfl | rfl
  · simp [Region.wanted, hyi]
  · simp [Region.wanted, hyi, undef]

theorem goff (hH : Has ds n l a) {op : Op} {j d k : Nat} {b t : Bool} (hy : yd Y j = some d) (hl : look l d = some (.bool t)) (ht : t = !b) (hk : Nat.blt k n = true)
    (h : ∀ a', Has ds n ((k, undef) :: l) a' → wpL P ro Y Q rest a' w) : wpL P ro Y Q (⟨some k, op, T, p, af, some (j, b)⟩ :: rest) a w := by
  intro ops ho
  unfold wpListIn
  rw [if_neg (by rw [goff_wanted hH ho hy hl (.inl (by rw [ht]))]; decide)]
  exact ⟨fun _ _ => trivial, h _ (hH.put k undef hk) ops ho⟩

theorem goffu (hH : Has ds n l a) {op : Op} {j d k : Nat} {b : Bool} (hy : yd Y j = some d) (hl : look l d = some undef) (hk : Nat.blt k n = true)
    (h : ∀ a', Has ds n ((k, undef) :: l) a' → wpL P ro Y Q rest a' w) : wpL P ro Y Q (⟨some k, op, T, p, af, some (j, b)⟩ :: rest) a w := by
  intro ops ho
  unfold wpListIn
  rw [if_neg (by rw [goff_wanted hH ho hy hl (.inr rfl)]; decide)]
  exact ⟨fun _ _ => trivial, h _ (hH.put k undef hk) ops ho⟩

/-! code -/
theorem sq {x y : Code} (h : ∀ K : Act → World → Prop, (∀ a w, y.wpIn (FW ro) 0 P Q a w → K a w) → x.wpIn (FW ro) 0 P (Exit.then K Q) a w) : (Code.seq x y).wpIn (FW ro) 0 P Q a w := wpIn_seq_k h
theorem cdt (hH : Has ds n l a) {c : Operand} {x y : Code} {t : Bool} (hx : ev l c = some (.bool t)) (ht : t = true) (h : x.wpIn (FW ro) 0 P Q a w) : (Code.cond c x y).wpIn (FW ro) 0 P Q a w :=
  wpIn_cond_true ((hH.eval hx).trans (by rw [ht])) h
theorem cdf (hH : Has ds n l a) {c : Operand} {x y : Code} {t : Bool} (hx : ev l c = some (.bool t)) (ht : t = false) (h : y.wpIn (FW ro) 0 P Q a w) : (Code.cond c x y).wpIn (FW ro) 0 P Q a w :=
  wpIn_cond_false ((hH.eval hx).trans (by rw [ht])) h

theorem skp (h : Q .normal a w) : Code.skip.wpIn (FW ro) 0 P Q a w := wpIn_skip h
theorem xit {id : Nat} (h : Q (.exit id) a w) : (Code.exit id).wpIn (FW ro) 0 P Q a w := wpIn_exit h
theorem rtn (h : Q .ret a w) : Code.ret.wpIn (FW ro) 0 P Q a w := wpIn_ret h
theorem blc {id : Nat} {c : Code} (h : c.wpIn (FW ro) 0 P (Exit.inBlock id Q) a w) : (Code.block id c).wpIn (FW ro) 0 P Q a w := wpIn_block h

/-! a function's beginning and end -/
theorem enter {f : FuncId} {fn : Func} {c : Code} {args : Array Value} {R : Ending → World → Prop} {w : World} (hf : P.funcs[f]? = some fn) (hb : fn.body = some c) (k : Nat) (hk : fn.ntmps = args.size + k) (l : Env)
    (hl : ∀ i v, look l i = some v → args[i]? = some v)
    (h : ∀ a, Has [] (args.size + k) l a → c.wpIn (FW none) 0 P (bodyPost P fn R) a w) : Calls P f args w R := by
  refine calls_of_wp hf hb ((wpIn_wide (n := 0)).1 (h _ ?_))
  rw [hk, Nat.add_sub_cancel_left]
  exact Has.start args k l hl

theorem ret0 {fn : Func} {R : Ending → World → Prop} (hH : Has [] n l a) (hr : fn.results = #[]) (h : R (.returned (.tuple #[])) w) : bodyPost P fn R .ret a w :=
  ⟨hH.1, _, results_none hr _ _ _, h⟩
theorem end0 {fn : Func} {R : Ending → World → Prop} (hH : Has [] n l a) (hr : fn.results = #[]) (h : R (.returned (.tuple #[])) w) : bodyPost P fn R .normal a w :=
  ⟨hH.1, _, results_none hr _ _ _, h⟩
theorem getD_of (hH : Has ds n l a) {t : Nat} {v : Value} (h : look l t = some v) : a.tmps.getD t undef = v := hH.eval (x := .tmp t) h
theorem ret1 {fn : Func} {R : Ending → World → Prop} (hH : Has [] n l a) {t : Nat} {v : Value} (hr : fn.results = #[.tmp t]) (hx : look l t = some v) (h : R (.returned v) w) : bodyPost P fn R .ret a w :=
  ⟨hH.1, _, results_tmp hr _ _ _, by rw [getD_of hH hx]; exact h⟩
theorem ret2 {fn : Func} {R : Ending → World → Prop} (hH : Has [] n l a) {t u : Nat} {v v' : Value} (hr : fn.results = #[.tmp t, .tmp u]) (hx : look l t = some v) (hx' : look l u = some v') (h : R (.returned (.tuple #[v, v'])) w) : bodyPost P fn R .ret a w :=
  ⟨hH.1, _, results_tmp2 hr _ _ _, by rw [getD_of hH hx, getD_of hH hx']; exact h⟩
theorem ret3 {fn : Func} {R : Ending → World → Prop} (hH : Has [] n l a) {t u s : Nat} {v v' v'' : Value} (hr : fn.results = #[.tmp t, .tmp u, .tmp s]) (hx : look l t = some v) (hx' : look l u = some v') (hx'' : look l s = some v'')
    (h : R (.returned (.tuple #[v, v', v''])) w) : bodyPost P fn R .ret a w :=
  ⟨hH.1, .tuple #[v, v', v''], by rw [← getD_of hH hx, ← getD_of hH hx', ← getD_of hH hx'']; simp [results, hr], h⟩
end
end Go.Proofs.Ytpgeogdmjgmimaa.K