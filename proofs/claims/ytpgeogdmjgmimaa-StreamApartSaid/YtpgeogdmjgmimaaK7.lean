/-
  The walk's own small kit, seventh part: make, copy, literals of slices; regions that draw their order.
-/
import Derived.Test.YtpgeogdmjgmimaaK6
import Derived.Deep.OwnRows
import Derived.Orders
set_option linter.unusedVariables false
set_option linter.unusedSimpArgs false
namespace Go.Proofs.Ytpgeogdmjgmimaa.K
open Go Go.RowKit

section
variable {P : Program} {ro : Option Nat} {Y : List (Option Tmp)} {Q : Exit → Act → World → Prop} {rest : List Oper} {ds : List Deferred} {n : Nat} {l : Env} {a : Act} {w : World}
variable {T : TypeId} {p : String} {af : Array Edge} {x y : Operand} {u : TypeId} {d : Nat}

/-- make([]E, m), E of one cell. -/
theorem mks (hH : Has ds n l a) {t e m b : Nat} {i : Int} {z : Value} (hx : ev l x = some (.int .i64 i)) (hy : ev l y = some (.int .i64 i)) (hi : i = (m : Int)) (hu : P.underlying t = some (.slice e)) (hinfo : (P.info? e).map (fun i => (i.zero, i.size, i.bytes)) = some (some z, 1, b)) (hz : z.cells = #[z])
    (hb : m * b ≤ 281474976710656) (hm : m ≤ 9223372036854775807) (hd : Nat.blt d n = true)
    (h : ∀ a' w' g, Has ds n ((d, .slice (some ⟨g, 0, none⟩) m m) :: l) a' → Kept w w' → w.heap.size ≤ g → Blk w' g e (List.replicate m z) → wpL P ro Y Q rest a' w') : wpL P ro Y Q (⟨some d, .makeSlice t x y, T, p, af, none⟩ :: rest) a w := by
  subst hi
  have hr := run_make_row' (P := P) t e z b hu hinfo hz .i64 .i64 m (by rw [Nat.mul_comm]; exact hb) (by omega) w
  refine wpL_value (v := .slice (some ⟨w.heap.size, 0, none⟩) m m) (w' := w.alloc (.cells (madeCells #[z] m) e)) rfl ?_ (h _ _ w.heap.size (hH.put d _ hd) ((Kept.refl w).alloc _) (Nat.le_refl _) ?_)
  · simp only [execOp]
    simp [hH.eval hx, hH.eval hy, hr]
  · have := Blk.new w e (List.replicate m z)
    have e1 : (List.replicate m z).toArray = madeCells #[z] m := by
      apply Array.ext
      · simp [madeCells]
      · intro i h1 h2
        simp [madeCells]
        rw [Nat.mod_one]; rfl
    rw [e1] at this
    exact this

/-- copy(b[o:], x): into a known block, out of bytes that are read. -/
theorem cpb (hH : Has ds n l a) {S : Nat → Prop} {t e t' g o m c m' c' : Nat} {cs : List Value} {A : Option Addr} {ys : List Value} (hu : P.underlying t = some (.slice e)) (hsz : ∀ w, (sizeOf e).run P w = .ok 1 w)
    (hx : ev l x = some (.slice (some ⟨g, o, none⟩) m c)) (hy : ev l y = some (.slice A m' c')) (hB : Blk w g u cs) (hI : In S w A ys) (hl : ys.length = m') (hm : o + m ≤ cs.length) (h1 : ∀ v ∈ ys, v.oneCell' = true) (hd : Nat.blt d n = true)
    (h : ∀ a' w', Has ds n ((d, .int .i64 ((min m' m : Nat) : Int)) :: l) a' → Blk w' g u (cs.take o ++ ys.take m ++ cs.drop (o + min m' m)) → But g w w' → wpL P ro Y Q rest a' w') :
    wpL P ro Y Q (⟨some d, .call { callee := .builtin .copy, args := #[x, y], argTypes := #[t, t'] }, T, p, af, none⟩ :: rest) a w := by
  have hyl : (ys.take m).length = min m' m := by simp [hl]; omega
  obtain ⟨w', hr, hB', hb⟩ := run_storeCells_blk (P := P) g u (ys.take m) 0 o cs w hB (by rw [hyl]; omega) (fun v hv => h1 v (List.mem_of_mem_take hv))
  rw [hyl, Nat.add_zero] at hB'
  refine wpL_value (v := .int .i64 ((min m' m : Nat) : Int)) (w' := w') rfl ?_ (h _ w' (hH.put d _ hd) hB' hb)
  have hI' : In S w A (ys.take m) := by
    rcases hI with h | ⟨ad, hA, hS, hsp, hc⟩
    · left; rw [h]; simp
    · refine .inr ⟨ad, hA, hS, hsp, fun i v hv => hc i v ?_⟩
      rw [List.getElem?_take] at hv
      split at hv
      · exact hv
      · cases hv
  have hf : (Builtin.firstCells 1 (Nat.min m' m) (.slice A m' c')).run P w = .ok (ys.take m).toArray w := by
    have hmm : Nat.min m' m = min m' m := rfl
    rw [hmm]
    cases A with
    | none =>
      have := hI'.none_nil
      rw [this]
      simp [Builtin.firstCells]
    | some ad =>
      simp only [Builtin.firstCells, Nat.mul_one]
      rw [← hyl]
      exact run_loadIn hI'
  simp only [execOp, resolve, invoke, builtin]
  simp [hH.eval hx, hH.eval hy, Builtin.copy_, run_underlying hu, Builtin.lenOf, hsz, hf, hr, goInt]
/-- copy(b[o:], s): out of a string. -/
theorem cps (hH : Has ds n l a) {t e t' g o m c : Nat} {cs : List Value} {bs : List UInt8} (hu : P.underlying t = some (.slice e)) (hsz : ∀ w, (sizeOf e).run P w = .ok 1 w)
    (hx : ev l x = some (.slice (some ⟨g, o, none⟩) m c)) (hy : ev l y = some (str bs)) (hB : Blk w g u cs) (hm : o + m ≤ cs.length) (hd : Nat.blt d n = true)
    (h : ∀ a' w', Has ds n ((d, .int .i64 ((min bs.length m : Nat) : Int)) :: l) a' → Blk w' g u (cs.take o ++ (bs.take m).map u8 ++ cs.drop (o + min bs.length m)) → But g w w' → wpL P ro Y Q rest a' w') :
    wpL P ro Y Q (⟨some d, .call { callee := .builtin .copy, args := #[x, y], argTypes := #[t, t'] }, T, p, af, none⟩ :: rest) a w := by
  have e1 : (ByteArray.mk bs.toArray).size = bs.length := by simp [ByteArray.size]
  have hyl : ((bs.take m).map u8).length = min bs.length m := by simp; omega
  obtain ⟨w', hr, hB', hb⟩ := run_storeCells_blk (P := P) g u ((bs.take m).map u8) 0 o cs w hB (by rw [hyl]; omega) (fun v hv => by obtain ⟨b, _, rfl⟩ := List.mem_map.1 hv; rfl)
  rw [hyl, Nat.add_zero] at hB'
  refine wpL_value (v := .int .i64 ((min bs.length m : Nat) : Int)) (w' := w') rfl ?_ (h _ w' (hH.put d _ hd) hB' hb)
  have e2 : (Array.map (fun b : UInt8 => Value.int IntKind.u8 (b.toNat : Int)) ((ByteArray.mk bs.toArray).extract 0 (min bs.length m)).data) = ((bs.take m).map u8).toArray := by
    apply Array.ext'
    rw [ByteArray.data_extract]
    simp [List.take_take, Nat.min_comm]
  have hmm : Nat.min bs.length m = min bs.length m := rfl
  simp only [execOp, resolve, invoke, builtin]
  simp only [List.map_toArray, List.map_cons, List.map_nil, hH.eval hx, hH.eval hy]
  have e3 : List.take (min bs.length m) (List.map (fun b : UInt8 => Value.int IntKind.u8 (b.toNat : Int)) bs) = (bs.take m).map u8 := by
    rw [← List.map_take]
    congr 1
    rw [Nat.min_comm, ← List.take_eq_take_min]
  simp [Builtin.copy_, run_underlying hu, Builtin.lenOf, hsz, Builtin.firstCells, e1, hmm, goInt, e3]
  simp only [List.map_take] at hr
  simp [hr]
end

/-! ### A region that draws its order -/
def keep (l : Env) (D : List (Option Nat)) : Env := l.filter fun q => !D.any fun x => match x with | some d => Nat.beq d q.1 | none => false
theorem look_keep (l : Env) (D : List (Option Nat)) (i : Nat) (v : Value) (h : look (keep l D) i = some v) : look l i = some v ∧ ∀ d, some d ∈ D → d ≠ i := by
  induction l with
  | nil => cases h
  | cons q l ih =>
    obtain ⟨j, u⟩ := q
    unfold keep at h
    rw [List.filter_cons] at h
    split at h
    · rename_i hj
      rw [look_cons] at h ⊢
      by_cases e : j = i
      · subst e
        rw [if_pos rfl] at h ⊢
        refine ⟨h, fun d hd e => ?_⟩
        subst e
        have := hj
        simp only [Bool.not_eq_true', List.any_eq_false] at this
        have h2 := this _ hd
        simp at h2
      · rw [if_neg e] at h ⊢
        exact ih h
    · rename_i hj
      have hi := ih h
      refine ⟨?_, hi.2⟩
      rw [look_cons]
      by_cases e : j = i
      · subst e
        exfalso
        simp only [Bool.not_eq_true', List.any_eq_false] at hj
        refine hj fun x hx => ?_
        cases x with
        | none => simp
        | some d =>
          have := hi.2 d hx
          simpa using this
      · rw [if_neg e]; exact hi.1

def full (a : Act) : Env := (List.range a.tmps.size).map fun i => (i, a.tmps.getD i undef)
theorem look_range (f : Nat → Value) (m k : Nat) (i : Nat) : look ((List.range' k m).map fun i => (i, f i)) i = if k ≤ i ∧ i < k + m then some (f i) else none := by
  induction m generalizing k with
  | zero => simp [look]
  | succ m ih =>
    simp only [List.range'_succ, List.map_cons, look_cons, ih]
    by_cases e : k = i
    · subst e; simp
    · rw [if_neg e]
      by_cases h : k + 1 ≤ i ∧ i < k + 1 + m
      · rw [if_pos h, if_pos (by omega)]
      · rw [if_neg h, if_neg (by omega)]
theorem look_full (a : Act) (i : Nat) (v : Value) : look (full a) i = some v ↔ a.tmps[i]? = some v := by
  unfold full
  rw [List.range_eq_range', look_range]
  by_cases h : i < a.tmps.size
  · rw [if_pos ⟨by omega, by omega⟩]
    simp [Array.getElem?_eq_getElem h]
  · rw [if_neg (by omega)]
    simp [Array.getElem?_eq_none (Nat.le_of_not_lt h)]

/-- Of what an operation hangs on. -/
def dep (o : Oper) (j : Nat) : Bool := o.after.toList.any fun e => Nat.beq e.on j && Region.binds .any e
def edgesOk : Nat → List Oper → Bool
  | _, [] => true
  | i, o :: l => (o.after.toList.all fun e => !Region.binds .any e || Nat.blt e.on i) && edgesOk (i + 1) l
theorem edgesOk_at {l : List Oper} {k : Nat} (h : edgesOk k l = true) {i : Nat} {o : Oper} (ho : l[i]? = some o) {e : Edge} (he : e ∈ o.after) (hb : Region.binds .any e = true) : e.on < k + i := by
  induction l generalizing k i with
  | nil => cases ho
  | cons o' l ih =>
    simp only [edgesOk, Bool.and_eq_true, List.all_eq_true] at h
    cases i with
    | zero =>
      have : o' = o := by simpa using ho
      subst this
      have := h.1 e (by simpa using he)
      simp [hb] at this
      simpa [Nat.blt_eq] using this
    | succ i =>
      have := ih h.2 (by simpa using ho)
      omega

def Dn (dst : Option Nat) (v : Value) (L : Env) : Env := match dst with | some d => (d, v) :: L | none => L
def Fl (Y : List (Option Tmp)) (F : List (Value → World → Prop)) (j : Nat) (L : Env) (w : World) : Prop :=
  match yd Y j with
  | some d => ∃ v, look L d = some v ∧ (match F[j]? with | some f => f v w | none => True)
  | none => match F[j]? with | some f => f undef w | none => True
/-- Is a slot written by an operation that waits for operation i? -/
def late (all : List Oper) (i d : Nat) : Bool := all.any fun o => (match o.dst with | some e => Nat.beq e d | none => false) && dep o i
def StepAt (all : List Oper) (P : Program) (ro : Option Nat) (ds : List Deferred) (n : Nat) (Y : List (Option Tmp)) (Q : Exit → Act → World → Prop) (l0 : Env) (F : List (Value → World → Prop)) (R : World → World → Prop) (w0 : World) (i : Nat) (o : Oper) : Prop :=
  ∀ (L : Env) (a : Act) (w : World), Has ds n L a → (∀ i v, look (keep l0 Y) i = some v → look L i = some v) → R w0 w → (∀ j, dep o j = true → Fl Y F j L w) → (∀ d v, late all i d = true → look l0 d = some v → look L d = some v) →
    wpL P ro Y (fun e a' w' => match e with
      | .normal => ∃ v, Has ds n (Dn o.dst v L) a' ∧ R w w' ∧ (match F[i]? with | some f => f (match o.dst with | some _ => v | none => undef) w' | none => True)
      | e => Q e a' w') [o] a w
def StepAll (all : List Oper) (P : Program) (ro : Option Nat) (ds : List Deferred) (n : Nat) (Y : List (Option Tmp)) (Q : Exit → Act → World → Prop) (l0 : Env) (F : List (Value → World → Prop)) (R : World → World → Prop) (w0 : World) : Nat → List Oper → Prop
  | _, [] => True
  | i, o :: l => StepAt all P ro ds n Y Q l0 F R w0 i o ∧ StepAll all P ro ds n Y Q l0 F R w0 (i + 1) l
theorem stepAll_at {all : List Oper} {P : Program} {ro : Option Nat} {ds : List Deferred} {n : Nat} {Y : List (Option Tmp)} {Q : Exit → Act → World → Prop} {l0 : Env} {F : List (Value → World → Prop)} {R : World → World → Prop} {w0 : World} {k : Nat} {l : List Oper}
    (h : StepAll all P ro ds n Y Q l0 F R w0 k l) {i : Nat} {o : Oper} (ho : l[i]? = some o) : StepAt all P ro ds n Y Q l0 F R w0 (k + i) o := by
  induction l generalizing k i with
  | nil => cases ho
  | cons o' l ih =>
    cases i with
    | zero =>
      have : o' = o := by simpa using ho
      subst this
      exact h.1
    | succ i =>
      have := ih h.2 (i := i) (by simpa using ho)
      have e : k + 1 + i = k + (i + 1) := by omega
      rwa [e] at this
def nodupS : List (Option Nat) → Bool
  | [] => true
  | none :: l => nodupS l
  | some d :: l => (l.all fun x => match x with | some e => !Nat.beq d e | none => true) && nodupS l
theorem nodupS_at {Y : List (Option Nat)} (h : nodupS Y = true) {i j d : Nat} (hi : Y[i]? = some (some d)) (hj : Y[j]? = some (some d)) : i = j := by
  induction Y generalizing i j with
  | nil => cases hi
  | cons y Y ih =>
    have hmem : ∀ k, Y[k]? = some (some d) → some d ∈ Y := fun k hk => List.mem_of_getElem? hk
    cases i with
    | zero =>
      have : y = some d := by simpa using hi
      subst this
      cases j with
      | zero => rfl
      | succ j =>
        simp only [nodupS, Bool.and_eq_true, List.all_eq_true] at h
        have := h.1 _ (hmem j (by simpa using hj))
        simp at this
    | succ i =>
      cases j with
      | zero =>
        have : y = some d := by simpa using hj
        subst this
        simp only [nodupS, Bool.and_eq_true, List.all_eq_true] at h
        have := h.1 _ (hmem i (by simpa using hi))
        simp at this
      | succ j =>
        have hY : nodupS Y = true := by
          cases y with
          | none => simpa [nodupS] using h
          | some e => simp only [nodupS, Bool.and_eq_true] at h; exact h.2
        rw [ih hY (i := i) (j := j) (by simpa using hi) (by simpa using hj)]

theorem filter_le (p q : Nat → Bool) (i : Nat) (hq : q i = false) (h : ∀ k, k ≠ i → q k = p k) : ∀ l : List Nat, (l.filter q).length ≤ (l.filter p).length := by
  intro l
  induction l with
  | nil => simp
  | cons k l ih =>
    by_cases e : k = i
    · subst e
      rw [List.filter_cons, List.filter_cons, hq]
      simp only [Bool.false_eq_true, if_false]
      split
      · rw [List.length_cons]; omega
      · exact ih
    · rw [List.filter_cons, List.filter_cons, h k e]
      split
      · rw [List.length_cons, List.length_cons]; omega
      · exact ih
theorem filter_lt (p q : Nat → Bool) (i : Nat) (hp : p i = true) (hq : q i = false) (h : ∀ k, k ≠ i → q k = p k) : ∀ l : List Nat, i ∈ l → (l.filter q).length < (l.filter p).length := by
  intro l
  induction l with
  | nil => intro hm; cases hm
  | cons k l ih =>
    intro hm
    by_cases e : k = i
    · subst e
      have := filter_le p q k hq h l
      rw [List.filter_cons, List.filter_cons, hq, hp]
      simp; omega
    · have hm' : i ∈ l := by
        cases hm with
        | head => exact absurd rfl e
        | tail _ hm => exact hm
      have := ih hm'
      rw [List.filter_cons, List.filter_cons, h k e]
      split
      · rw [List.length_cons, List.length_cons]; omega
      · exact this

theorem upon_mono2 {P : Program} {ro : Option Nat} {o : Oper} {a : Act} {w : World} {K K' : Act → World → Prop} {Q Q' : Exit → Act → World → Prop} (h : ∀ a w, K a w → K' a w)
    (hQ : ∀ e a w, e ≠ .normal → Q e a w → Q' e a w) (hh : o.wpIn (FW ro) 0 P a w K Q) : o.wpIn (FW ro) 0 P a w K' Q' := by
  unfold Oper.wpIn at *
  refine ⟨hh.1, ?_⟩
  have hh := hh.2
  generalize (o.semAt (FW ro).round a.eval).run P w = r at *
  have fin : ∀ (e : Ending) (w'' : World), (match e, w'' with | .returned v, w'' => K (a.put o.dst v) w'' | .panicked chain, w'' => Q (.panic chain) a w'' | .outgrown, _ => LetsOut Q) → (match e, w'' with | .returned v, w'' => K' (a.put o.dst v) w'' | .panicked chain, w'' => Q' (.panic chain) a w'' | .outgrown, _ => LetsOut Q') := fun e w'' he => by
    cases e with
    | returned v => exact h _ _ he
    | panicked c => exact hQ _ _ _ (by simp) he
    | outgrown => obtain ⟨a0, w0, hq⟩ := he; exact ⟨a0, w0, hQ _ _ _ (by simp) hq⟩
  cases r with
  | ok n w' =>
    cases n <;> simp only [Oper.uponIn] at hh ⊢ <;>
      first
        | exact h _ _ hh
        | exact ⟨hh.1, CallsIn.mono hh.2 (fun e w'' he => fin e w'' he)⟩
        | exact ⟨hh.1, RowsIn.mono hh.2 (fun _ _ he => h _ _ he)⟩
        | exact ⟨hh.1, RoundIn.mono hh.2 (fun e w'' he => fin e w'' he)⟩
  | halt x w' => cases x <;> simp only [Oper.uponIn] at hh ⊢ <;> first | exact hQ _ _ _ (by simp) hh | exact hh

theorem Has.under {ds : List Deferred} {n : Nat} {L l0 : Env} {a : Act} {Y : List (Option Nat)} (h : Has ds n L a) (hb : ∀ i v, look (keep l0 Y) i = some v → look L i = some v) : Has ds n (keep l0 Y) a :=
  h.sub hb
theorem Has.add {ds : List Deferred} {n : Nat} {L l : Env} {a : Act} {i : Nat} {v : Value} (h : Has ds n L a) (hi : look L i = some v) (h' : Has ds n l a) : Has ds n ((i, v) :: l) a :=
  Has.cons' h hi h'
theorem drw {P : Program} {ro : Option Nat} {Q : Exit → Act → World → Prop} {ds : List Deferred} {n : Nat} {l0 : Env} {a : Act} {w0 : World} {id : Nat} {l : List Oper}
    (hH : Has ds n l0 a) (Y : List (Option Tmp)) (hY : l.map (·.dst) = Y) (F : List (Value → World → Prop)) (R : World → World → Prop) (hm : P.follows .mixedOrders = true)
    (hnd : nodupS Y = true) (hed : edgesOk 0 l = true) (hdl : Y.all (fun x => match x with | some d => Nat.blt d n | none => true) = true)
    (hRr : R w0 { w0 with drawn := w0.drawn + 1 }) (hRt : ∀ a b c, R a b → R b c → R a c)
    (mono : ∀ (j : Nat) (f : Value → World → Prop) (v : Value) (w w' : World), F[j]? = some f → R w w' → f v w → f v w')
    (step : StepAll l P ro ds n Y Q l0 F R w0 0 l)
    (fin : ∀ L a w, Has ds n L a → (∀ i v, look (keep l0 Y) i = some v → look L i = some v) → R w0 w → (∀ j, j < l.length → Fl Y F j L w) → Q .normal a w) :
    (Code.region id l.toArray true).wpIn (FW ro) 0 P Q a w0 := by
  refine wpIn_region_any hm ?_
  have hlen : Y.length = l.length := by rw [← hY]; simp
  have hdst : ∀ (i : Nat) (o : Oper), l[i]? = some o → Y[i]? = some o.dst := fun i o ho => by rw [← hY, List.getElem?_map, ho]; rfl
  have hyd : ∀ (i : Nat) (o : Oper), l[i]? = some o → yd Y i = o.dst := fun i o ho => by rw [yd_eq, hdst i o ho]; rfl
  have key : ∀ (fuel : Nat) (listed : Array Bool) (a : Act) (w : World), listed.size = l.length → ((List.range l.length).filter fun i => !listed.getD i true).length ≤ fuel →
      Has ds n (full a) a → (∀ i v, look (keep l0 Y) i = some v → look (full a) i = some v) → R w0 w → (∀ j, listed.getD j false = true → Fl Y F j (full a) w) →
      (∀ j o, listed.getD j false = true → l[j]? = some o → ∀ i, dep o i = true → listed.getD i false = true) → (∀ d v, (∀ j, listed.getD j false = true → yd Y j ≠ some d) → look l0 d = some v → look (full a) d = some v) →
      wpAnyIn (FW ro) 0 P .any l.toArray Q fuel listed a w := by
    intro fuel
    -- where nothing is ready, all are listed
    have done : ∀ (listed : Array Bool), listed.size = l.length → Region.ready .any l.toArray listed = [] → ∀ i, i < l.length → listed.getD i false = true := by
      intro listed hs hr i
      induction i using Nat.strongRecOn with
      | ind i ih =>
        intro hi
        cases hb : listed.getD i false with
        | true => rfl
        | false =>
          exfalso
          have hmem : i ∈ Region.ready .any l.toArray listed := by
            unfold Region.ready
            rw [List.mem_filter]
            refine ⟨by simpa using hi, ?_⟩
            have hlt : i < listed.size := by omega
            have h1 : listed.getD i true = false := by
              simp [hlt] at hb ⊢; exact hb
            rw [h1]
            have ho : l.toArray[i]? = some l[i] := by simp [List.getElem?_eq_getElem hi]
            rw [ho]
            simp only [Option.map_some, Option.getD_some, Bool.not_false, Bool.true_and, Array.all_eq_true_iff_forall_mem, Bool.or_eq_true]
            intro e he
            by_cases hbd : Region.binds .any e = true
            · right
              have h2 := edgesOk_at hed (i := i) (List.getElem?_eq_getElem hi) he hbd
              exact ih e.on (by omega) (by omega)
            · left; simpa using hbd
          rw [hr] at hmem
          cases hmem
    induction fuel with
    | zero =>
      intro listed a w hs hf hHf hbase hR hfl hdl2 hold
      have hall : ∀ i, i < l.length → listed.getD i false = true := by
        intro i hi
        have hnil := List.eq_nil_of_length_eq_zero (Nat.le_zero.1 hf)
        have := List.filter_eq_nil_iff.1 hnil i (by simpa using hi)
        have hlt : i < listed.size := by omega
        simp [hlt] at this ⊢
        exact this
      refine ⟨?_, fin _ a w hHf hbase hR fun j hj => hfl j (hall j hj)⟩
      unfold Region.ready
      rw [List.filter_eq_nil_iff]
      intro i hi
      have hi' : i < l.length := by simpa using hi
      have hlt : i < listed.size := by omega
      have := hall i hi'
      simp [hlt] at this
      simp [hlt, this]
    | succ fuel ih =>
      intro listed a w hs hf hHf hbase hR hfl hdl2 hold
      refine ⟨fun hr => fin _ a w hHf hbase hR fun j hj => hfl j (done listed hs hr j hj), fun i hi => ?_⟩
      unfold Region.ready at hi
      rw [List.mem_filter] at hi
      obtain ⟨hir, hi⟩ := hi
      have hil : i < l.length := by simpa using hir
      have hlt : i < listed.size := by omega
      have ho : l[i]? = some l[i] := List.getElem?_eq_getElem hil
      have ho' : l.toArray[i]? = some l[i] := by simp [ho]
      rw [ho'] at hi
      simp only [Option.map_some, Option.getD_some, Bool.and_eq_true, Bool.not_eq_true', Array.all_eq_true_iff_forall_mem, Bool.or_eq_true] at hi
      obtain ⟨hun, hdep⟩ := hi
      have hst := stepAll_at step ho (full a) a w hHf hbase hR (fun j hj => by
        unfold dep at hj
        rw [List.any_eq_true] at hj
        obtain ⟨e, he, hej⟩ := hj
        rw [Bool.and_eq_true] at hej
        have hon : e.on = j := Nat.eq_of_beq_eq_true hej.1
        rcases hdep e (by simpa using he) with h | h
        · rw [hej.2] at h; cases h
        · rw [hon] at h; exact hfl j h) (fun d v hlate hv => by
        rw [Nat.zero_add] at hlate
        unfold late at hlate
        rw [List.any_eq_true] at hlate
        obtain ⟨o, ho2, hoe⟩ := hlate
        rw [Bool.and_eq_true] at hoe
        obtain ⟨j, hj⟩ := List.mem_iff_getElem?.1 ho2
        have hod : o.dst = some d := by
          revert hoe; cases o.dst with
          | none => intro h; exact absurd h.1 (by simp)
          | some e => intro h; rw [Nat.eq_of_beq_eq_true h.1]
        refine hold d v (fun k hk hy => ?_) hv
        have hkl : k < l.length := by
          rcases Nat.lt_or_ge k listed.size with h | h
          · omega
          · simp [Nat.not_lt.2 h] at hk
        have h1 := hdst k _ (List.getElem?_eq_getElem hkl)
        have h2 := hdst j _ hj
        rw [hyd k _ (List.getElem?_eq_getElem hkl)] at hy
        rw [hy] at h1
        rw [hod] at h2
        have e := nodupS_at hnd h1 h2
        subst e
        have := hdl2 k o hk hj i hoe.2
        have hlt2 : i < listed.size := by omega
        simp [hlt2] at this hun
        rw [this] at hun; cases hun)
      rw [Nat.zero_add] at hst
      have hw := hst l.toArray (by simpa using hY)
      -- what follows
      have next : ∀ a' w', (∃ v, Has ds n (Dn l[i].dst v (full a)) a' ∧ R w w' ∧ (match F[i]? with | some f => f (match l[i].dst with | some _ => v | none => undef) w' | none => True)) → wpAnyIn (FW ro) 0 P .any l.toArray Q fuel (listed.setIfInBounds i true) a' w' := by
        rintro a' w' ⟨v, hv, hRw, hF⟩
        have hHf' : Has ds n (full a') a' := ⟨hv.1, hv.2.1, fun k u hk => (look_full a' k u).1 hk⟩
        have other : ∀ k u, (∀ d, l[i].dst = some d → d ≠ k) → look (full a) k = some u → look (full a') k = some u := by
          intro k u hk hu
          rw [look_full]
          refine hv.2.2 k u ?_
          unfold Dn
          split
          · rename_i d hd; rw [look_cons, if_neg (hk d hd)]; exact hu
          · exact hu
        refine ih _ a' w' (by simpa using hs) ?_ hHf' (fun k u hk => ?_) (hRt _ _ _ hR hRw) (fun j hj => ?_) (fun j o hj ho3 k hk => ?_) (fun d v hno hv => ?_)
        · have hcount : ((List.range l.length).filter fun k => !(listed.setIfInBounds i true).getD k true).length < ((List.range l.length).filter fun k => !listed.getD k true).length := by
            refine filter_lt _ _ i (by rw [hun]; rfl) (by simp [hlt]) (fun k hk => ?_) _ (by simpa using hil)
            have : (listed.setIfInBounds i true).getD k true = listed.getD k true := by
              have hk' : ¬ i = k := fun e => hk e.symm
              simp [Array.getElem?_setIfInBounds, hk']
            rw [this]
          omega
        · refine other k u (fun d hd => ?_) (hbase k u hk)
          exact (look_keep l0 Y k u hk).2 d (by
            have := hdst i _ ho
            rw [hd] at this
            exact List.mem_of_getElem? this)
        · by_cases e : i = j
          · subst e
            unfold Fl
            rw [hyd i _ ho]
            split
            · rename_i d hd
              refine ⟨v, ?_, ?_⟩
              · rw [look_full]
                refine hv.2.2 d v ?_
                rw [hd]; simp [Dn, look]
              · rw [hd] at hF; exact hF
            · rename_i hd
              rw [hd] at hF; exact hF
          · have hj' : listed.getD j false = true := by
              simpa [Array.getElem?_setIfInBounds, e] using hj
            have hfj := hfl j hj'
            have hjl : j < l.length := by
              rcases Nat.lt_or_ge j listed.size with h | h
              · omega
              · simp [Nat.not_lt.2 h] at hj'
            have hoj : l[j]? = some l[j] := List.getElem?_eq_getElem hjl
            unfold Fl at hfj ⊢
            split at hfj
            · rename_i d hd
              obtain ⟨u, hu, hfu⟩ := hfj
              refine ⟨u, other d u (fun d' hd' e' => ?_) hu, ?_⟩
              · subst e'
                have h1 := hdst i _ ho
                have h2 : Y[j]? = some (some d') := by
                  have := hdst j _ hoj
                  rw [this, ← hyd j _ hoj, hd]
                rw [hd'] at h1
                exact e (nodupS_at hnd h1 h2)
              · revert hfu
                cases hFj : F[j]? with
                | none => exact fun h => h
                | some f => exact fun h => mono j f u _ _ hFj hRw h
            · rename_i hd
              revert hfj
              cases hFj : F[j]? with
              | none => exact fun h => h
              | some f => exact fun h => mono j f _ _ _ hFj hRw h
        · by_cases e : i = j
          · subst e
            rw [ho] at ho3; cases ho3
            unfold dep at hk
            rw [List.any_eq_true] at hk
            obtain ⟨e, he, hek⟩ := hk
            rw [Bool.and_eq_true] at hek
            have hon : e.on = k := Nat.eq_of_beq_eq_true hek.1
            have hkl : listed.getD k false = true := by
              rcases hdep e (by simpa using he) with h | h
              · rw [hek.2] at h; cases h
              · rw [hon] at h; exact h
            have hks : k < listed.size := by
              rcases Nat.lt_or_ge k listed.size with h | h
              · exact h
              · simp [Nat.not_lt.2 h] at hkl
            by_cases e2 : i = k
            · subst e2; simp [hlt]
            · simpa [Array.getElem?_setIfInBounds, e2] using hkl
          · have hj' : listed.getD j false = true := by simpa [Array.getElem?_setIfInBounds, e] using hj
            have hkl := hdl2 j o hj' ho3 k hk
            by_cases e2 : i = k
            · subst e2; simp [hlt]
            · simpa [Array.getElem?_setIfInBounds, e2] using hkl
        · have hi : yd Y i ≠ some d := hno i (by simp [hlt])
          refine other d v (fun d' hd' e2 => hi (by rw [hyd i _ ho, hd', e2])) (hold d v (fun j hj => ?_) hv)
          by_cases e : i = j
          · subst e; exact hi
          · exact hno j (by simpa [Array.getElem?_setIfInBounds, e] using hj)
      unfold wpOpIn
      rw [ho']
      simp only
      unfold wpListIn at hw
      split at hw
      · rename_i hwant
        rw [if_pos hwant]
        exact upon_mono2 (fun a' w' h => next a' w' h) (fun e a' w' hne h => by cases e <;> first | exact absurd rfl hne | exact h) hw
      · rename_i hwant
        rw [if_neg hwant]
        exact ⟨hw.1, next _ _ hw.2⟩
  refine key _ _ a _ (by simp) (by exact Nat.le_trans (List.length_filter_le _ _) (by simp)) ⟨hH.1, hH.2.1, fun i v h => (look_full a i v).1 h⟩ (fun i v h => (look_full a i v).2 (hH.2.2 i v (look_keep l0 Y i v h).1)) hRr (fun j hj => ?_) (fun j o hj _ => ?_) (fun d v _ hv => (look_full a d v).2 (hH.2.2 d v hv))
  rotate_left
  · exfalso
    rcases Nat.lt_or_ge j l.length with h | h
    · simp [h] at hj
    · simp [Nat.not_lt.2 h] at hj
  exfalso
  rcases Nat.lt_or_ge j l.length with h | h
  · simp [h] at hj
  · simp [Nat.not_lt.2 h] at hj
end Go.Proofs.Ytpgeogdmjgmimaa.K
