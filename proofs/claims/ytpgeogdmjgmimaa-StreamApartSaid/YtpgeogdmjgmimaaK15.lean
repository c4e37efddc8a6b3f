/-
  The walk's own small kit: regions that draw their order and in which one operation changes memory that was there.
-/
import Derived.Test.YtpgeogdmjgmimaaK8
set_option linter.unusedVariables false
set_option linter.unusedSimpArgs false
namespace Go.Proofs.Ytpgeogdmjgmimaa.K
open Go Go.RowKit

/-- The operations on which the one at j0 waits, that one with them. -/
def chkL (l : List Oper) (j0 : Nat) (S : List Bool) : Bool :=
  S.getD j0 false && (List.range l.length).all fun i => !S.getD i false || Nat.beq i j0 || (List.range l.length).any fun k => Nat.blt i k && S.getD k false && (match l[k]? with | some o => dep o i | none => false)
theorem chkL_self {l : List Oper} {j0 : Nat} {S : List Bool} (h : chkL l j0 S = true) : S.getD j0 false = true := by
  unfold chkL at h; rw [Bool.and_eq_true] at h; exact h.1
theorem chkL_at {l : List Oper} {j0 : Nat} {S : List Bool} {listed : Array Bool} (h : chkL l j0 S = true)
    (hdl : ∀ j o, listed.getD j false = true → l[j]? = some o → ∀ i, dep o i = true → listed.getD i false = true) (hj : listed.getD j0 false = true) {i : Nat} (hi : S.getD i false = true) (hil : i < l.length := by assumption) : listed.getD i false = true := by
  unfold chkL at h
  rw [Bool.and_eq_true, List.all_eq_true] at h
  have key : ∀ m i, l.length - i ≤ m → i < l.length → S.getD i false = true → listed.getD i false = true := by
    intro m
    induction m with
    | zero => intro i hm hil _; omega
    | succ m ih =>
      intro i hm hil hi
      have h1 := h.2 i (by simpa using hil)
      rw [hi] at h1
      simp only [Bool.not_true, Bool.false_or, Bool.or_eq_true, List.any_eq_true, Bool.and_eq_true] at h1
      rcases h1 with h1 | ⟨k, hk, ⟨h2, h3⟩, h4⟩
      · rw [Nat.eq_of_beq_eq_true h1]; exact hj
      · have hkl : k < l.length := by simpa using hk
        have hik : i < k := by simpa [Nat.blt_eq] using h2
        have := ih k (by omega) hkl h3
        rw [List.getElem?_eq_getElem hkl] at h4
        exact hdl k _ this (List.getElem?_eq_getElem hkl) i h4
  exact key _ i (Nat.le_refl _) hil hi
def StepAtL (j0 : Nat) (S : List Bool) (all : List Oper) (P : Program) (ro : Option Nat) (ds : List Deferred) (n : Nat) (Y : List (Option Tmp)) (Q : Exit → Act → World → Prop) (l0 : Env) (F : List (Value → World → Prop)) (R1 R2 : World → World → Prop) (w0 : World) (i : Nat) (o : Oper) : Prop :=
  ∀ (L : Env) (a : Act) (w : World), Has ds n L a → (∀ i v, look (keep l0 Y) i = some v → look L i = some v) → (bif S.getD i false then R1 w0 w else R2 w0 w) → (∀ j, dep o j = true → Fl Y F j L w) → (∀ d v, late all i d = true → look l0 d = some v → look L d = some v) →
    wpL P ro Y (fun e a' w' => match e with
      | .normal => ∃ v, Has ds n (Dn o.dst v L) a' ∧ (bif Nat.beq i j0 then R2 w w' else R1 w w') ∧ (match F[i]? with | some f => f (match o.dst with | some _ => v | none => undef) w' | none => True)
      | e => Q e a' w') [o] a w
def StepAllL (j0 : Nat) (S : List Bool) (all : List Oper) (P : Program) (ro : Option Nat) (ds : List Deferred) (n : Nat) (Y : List (Option Tmp)) (Q : Exit → Act → World → Prop) (l0 : Env) (F : List (Value → World → Prop)) (R1 R2 : World → World → Prop) (w0 : World) : Nat → List Oper → Prop
  | _, [] => True
  | i, o :: l => StepAtL j0 S all P ro ds n Y Q l0 F R1 R2 w0 i o ∧ StepAllL j0 S all P ro ds n Y Q l0 F R1 R2 w0 (i + 1) l
theorem stepAllL_at {j0 : Nat} {S : List Bool} {all : List Oper} {P : Program} {ro : Option Nat} {ds : List Deferred} {n : Nat} {Y : List (Option Tmp)} {Q : Exit → Act → World → Prop} {l0 : Env} {F : List (Value → World → Prop)} {R1 R2 : World → World → Prop} {w0 : World} {k : Nat} {l : List Oper}
    (h : StepAllL j0 S all P ro ds n Y Q l0 F R1 R2 w0 k l) {i : Nat} {o : Oper} (ho : l[i]? = some o) : StepAtL j0 S all P ro ds n Y Q l0 F R1 R2 w0 (k + i) o := by
  induction l generalizing k i with
  | nil => cases ho
  | cons o' l ih =>
    cases i with
    | zero =>
      have : o' = o := by simpa using ho
      subst this
      exact h.1
    | succ i =>
      have := ih h.2 (i := i) (by simpa using ho)
      have e : k + 1 + i = k + (i + 1) := by omega
      rwa [e] at this
theorem drwL {P : Program} {ro : Option Nat} {Q : Exit → Act → World → Prop} {ds : List Deferred} {n : Nat} {l0 : Env} {a : Act} {w0 : World} {id : Nat} {l : List Oper}
    (hH : Has ds n l0 a) (Y : List (Option Tmp)) (hY : l.map (·.dst) = Y) (F : List (Value → World → Prop)) (R1 R2 : World → World → Prop) (j0 : Nat) (S : List Bool) (hm : P.follows .mixedOrders = true)
    (hnd : nodupS Y = true) (hed : edgesOk 0 l = true) (hdl : Y.all (fun x => match x with | some d => Nat.blt d n | none => true) = true)
    (hj0 : Nat.blt j0 l.length = true) (hS : chkL l j0 S = true)
    (hRr : R1 w0 { w0 with drawn := w0.drawn + 1 }) (hRt : ∀ a b c, R1 a b → R1 b c → R1 a c) (hR12 : ∀ a b c, R1 a b → R2 b c → R2 a c) (hR21 : ∀ a b c, R2 a b → R1 b c → R2 a c)
    (h1to2 : ∀ a b, R1 a b → R2 a b)
    (mono : ∀ (j : Nat) (f : Value → World → Prop) (v : Value) (w w' : World), F[j]? = some f → R1 w w' → f v w → f v w')
    (mono2 : ∀ (j : Nat) (f : Value → World → Prop) (v : Value) (w w' : World), j ≠ j0 → F[j]? = some f → R2 w w' → f v w → f v w')
    (step : StepAllL j0 S l P ro ds n Y Q l0 F R1 R2 w0 0 l)
    (fin : ∀ L a w, Has ds n L a → (∀ i v, look (keep l0 Y) i = some v → look L i = some v) → R2 w0 w → (∀ j, j < l.length → Fl Y F j L w) → Q .normal a w) :
    (Code.region id l.toArray true).wpIn (FW ro) 0 P Q a w0 := by
  refine wpIn_region_any hm ?_
  have hj0' : j0 < l.length := by simpa [Nat.blt_eq] using hj0
  have hlen : Y.length = l.length := by rw [← hY]; simp
  have hdst : ∀ (i : Nat) (o : Oper), l[i]? = some o → Y[i]? = some o.dst := fun i o ho => by rw [← hY, List.getElem?_map, ho]; rfl
  have hyd : ∀ (i : Nat) (o : Oper), l[i]? = some o → yd Y i = o.dst := fun i o ho => by rw [yd_eq, hdst i o ho]; rfl
  have key : ∀ (fuel : Nat) (listed : Array Bool) (a : Act) (w : World), listed.size = l.length → ((List.range l.length).filter fun i => !listed.getD i true).length ≤ fuel →
      Has ds n (full a) a → (∀ i v, look (keep l0 Y) i = some v → look (full a) i = some v) → (bif listed.getD j0 false then R2 w0 w else R1 w0 w) → (∀ j, listed.getD j false = true → Fl Y F j (full a) w) →
      (∀ j o, listed.getD j false = true → l[j]? = some o → ∀ i, dep o i = true → listed.getD i false = true) → (∀ d v, (∀ j, listed.getD j false = true → yd Y j ≠ some d) → look l0 d = some v → look (full a) d = some v) →
      wpAnyIn (FW ro) 0 P .any l.toArray Q fuel listed a w := by
    intro fuel
    -- where nothing is ready, all are listed
    have done : ∀ (listed : Array Bool), listed.size = l.length → Region.ready .any l.toArray listed = [] → ∀ i, i < l.length → listed.getD i false = true := by
      intro listed hs hr i
      induction i using Nat.strongRecOn with
      | ind i ih =>
        intro hi
        cases hb : listed.getD i false with
        | true => rfl
        | false =>
          exfalso
          have hmem : i ∈ Region.ready .any l.toArray listed := by
            unfold Region.ready
            rw [List.mem_filter]
            refine ⟨by simpa using hi, ?_⟩
            have hlt : i < listed.size := by omega
            have h1 : listed.getD i true = false := by
              simp [hlt] at hb ⊢; exact hb
            rw [h1]
            have ho : l.toArray[i]? = some l[i] := by simp [List.getElem?_eq_getElem hi]
            rw [ho]
            simp only [Option.map_some, Option.getD_some, Bool.not_false, Bool.true_and, Array.all_eq_true_iff_forall_mem, Bool.or_eq_true]
            intro e he
            by_cases hbd : Region.binds .any e = true
            · right
              have h2 := edgesOk_at hed (i := i) (List.getElem?_eq_getElem hi) he hbd
              exact ih e.on (by omega) (by omega)
            · left; simpa using hbd
          rw [hr] at hmem
          cases hmem
    induction fuel with
    | zero =>
      intro listed a w hs hf hHf hbase hR hfl hdl2 hold
      have hall : ∀ i, i < l.length → listed.getD i false = true := by
        intro i hi
        have hnil := List.eq_nil_of_length_eq_zero (Nat.le_zero.1 hf)
        have := List.filter_eq_nil_iff.1 hnil i (by simpa using hi)
        have hlt : i < listed.size := by omega
        simp [hlt] at this ⊢
        exact this
      have hR2 : R2 w0 w := by rw [hall j0 hj0'] at hR; exact hR
      refine ⟨?_, fin _ a w hHf hbase hR2 fun j hj => hfl j (hall j hj)⟩
      unfold Region.ready
      rw [List.filter_eq_nil_iff]
      intro i hi
      have hi' : i < l.length := by simpa using hi
      have hlt : i < listed.size := by omega
      have := hall i hi'
      simp [hlt] at this
      simp [hlt, this]
    | succ fuel ih =>
      intro listed a w hs hf hHf hbase hR hfl hdl2 hold
      refine ⟨fun hr => fin _ a w hHf hbase (by rw [done listed hs hr j0 hj0'] at hR; exact hR) fun j hj => hfl j (done listed hs hr j hj), fun i hi => ?_⟩
      unfold Region.ready at hi
      rw [List.mem_filter] at hi
      obtain ⟨hir, hi⟩ := hi
      have hil : i < l.length := by simpa using hir
      have hlt : i < listed.size := by omega
      have ho : l[i]? = some l[i] := List.getElem?_eq_getElem hil
      have ho' : l.toArray[i]? = some l[i] := by simp [ho]
      rw [ho'] at hi
      simp only [Option.map_some, Option.getD_some, Bool.and_eq_true, Bool.not_eq_true', Array.all_eq_true_iff_forall_mem, Bool.or_eq_true] at hi
      obtain ⟨hun, hdep⟩ := hi
      have hnot : S.getD i false = true → listed.getD j0 false = false := fun hSi => by
        cases hb : listed.getD j0 false with
        | false => rfl
        | true =>
          exfalso
          have := chkL_at hS hdl2 hb hSi
          have hlt2 : i < listed.size := by omega
          simp [hlt2] at this hun
          rw [this] at hun; cases hun
      have hRs : (bif S.getD i false then R1 w0 w else R2 w0 w) := by
        cases hSi : S.getD i false with
        | false =>
          cases hb : listed.getD j0 false with
          | false => rw [hb] at hR; exact h1to2 _ _ hR
          | true => rw [hb] at hR; exact hR
        | true => rw [hnot hSi] at hR; exact hR
      have hst := stepAllL_at step ho (full a) a w hHf hbase (by rw [Nat.zero_add]; exact hRs) (fun j hj => by
        unfold dep at hj
        rw [List.any_eq_true] at hj
        obtain ⟨e, he, hej⟩ := hj
        rw [Bool.and_eq_true] at hej
        have hon : e.on = j := Nat.eq_of_beq_eq_true hej.1
        rcases hdep e (by simpa using he) with h | h
        · rw [hej.2] at h; cases h
        · rw [hon] at h; exact hfl j h) (fun d v hlate hv => by
        rw [Nat.zero_add] at hlate
        unfold late at hlate
        rw [List.any_eq_true] at hlate
        obtain ⟨o, ho2, hoe⟩ := hlate
        rw [Bool.and_eq_true] at hoe
        obtain ⟨j, hj⟩ := List.mem_iff_getElem?.1 ho2
        have hod : o.dst = some d := by
          revert hoe; cases o.dst with
          | none => intro h; exact absurd h.1 (by simp)
          | some e => intro h; rw [Nat.eq_of_beq_eq_true h.1]
        refine hold d v (fun k hk hy => ?_) hv
        have hkl : k < l.length := by
          rcases Nat.lt_or_ge k listed.size with h | h
          · omega
          · simp [Nat.not_lt.2 h] at hk
        have h1 := hdst k _ (List.getElem?_eq_getElem hkl)
        have h2 := hdst j _ hj
        rw [hyd k _ (List.getElem?_eq_getElem hkl)] at hy
        rw [hy] at h1
        rw [hod] at h2
        have e := nodupS_at hnd h1 h2
        subst e
        have := hdl2 k o hk hj i hoe.2
        have hlt2 : i < listed.size := by omega
        simp [hlt2] at this hun
        rw [this] at hun; cases hun)
      rw [Nat.zero_add] at hst
      have hw := hst l.toArray (by simpa using hY)
      -- what follows
      have next : ∀ a' w', (∃ v, Has ds n (Dn l[i].dst v (full a)) a' ∧ (bif Nat.beq i j0 then R2 w w' else R1 w w') ∧ (match F[i]? with | some f => f (match l[i].dst with | some _ => v | none => undef) w' | none => True)) → wpAnyIn (FW ro) 0 P .any l.toArray Q fuel (listed.setIfInBounds i true) a' w' := by
        rintro a' w' ⟨v, hv, hRw, hF⟩
        have hHf' : Has ds n (full a') a' := ⟨hv.1, hv.2.1, fun k u hk => (look_full a' k u).1 hk⟩
        have other : ∀ k u, (∀ d, l[i].dst = some d → d ≠ k) → look (full a) k = some u → look (full a') k = some u := by
          intro k u hk hu
          rw [look_full]
          refine hv.2.2 k u ?_
          unfold Dn
          split
          · rename_i d hd; rw [look_cons, if_neg (hk d hd)]; exact hu
          · exact hu
        refine ih _ a' w' (by simpa using hs) ?_ hHf' (fun k u hk => ?_) ?_ (fun j hj => ?_) (fun j o hj ho3 k hk => ?_) (fun d v hno hv => ?_)
        · have hcount : ((List.range l.length).filter fun k => !(listed.setIfInBounds i true).getD k true).length < ((List.range l.length).filter fun k => !listed.getD k true).length := by
            refine filter_lt _ _ i (by rw [hun]; rfl) (by simp [hlt]) (fun k hk => ?_) _ (by simpa using hil)
            have : (listed.setIfInBounds i true).getD k true = listed.getD k true := by
              have hk' : ¬ i = k := fun e => hk e.symm
              simp [Array.getElem?_setIfInBounds, hk']
            rw [this]
          omega
        · refine other k u (fun d hd => ?_) (hbase k u hk)
          exact (look_keep l0 Y k u hk).2 d (by
            have := hdst i _ ho
            rw [hd] at this
            exact List.mem_of_getElem? this)
        · by_cases e : i = j0
          · subst e
            have h1 : (listed.setIfInBounds i true).getD i false = true := by simp [hlt]
            have hb : Nat.beq i i = true := Nat.beq_refl i
            rw [hb] at hRw
            rw [h1]
            have h0 := hnot (chkL_self hS)
            rw [h0] at hR
            exact hR12 _ _ _ hR hRw
          · have h1 : (listed.setIfInBounds i true).getD j0 false = listed.getD j0 false := by simp [Array.getElem?_setIfInBounds, e]
            have hb : Nat.beq i j0 = false := by
              cases hb : Nat.beq i j0 with
              | false => rfl
              | true => exact absurd (Nat.eq_of_beq_eq_true hb) e
            rw [hb] at hRw
            rw [h1]
            cases hl : listed.getD j0 false with
            | true => rw [hl] at hR; exact hR21 _ _ _ hR hRw
            | false => rw [hl] at hR; exact hRt _ _ _ hR hRw
        · have hmono : ∀ (j : Nat) (f : Value → World → Prop) (v : Value), i ≠ j → listed.getD j false = true → F[j]? = some f → f v w → f v w' := fun j f v hne hlj hf hv => by
            cases hb : Nat.beq i j0 with
            | false => rw [hb] at hRw; exact mono j f v _ _ hf hRw hv
            | true =>
              rw [hb] at hRw
              have e := Nat.eq_of_beq_eq_true hb
              exact mono2 j f v _ _ (by rw [← e]; exact fun e2 => hne e2.symm) hf hRw hv
          by_cases e : i = j
          · subst e
            unfold Fl
            rw [hyd i _ ho]
            split
            · rename_i d hd
              refine ⟨v, ?_, ?_⟩
              · rw [look_full]
                refine hv.2.2 d v ?_
                rw [hd]; simp [Dn, look]
              · rw [hd] at hF; exact hF
            · rename_i hd
              rw [hd] at hF; exact hF
          · have hj' : listed.getD j false = true := by
              simpa [Array.getElem?_setIfInBounds, e] using hj
            have hfj := hfl j hj'
            have hjl : j < l.length := by
              rcases Nat.lt_or_ge j listed.size with h | h
              · omega
              · simp [Nat.not_lt.2 h] at hj'
            have hoj : l[j]? = some l[j] := List.getElem?_eq_getElem hjl
            unfold Fl at hfj ⊢
            split at hfj
            · rename_i d hd
              obtain ⟨u, hu, hfu⟩ := hfj
              refine ⟨u, other d u (fun d' hd' e' => ?_) hu, ?_⟩
              · subst e'
                have h1 := hdst i _ ho
                have h2 : Y[j]? = some (some d') := by
                  have := hdst j _ hoj
                  rw [this, ← hyd j _ hoj, hd]
                rw [hd'] at h1
                exact e (nodupS_at hnd h1 h2)
              · revert hfu
                cases hFj : F[j]? with
                | none => exact fun h => h
                | some f => exact fun h => hmono j f u e hj' hFj h
            · rename_i hd
              revert hfj
              cases hFj : F[j]? with
              | none => exact fun h => h
              | some f => exact fun h => hmono j f _ e hj' hFj h
        · by_cases e : i = j
          · subst e
            rw [ho] at ho3; cases ho3
            unfold dep at hk
            rw [List.any_eq_true] at hk
            obtain ⟨e, he, hek⟩ := hk
            rw [Bool.and_eq_true] at hek
            have hon : e.on = k := Nat.eq_of_beq_eq_true hek.1
            have hkl : listed.getD k false = true := by
              rcases hdep e (by simpa using he) with h | h
              · rw [hek.2] at h; cases h
              · rw [hon] at h; exact h
            have hks : k < listed.size := by
              rcases Nat.lt_or_ge k listed.size with h | h
              · exact h
              · simp [Nat.not_lt.2 h] at hkl
            by_cases e2 : i = k
            · subst e2; simp [hlt]
            · simpa [Array.getElem?_setIfInBounds, e2] using hkl
          · have hj' : listed.getD j false = true := by simpa [Array.getElem?_setIfInBounds, e] using hj
            have hkl := hdl2 j o hj' ho3 k hk
            by_cases e2 : i = k
            · subst e2; simp [hlt]
            · simpa [Array.getElem?_setIfInBounds, e2] using hkl
        · have hi : yd Y i ≠ some d := hno i (by simp [hlt])
          refine other d v (fun d' hd' e2 => hi (by rw [hyd i _ ho, hd', e2])) (hold d v (fun j hj => ?_) hv)
          by_cases e : i = j
          · subst e; exact hi
          · exact hno j (by simpa [Array.getElem?_setIfInBounds, e] using hj)
      unfold wpOpIn
      rw [ho']
      simp only
      unfold wpListIn at hw
      split at hw
      · rename_i hwant
        rw [if_pos hwant]
        exact upon_mono2 (fun a' w' h => next a' w' h) (fun e a' w' hne h => by cases e <;> first | exact absurd rfl hne | exact h) hw
      · rename_i hwant
        rw [if_neg hwant]
        exact ⟨hw.1, next _ _ hw.2⟩
  refine key _ _ a _ (by simp) (by exact Nat.le_trans (List.length_filter_le _ _) (by simp)) ⟨hH.1, hH.2.1, fun i v h => (look_full a i v).1 h⟩ (fun i v h => (look_full a i v).2 (hH.2.2 i v (look_keep l0 Y i v h).1)) (by
      have : (Array.replicate l.toArray.size false).getD j0 false = false := by simp [hj0']
      rw [this]; exact hRr) (fun j hj => ?_) (fun j o hj _ => ?_) (fun d v _ hv => (look_full a d v).2 (hH.2.2 d v hv))
  rotate_left
  · exfalso
    rcases Nat.lt_or_ge j l.length with h | h
    · simp [h] at hj
    · simp [Nat.not_lt.2 h] at hj
  exfalso
  rcases Nat.lt_or_ge j l.length with h | h
  · simp [h] at hj
  · simp [Nat.not_lt.2 h] at hj
def MonoX (R : World → World → Prop) (j0 k : Nat) (F : List (Value → World → Prop)) : Prop := ∀ (j : Nat) (f : Value → World → Prop) (v : Value) (w w' : World), k + j ≠ j0 → F[j]? = some f → R w w' → f v w → f v w'
theorem mnilX {R : World → World → Prop} {j0 k : Nat} : MonoX R j0 k [] := fun j f v w w' _ h => by simp at h
theorem mconsX {R : World → World → Prop} {j0 k : Nat} {f : Value → World → Prop} {F : List (Value → World → Prop)} (h : k ≠ j0 → ∀ v w w', R w w' → f v w → f v w') (hF : MonoX R j0 (k + 1) F) : MonoX R j0 k (f :: F) := fun j g v w w' hne hj => by
  cases j with
  | zero => have : f = g := by simpa using hj
            subst this; exact h hne v w w'
  | succ j => exact hF j g v w w' (by omega) (by simpa using hj)
theorem MonoX.all {R : World → World → Prop} {j0 : Nat} {F : List (Value → World → Prop)} (h : MonoX R j0 0 F) : ∀ (j : Nat) (f : Value → World → Prop) (v : Value) (w w' : World), j ≠ j0 → F[j]? = some f → R w w' → f v w → f v w' := fun j f v w w' hne => h j f v w w' (by omega)
/-- Several ways through a region that end alike. -/
theorem jn {ds : List Deferred} {n : Nat} {l : Env} {a : Act} (hH : Has ds n l a) {K : Act → World → Prop} {G : Prop} (d : Nat) (E : Value) (Φ : World → Prop) (rest : ∀ a' w', Has ds n ((d, E) :: l) a' → Φ w' → K a' w')
    (main : (∀ a' w', Has ds n ((d, E) :: l) a' → Φ w' → K a' w') → G) : G := main rest
theorem Has.tail {ds : List Deferred} {n : Nat} {L : Env} {a : Act} {i : Nat} {v : Value} (h : Has ds n ((i, v) :: L) a) (hn : look L i = none) : Has ds n L a := by
  refine ⟨h.1, h.2.1, fun j u hu => h.2.2 j u ?_⟩
  rw [look_cons]
  by_cases e : i = j
  · subst e; rw [hn] at hu; cases hu
  · rw [if_neg e]; exact hu
section
variable {P : Program} {ro : Option Nat} {Y : List (Option Tmp)} {Q : Exit → Act → World → Prop} {rest : List Oper} {ds : List Deferred} {n : Nat} {l : Env} {a : Act} {w : World}
variable {T : TypeId} {p : String} {af : Array Edge} {x y : Operand} {u : TypeId} {d : Nat}
/-- []byte("abc"): a literal's row is marked, and is what it is. -/
theorem cvi (hH : Has ds n l a) {g m c : Nat} {t e : TypeId} {cs : List Value} (hx : ev l x = some (.slice (some ⟨g, 0, none⟩) m c)) (ht : P.underlying t = some (.slice e)) (he : P.underlying e = some (.int .u8)) (hB : Blk w g u cs) (hd : Nat.blt d n = true)
    (h : ∀ a' w', Has ds n ((d, .slice (some ⟨g, 0, none⟩) m c) :: l) a' → Blk w' g u cs → But g w w' → wpL P ro Y Q rest a' w') : wpL P ro Y Q (⟨some d, .convert t t x, T, p, af, none⟩ :: rest) a w := by
  have hsh := hB.shape
  obtain ⟨fr, hh, hf⟩ := hB
  obtain ⟨lo, hi⟩ := fr
  have hlt : g < w.heap.size := (Array.getElem?_eq_some_iff.1 hh).1
  refine wpL_value (v := .slice (some ⟨g, 0, none⟩) m c) (w' := w.freeze ⟨g, cs.length, none⟩ 1) rfl ?_ (h _ _ (hH.put d _ hd) ?_ ?_)
  · simp only [execOp, hH.eval hx]
    simp [convert, run_underlying ht, run_underlying he, markStringish, hsh]
  · refine ⟨if lo == hi then (cs.length, cs.length + 1) else (min lo cs.length, max hi (cs.length + 1)), ?_, ?_⟩
    · show (w.freeze _ 1).heap[g]? = _
      simp [World.freeze, Array.getElem?_modify, hh]
    · right
      split
      · exact Nat.le_refl _
      · rename_i hne
        have : ¬ lo = hi := by simpa using hne
        simp only at hf
        rcases hf with hf | hf
        · exact absurd hf this
        · exact Nat.le_min.2 ⟨hf, Nat.le_refl _⟩
  · refine ⟨rfl, rfl, rfl, by simp [World.freeze], fun k hk hne => ?_⟩
    show (w.freeze _ 1).heap[k]? = _
    simp only [World.freeze]
    rw [if_neg (by omega)]
    simp only [Array.getElem?_modify]
    rw [if_neg (by intro e; exact hne (by rw [e]))]
end
end Go.Proofs.Ytpgeogdmjgmimaa.K
