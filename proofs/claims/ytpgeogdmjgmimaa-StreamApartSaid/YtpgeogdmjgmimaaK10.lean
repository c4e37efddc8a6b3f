/-
  The walk's own small kit, tenth part: ranges over functions: what an iterator promises (Iter), the law of the statement (rgf), a call of yield (yld), a function that leaves with the mark.
-/
import Derived.Test.YtpgeogdmjgmimaaK9
import Derived.RangeFuncFrom
set_option linter.unusedVariables false
set_option linter.unusedSimpArgs false
namespace Go.Proofs.Ytpgeogdmjgmimaa.K
open Go Go.RowKit

/-- All but block g, and but what is no cells and lies from n0 on, is there as it was. -/
structure CK (g n0 : Nat) (W W' : World) : Prop where
  os : W'.os = W.os
  tape : W'.tape = W.tape
  output : W'.output = W.output
  size : W.heap.size ≤ W'.heap.size
  block : ∀ (b : Nat) (o : Obj), W.heap[b]? = some o → b ≠ g → (b < n0 ∨ o.isCells = true) → W'.heap[b]? = some o
section
variable {g n0 : Nat} {W W' : World}
theorem But.ck (h : But g W W') : CK g n0 W W' :=
  ⟨h.os, h.tape, h.output, h.size, fun b o hb hne _ => (h.block b (Array.getElem?_eq_some_iff.1 hb).1 (fun e => hne (by simpa using e))).trans hb⟩
theorem Kept.toCK (h : Kept W W') : CK g n0 W W' :=
  ⟨h.os, h.tape, h.output, h.size, fun b o hb _ _ => (h.block b (Array.getElem?_eq_some_iff.1 hb).1).trans hb⟩
theorem CK.trans {A B D : World} (h : CK g n0 A B) (k : CK g n0 B D) : CK g n0 A D :=
  ⟨k.os.trans h.os, k.tape.trans h.tape, k.output.trans h.output, Nat.le_trans h.size k.size, fun b o hb hne hc => k.block b o (h.block b o hb hne hc) hne hc⟩
theorem CK.putObj {l : Nat} {o : Obj} (o' : Obj) (hl : W.heap[l]? = some o) (ho : o.isCells = false) (hn : n0 ≤ l) : CK g n0 W (W.putObj l o') :=
  ⟨rfl, rfl, rfl, by simp, fun b ob hb hne hc => by
    by_cases e : b = l
    · subst e
      rw [hl] at hb; cases hb
      rcases hc with hc | hc
      · omega
      · rw [ho] at hc; cases hc
    · exact (World.putObj_heap_other e).trans hb⟩
theorem CK.alloc (o : Obj) : CK g n0 W (W.alloc o) := Kept.toCK ((Kept.refl W).alloc o)
theorem Kept.ck {w0 : World} (h : Kept w0 W) (k : CK g n0 W W') (hn : w0.heap.size ≤ n0) (hg : w0.heap.size ≤ g) : Kept w0 W' :=
  ⟨k.os.trans h.os, k.tape.trans h.tape, k.output.trans h.output, Nat.le_trans h.size k.size, fun b hb => by
    have hlt : b < W.heap.size := Nat.lt_of_lt_of_le hb h.size
    have e := h.block b hb
    rw [← e, Array.getElem?_eq_getElem hlt]
    exact k.block b _ (Array.getElem?_eq_getElem hlt) (by omega) (.inl (by omega))⟩
theorem Blk.ck {b : Nat} {t : TypeId} {cs : List Value} (h : Blk W b t cs) (k : CK g n0 W W') (hne : b ≠ g) : Blk W' b t cs := by
  obtain ⟨fr, h, hf⟩ := h
  exact ⟨fr, k.block b _ h hne (.inr rfl), hf⟩
theorem cell_cells {w : World} {a : Addr} {v : Value} (h : w.cell? a = some v) : ∃ o : Obj, w.heap[a.block]? = some o ∧ o.isCells = true := by
  unfold World.cell? at h
  cases ho : w.heap[a.block]? with
  | none => simp [ho] at h
  | some o => exact ⟨o, rfl, by cases o <;> simp_all [Obj.isCells]⟩
theorem In.ck {S : Nat → Prop} {A : Option Addr} {vs : List Value} (h : In S W A vs) (k : CK g n0 W W') (hg : ¬ S g) : In S W' A vs := by
  rcases h with h | ⟨ad, hA, hb, hsp, hc⟩
  · exact .inl h
  · refine .inr ⟨ad, hA, hb, hsp, fun i v hv => ?_⟩
    have h1 := hc i v hv
    obtain ⟨o, ho, hoc⟩ := cell_cells h1
    have h2 := k.block _ o ho (by rw [block_add]; intro e; exact hg (e ▸ hb)) (.inr hoc)
    rw [World.cell?_of_block (w := W) (h2.trans ho.symm)]
    exact h1
theorem Byt.ck {S : Nat → Prop} {v : Value} {bs : List UInt8} (h : Byt S W v bs) (k : CK g n0 W W') (hg : ¬ S g) : Byt S W' v bs := by
  obtain ⟨A, c, rfl, h1, h2, h3⟩ := h; exact ⟨A, c, rfl, h1, h2, h3.ck k hg⟩
theorem Rws.ck {S : Nat → Prop} {v : Value} {l : List (List UInt8)} (h : Rws S W v l) (k : CK g n0 W W') (hg : ¬ S g) : Rws S W' v l := by
  obtain ⟨A, c, vs, rfl, h1, h2, h3, h4, h5⟩ := h; exact ⟨A, c, vs, rfl, h1, h2, h3, h4.ck k hg, fun i u b hu hb => (h5 i u b hu hb).ck k hg⟩
theorem Ints.ck {S : Nat → Prop} {v : Value} {l : List Int} (h : Ints S W v l) (k : CK g n0 W W') (hg : ¬ S g) : Ints S W' v l := by
  obtain ⟨A, c, rfl, h1, h2, h3⟩ := h; exact ⟨A, c, rfl, h1, h2, h3.ck k hg⟩
theorem Sts.ck {α : Type} {f : α → List Value} {S : Nat → Prop} {v : Value} {l : List α} (h : Sts f S W v l) (k : CK g n0 W W') (hg : ¬ S g) : Sts f S W' v l := by
  obtain ⟨A, c, rfl, h1, h2, h3⟩ := h; exact ⟨A, c, rfl, h1, h2, h3.ck k hg⟩
theorem Own.ck {lo : Nat} {v : Value} {t : TypeId} {sz : Nat} {xs : List Value} (h : Own lo W v t sz xs) (k : CK g n0 W W') (hg : g < lo) : Own lo W' v t sz xs := by
  rcases h with h | ⟨g', n, c, cs, h1, h2, h3, r⟩
  · exact .inl h
  · exact .inr ⟨g', n, c, cs, h1, h2, h3.ck k (by omega), r⟩
theorem Kept.nc (h : Kept W W') : KeepsOthers W W' := ⟨h.size, fun b o hb _ => (h.block b (Array.getElem?_eq_some_iff.1 hb).1).trans hb⟩
theorem But.nc {b : Nat} {t : TypeId} {cs : List Value} (h : But b W W') (hB : Blk W b t cs) : KeepsOthers W W' :=
  ⟨h.size, fun k o hk ho => by
    refine (h.block k (Array.getElem?_eq_some_iff.1 hk).1 ?_).trans hk
    intro e
    have e : k = b := by simpa using e
    subst e
    obtain ⟨fr, hB, _⟩ := hB
    rw [hB] at hk; cases hk; cases ho⟩
theorem ButV.nc {lo : Nat} {v : Value} {t : TypeId} {sz : Nat} {xs : List Value} (h : ButV v W W') (hO : Own lo W v t sz xs) : KeepsOthers W W' :=
  ⟨h.size, fun k o hk ho => by
    refine (h.block k (Array.getElem?_eq_some_iff.1 hk).1 ?_).trans hk
    intro e
    rcases hO with ⟨rfl, _⟩ | ⟨g', n, c, cs, rfl, h2, h3, _⟩
    · simp [Value.ownBlock] at e
    · have e : k = g' := by simpa [Value.ownBlock] using e
      subst e
      obtain ⟨fr, hB, _⟩ := h3
      rw [hB] at hk; cases hk; cases ho⟩
end

/-- What an iterator promises: it hands on these, in order; between two rounds its own block holds what it holds; what it needs besides (M) a round keeps. -/
def Iter (P : Program) {α : Type} (gf : FuncId) (lb : List Value) (enc : α → List Value) (xs : List α) (g : Nat) (t : TypeId) (cs0 : List Value) (cs : Nat → List Value) (M : World → Prop) : Prop :=
  ∀ (lr : Nat) (J : Nat → World → Prop) (Jx : World → Prop) (W : World), Blk W g t cs0 → M W →
    (∀ k A B, J k A → But g A B → J k B) →
    (∀ A B, Jx A → But g A B → Jx B) →
    (∀ k x A, xs[k]? = some x → J k A → Blk A g t (cs k) → M A →
      YieldAt (FW none) 0 P lr (enc x).toArray A fun e B => (e = .returned (.bool true) ∧ J (k + 1) B ∧ Blk B g t (cs k) ∧ M B) ∨ (e = .returned (.bool false) ∧ Jx B)) →
    J 0 W →
    CallsIn (FW none) 0 P gf (#[.func (.yield lr) #[] #[]] ++ lb.toArray) W (Ret fun _ B => J xs.length B ∨ Jx B)

def zipE : List Nat → List Value → Env → Env
  | p :: ps, v :: vs, l => zipE ps vs ((p, v) :: l)
  | _, _, l => l
theorem Has.zip {n : Nat} : ∀ (ps : List Nat) (vs : List Value) {l : Env} {tmps : Array Value}, ps.all (fun p => Nat.blt p n) = true → Has [] n l { tmps, defers := [] } →
    Has [] n (zipE ps vs l) { tmps := (ps.zip vs).foldl (fun t (q : Nat × Value) => t.setIfInBounds q.1 q.2) tmps, defers := [] } := by
  intro ps
  induction ps with
  | nil => intro vs l tmps _ h; exact h
  | cons p ps ih =>
    intro vs l tmps hp h
    cases vs with
    | nil => exact h
    | cons v vs =>
      simp only [List.all_cons, Bool.and_eq_true] at hp
      exact ih vs hp.2 (h.put p v hp.1)

/-- How a round's body may end. -/
def bq (nrm : World → Prop) (Ix : Code → World → Prop) : Exit → Act → World → Prop
  | .normal, _, W => nrm W
  | .ret, _, W => Ix .ret W
  | .exit id, _, W => Ix (.exit id) W
  | _, _, _ => False

theorem rgf {P : Program} {Q : Exit → Act → World → Prop} {ds : List Deferred} {n : Nat} {l : Env} {a : Act} {w : World} {α : Type}
    {gop : Operand} {ps : List Tmp} {assign body : Code} {gf : FuncId} {lb : List Value} {enc : α → List Value} {xs : List α} {g : Nat} {t : TypeId} {cs0 : List Value} {cs : Nat → List Value} {M : World → Prop}
    (hH : Has ds n l a) (hg : ev l gop = some (.func (.func gf) #[] lb.toArray)) (eg : ∀ (args : Array Value) (w : World), (callFunc gf args).run P w = .ok (.enter gf args) w) (hpn : ps.all (fun p => Nat.blt p n) = true)
    (hseq : Iter P gf lb enc xs g t cs0 cs M) (hB : Blk w g t cs0) (hM0 : M w) (hM : ∀ A B, M A → CK g w.heap.size A B → M B)
    (I : Nat → World → Prop) (Ix : Code → World → Prop) (hI : ∀ k A B, I k A → CK g w.heap.size A B → I k B) (hIx : ∀ c A B, Ix c A → CK g w.heap.size A B → Ix c B) (h0 : I 0 w) (hps : ∀ x, (enc x).length = ps.length)
    (round : ∀ (k : Nat) (x : α) (lr : Nat) (a0 : Act) (W : World), xs[k]? = some x → Has [] n (zipE ps (enc x) l) a0 →
      assign.wpIn (FW (some lr)) 0 P (Exit.then (fun a1 w1 => w1 = W ∧ ∀ W2, I k W2 → Blk W2 g t (cs k) → M W2 →
        body.wpIn (FW (some lr)) 0 P (bq (fun W' => KeepsOthers W2 W' ∧ I (k + 1) W' ∧ Blk W' g t (cs k) ∧ M W') (fun c W' => KeepsOthers W2 W' ∧ Ix c W')) a1 W2) (fun _ _ _ => False)) a0 W)
    (done : ∀ (D : Nat) (a' : Act) (W : World), w.heap.size ≤ D → W.heap[D]? = some (.deferred (some [])) → I xs.length W → Has ({ target := .collected D, args := #[] } :: ds) n l a' → Q .normal a' W)
    (stop : ∀ (D : Nat) (a' : Act) (c : Code) (W : World), w.heap.size ≤ D → W.heap[D]? = some (.deferred (some [])) → Ix c W → Has ({ target := .collected D, args := #[] } :: ds) n l a' → c.wpIn (FW none) 0 P Q a' W) :
    (Code.rangeFunc gop ps.toArray assign body).wpIn (FW none) 0 P Q a w := by
  refine wpIn_rangeFunc ?_
  intro fn hfn
  have hgl := hB.lt
  obtain ⟨rec, hrec⟩ : ∃ rec : LoopState → Option Code → Loop, rec = fun st pe => { state := st, pending := pe, fn, tmps := a.tmps, params := ps.toArray, assign, body, defers := w.heap.size } := ⟨_, rfl⟩
  obtain ⟨W1, hW1⟩ : ∃ W1, (w.alloc (.deferred (some []))).alloc (.loop (rec .ready none)) = W1 := ⟨_, rfl⟩
  have hL1 : W1.heap[w.heap.size + 1]? = some (.loop (rec .ready none)) := by
    rw [← hW1]; have := World.alloc_heap_new (w.alloc (.deferred (some []))) (.loop (rec .ready none)); rwa [World.size_alloc] at this
  have hK1 : W1.heap[w.heap.size]? = some (.deferred (some [])) := by
    rw [← hW1]; exact (Below.heap_alloc _ _ _ (by simp)).trans (World.alloc_heap_new w _)
  have hc1 : CK g w.heap.size w W1 := by rw [← hW1]; exact (CK.alloc _).trans (CK.alloc _)
  have hk1 : Kept w W1 := by
    rw [← hW1]; exact ((Kept.refl w).alloc _).alloc _
  have hmark : ∀ a', a' = { a with defers := [{ target := .collected w.heap.size, args := #[] }] ++ a.defers } → Has ({ target := .collected w.heap.size, args := #[] } :: ds) n l a' := fun a' e => by
    subst e; exact ⟨by rw [← hH.1]; rfl, hH.2.1, hH.2.2⟩
  refine ⟨w.heap.size + 1, [{ target := .collected w.heap.size, args := #[] }], W1, { target := .fn (.func gf) lb.toArray, args := #[.func (.yield (w.heap.size + 1)) #[] #[]] }, W1, gf,
    #[.func (.yield (w.heap.size + 1)) #[] #[]] ++ lb.toArray, W1, ?_, ?_, fun _ _ => trivial, ?_, fun h => by simp at h, ?_⟩
  · rw [← hW1, hrec]; exact run_enterLoop_outer _ _ _ _ _
  · simp only [resolve, hH.eval hg]
    simp [go_sem]
  · simp [invoke, go_sem, eg]
  · refine (hseq (w.heap.size + 1)
      (fun k W => I k W ∧ W.heap[w.heap.size + 1]? = some (.loop (rec .ready none)) ∧ W.heap[w.heap.size]? = some (.deferred (some [])))
      (fun W => ∃ c, Ix c W ∧ W.heap[w.heap.size + 1]? = some (.loop (rec .done (some c))) ∧ W.heap[w.heap.size]? = some (.deferred (some [])))
      W1 (hB.kept hk1) (hM _ _ hM0 hc1) ?_ ?_ ?_ ⟨hI _ _ _ h0 hc1, hL1, hK1⟩).mono ?_
    · rintro k A B ⟨h1, h2, h3⟩ hb
      exact ⟨hI _ _ _ h1 hb.ck, (hb.block _ (Array.getElem?_eq_some_iff.1 h2).1 (by simp; omega)).trans h2, (hb.block _ (Array.getElem?_eq_some_iff.1 h3).1 (by simp; omega)).trans h3⟩
    · rintro A B ⟨c, h1, h2, h3⟩ hb
      exact ⟨c, hIx _ _ _ h1 hb.ck, (hb.block _ (Array.getElem?_eq_some_iff.1 h2).1 (by simp; omega)).trans h2, (hb.block _ (Array.getElem?_eq_some_iff.1 h3).1 (by simp; omega)).trans h3⟩
    · rintro k x W hx ⟨hi, hl, hk⟩ hBW hMW
      have hlt : w.heap.size + 1 < W.heap.size := (Array.getElem?_eq_some_iff.1 hl).1
      have hy := run_yield (P := P) (args := (enc x).toArray) hl (by rw [hrec]; simpa using hps x)
      rw [hrec] at hy
      have hz := Has.zip (n := n) ps (enc x) (l := l) (tmps := a.tmps) hpn ⟨rfl, hH.2.1, hH.2.2⟩
      have hz' : ((ps.toArray.zip (enc x).toArray).foldl (fun (tmps : Array Value) (q : Tmp × Value) => tmps.setIfInBounds q.1 q.2) a.tmps) = ((ps.zip (enc x)).foldl (fun t (q : Nat × Value) => t.setIfInBounds q.1 q.2) a.tmps) := by
        simp
      have hr := round k x (w.heap.size + 1) _ W hx hz
      refine ⟨fn, _, assign, body, hy, roundIn_of_wpIn hfn ?_⟩
      have hgoal : ({ tmps := (ps.zip (enc x)).foldl (fun t (q : Nat × Value) => t.setIfInBounds q.1 q.2) a.tmps, defers := [] } : Act) =
          { tmps := (ps.toArray.zip (enc x).toArray).foldl (fun (tmps : Array Value) (q : Tmp × Value) => tmps.setIfInBounds q.1 q.2) a.tmps, defers := [] } := by rw [hz']
      rw [hgoal] at hr
      refine wpIn_mono hr ?_
      intro e a1 w1 hq
      cases e with
      | normal =>
        obtain ⟨rfl, hq⟩ := hq
        refine ⟨_, run_beginRound hl (by rw [hrec]), ?_⟩
        have hc2 : CK g w.heap.size w1 (w1.putObj (w.heap.size + 1) (.loop { rec .ready none with state := .busy })) := CK.putObj _ hl rfl (by omega)
        have hl2 : (w1.putObj (w.heap.size + 1) (.loop { rec .ready none with state := .busy })).heap[w.heap.size + 1]? = some (.loop { rec .ready none with state := .busy }) := World.putObj_heap_same hlt
        have hk2 : (w1.putObj (w.heap.size + 1) (.loop { rec .ready none with state := .busy })).heap[w.heap.size]? = some (.deferred (some [])) := (World.putObj_heap_other (by omega)).trans hk
        have hBk : ∀ {A : World} (o o' : Obj), A.heap[w.heap.size + 1]? = some o → Blk A g t (cs k) → Blk (A.putObj (w.heap.size + 1) o') g t (cs k) := fun o o' ho ⟨fr, h, hf⟩ =>
          ⟨fr, (World.putObj_heap_other (by omega)).trans h, hf⟩
        refine wpIn_mono (hq _ (hI _ _ _ hi hc2) (hBk _ _ hl hBW) (hM _ _ hMW hc2)) ?_
        have fin : ∀ (jump : Option Code) (W3 : World), KeepsOthers (w1.putObj (w.heap.size + 1) (.loop { rec .ready none with state := .busy })) W3 →
            (Instr.endRound (w.heap.size + 1) jump).run P W3 = .ok (.bool jump.isNone) (W3.putObj (w.heap.size + 1) (.loop (rec (if jump.isNone then .ready else .done) jump))) ∧
            W3.heap[w.heap.size + 1]? = some (.loop { rec .ready none with state := .busy }) ∧
            (W3.putObj (w.heap.size + 1) (.loop (rec (if jump.isNone then .ready else .done) jump))).heap[w.heap.size + 1]? = some (.loop (rec (if jump.isNone then .ready else .done) jump)) ∧
            (W3.putObj (w.heap.size + 1) (.loop (rec (if jump.isNone then .ready else .done) jump))).heap[w.heap.size]? = some (.deferred (some [])) := fun jump W3 hk3 => by
          have hl3 := hk3.same _ _ hl2 rfl
          have := run_endRound (P := P) jump hl3
          rw [hrec] at this ⊢
          exact ⟨this, by rw [hrec] at hl3; exact hl3, World.putObj_heap_same (Array.getElem?_eq_some_iff.1 hl3).1, (World.putObj_heap_other (by omega)).trans (hk3.same _ _ hk2 rfl)⟩
        rintro e a3 W3 hp
        cases e with
        | normal =>
          obtain ⟨hk3, hi3, hB3, hM3⟩ := hp
          obtain ⟨hr, hl3, hl4, hk4⟩ := fin none W3 hk3
          have hc3 : CK g w.heap.size W3 (W3.putObj (w.heap.size + 1) (.loop (rec (if (none : Option Code).isNone then .ready else .done) none))) := CK.putObj _ hl3 rfl (by omega)
          exact ⟨_, _, hr, .inl ⟨rfl, ⟨hI _ _ _ hi3 hc3, hl4, hk4⟩, hBk _ _ hl3 hB3, hM _ _ hM3 hc3⟩⟩
        | ret =>
          obtain ⟨hk3, hi3⟩ := hp
          obtain ⟨hr, hl3, hl4, hk4⟩ := fin (some .ret) W3 hk3
          exact ⟨_, _, hr, .inr ⟨rfl, .ret, hIx _ _ _ hi3 (CK.putObj _ hl3 rfl (by omega)), hl4, hk4⟩⟩
        | exit id =>
          obtain ⟨hk3, hi3⟩ := hp
          obtain ⟨hr, hl3, hl4, hk4⟩ := fin (some (.exit id)) W3 hk3
          exact ⟨_, _, hr, .inr ⟨rfl, .exit id, hIx _ _ _ hi3 (CK.putObj _ hl3 rfl (by omega)), hl4, hk4⟩⟩
        | goto t => exact hp.elim
        | panic ch => exact hp.elim
        | outgrown => exact hp.elim
      | ret => exact hq.elim
      | exit id => exact hq.elim
      | goto t => exact hq.elim
      | panic ch => exact hq.elim
      | outgrown => exact hq.elim
    · rintro e W2 ⟨v, rfl, (⟨hi, hl, hk⟩ | ⟨c, hi, hl, hk⟩)⟩
      · exact ⟨none, _, by have := run_endLoop (P := P) hl (by rw [hrec]; simp); rw [hrec] at this; exact this,
          done _ _ _ (Nat.le_refl _) ((World.putObj_heap_other (by omega)).trans hk) (hI _ _ _ hi (CK.putObj _ hl rfl (by omega))) (hmark _ rfl)⟩
      · exact ⟨some c, _, by have := run_endLoop (P := P) hl (by rw [hrec]; simp); rw [hrec] at this; exact this,
          stop _ _ _ _ (Nat.le_refl _) ((World.putObj_heap_other (by omega)).trans hk) (hIx _ _ _ hi (CK.putObj _ hl rfl (by omega))) (hmark _ rfl)⟩

section
variable {P : Program} {Y : List (Option Tmp)} {Q : Exit → Act → World → Prop} {rest : List Oper} {ds : List Deferred} {n : Nat} {l : Env} {a : Act} {w : World}
variable {T : TypeId} {p : String} {af : Array Edge} {d : Nat}
/-- A call of yield. -/
theorem yld (hH : Has ds n l a) {x : Operand} {lr : Nat} {xs : List Operand} {vs : List Value} {ts : Array TypeId} {R : Ending → World → Prop} (hx : ev l x = some (.func (.yield lr) #[] #[])) (hxs : evs l xs = some vs) (hd : Nat.blt d n = true)
    (hy : YieldAt (FW none) 0 P lr vs.toArray w R) (h : ∀ e w', R e w' → ∃ v, e = .returned v ∧ ∀ a', Has ds n ((d, v) :: l) a' → wpL P none Y Q rest a' w') :
    wpL P none Y Q (⟨some d, .call { callee := .value x, args := xs.toArray, argTypes := ts }, T, p, af, none⟩ :: rest) a w := fun ops ho =>
  wpListIn_plain rfl fun K hK => by
    obtain ⟨fn, tmps, assign, body, hy, hR⟩ := hy
    refine ⟨fun _ _ => trivial, ?_⟩
    have hr : (execOp a.eval ⟨some d, .call { callee := .value x, args := xs.toArray, argTypes := ts }, T, p, af, none⟩).run P w = .ok (.round lr fn tmps assign body) w := by
      have e := evs_eval hH hxs
      simp only [execOp, resolve, hH.eval hx]
      simp [Deferred.ofValue, invoke, e, hy]
    rw [semAt_of hr (by simp)]
    refine ⟨by simp, hR.mono fun e w' he => ?_⟩
    obtain ⟨v, rfl, hv⟩ := h e w' he
    exact hK _ _ (hv _ (hH.put d v hd) ops ho)
end

section
variable {P : Program} {ds : List Deferred} {n : Nat} {l : Env} {a : Act} {w : World}
/-- A function that holds a range over a function. -/
theorem enterM {f : FuncId} {fn : Func} {c : Code} {vs : List Value} {Φ : Value → World → Prop} (hf : P.funcs[f]? = some fn) (hb : fn.body = some c) (n : Nat) (hn : fn.ntmps = n) (hk : n = vs.length + (n - vs.length))
    (h : ∀ a, Has [] n (envOf 0 vs) a → c.wpIn (FW none) 0 P (bodyPostM (FW none) 0 P fn (Ret Φ)) a w) : C P f vs w Φ := by
  unfold C
  refine (callsIn_wide (n := 0)).1 (callsIn_of_wp_marks hf hb trivial (h _ ?_))
  have h1 := Has.start vs.toArray (n - vs.length) (envOf 0 vs) (fun i v hi => by
    have := (look_envOf vs 0 i v hi).2
    simpa using this)
  rw [hn]
  simp only [List.size_toArray] at h1 ⊢
  rwa [← hk] at h1
/-- An iterator's own function: it is called with yield. -/
theorem enterI {f : FuncId} {fn : Func} {c : Code} {vs : List Value} {R : Ending → World → Prop} (hf : P.funcs[f]? = some fn) (hb : fn.body = some c) (n : Nat) (hn : fn.ntmps = n) (hk : n = vs.length + (n - vs.length))
    (h : ∀ a, Has [] n (envOf 0 vs) a → c.wpIn (FW none) 0 P (bodyPost P fn R) a w) : CallsIn (FW none) 0 P f vs.toArray w R := by
  refine callsIn_of_wp hf hb trivial (h _ ?_)
  have h1 := Has.start vs.toArray (n - vs.length) (envOf 0 vs) (fun i v hi => by
    have := (look_envOf vs 0 i v hi).2
    simpa using this)
  rw [hn]
  simp only [List.size_toArray] at h1 ⊢
  rwa [← hk] at h1
/-- It leaves, with no mark yet. -/
theorem leave0 {F : Fence} {fn : Func} {R : Ending → World → Prop} (hH : Has [] n l a) {v : Value} (hr : (results fn a.tmps).run P w = .ok v w) (h : R (.returned v) w) : bodyPostM F 0 P fn R .ret a w := by
  show LeavesInM F 0 P fn a.tmps R a.defers .returning w
  rw [hH.1]
  exact ⟨v, hr, h⟩
/-- It leaves, with the mark. -/
theorem leaveM {F : Fence} {fn : Func} {R : Ending → World → Prop} {D : Nat} (hH : Has [{ target := .collected D, args := #[] }] n l a) (hD : w.heap[D]? = some (.deferred (some []))) {v : Value}
    (hr : (results fn a.tmps).run P (w.putObj D (.deferred none)) = .ok v (w.putObj D (.deferred none))) (h : R (.returned v) (w.putObj D (.deferred none))) : bodyPostM F 0 P fn R .ret a w := by
  show LeavesInM F 0 P fn a.tmps R a.defers .returning w
  rw [hH.1]
  exact ⟨by simp, .inl ⟨D, _, rfl, run_takeDeferred hD, v, hr, h⟩⟩
end
end Go.Proofs.Ytpgeogdmjgmimaa.K
