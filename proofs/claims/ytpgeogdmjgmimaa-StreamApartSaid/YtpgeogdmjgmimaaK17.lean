/-
  The walk's own small kit, seventeenth part: ranges over functions that hand on what they have made.
-/
import Derived.Test.YtpgeogdmjgmimaaK16
import Derived.RangeFuncFrom
set_option linter.unusedVariables false
set_option linter.unusedSimpArgs false
namespace Go.Proofs.Ytpgeogdmjgmimaa.K
open Go Go.RowKit

/-- A function that is ranged over: it hands on, for each of xs, values of which En tells what they hold; what they hold is newer than the round. -/
def Iter2 (P : Program) {α : Type} (gf : FuncId) (lb : List Value) (En : α → List Value → Nat → World → Prop) (xs : List α) (g : Nat) (t : TypeId) (cs0 : List Value) (cs : Nat → List Value) (M : World → Prop) : Prop :=
  ∀ (lr : Nat) (J : Nat → World → Prop) (Jx : World → Prop) (W : World), Blk W g t cs0 → M W →
    (∀ k A B, J k A → But g A B → J k B) →
    (∀ A B, Jx A → But g A B → Jx B) →
    (∀ k x vs A0 A, xs[k]? = some x → J k A0 → But g A0 A → En x vs A0.heap.size A → Blk A g t (cs k) → M A →
      YieldAt (FW none) 0 P lr vs.toArray A fun e B => (e = .returned (.bool true) ∧ J (k + 1) B ∧ Blk B g t (cs k) ∧ M B) ∨ (e = .returned (.bool false) ∧ Jx B)) →
    J 0 W →
    CallsIn (FW none) 0 P gf (#[.func (.yield lr) #[] #[]] ++ lb.toArray) W (Ret fun _ B => J xs.length B ∨ Jx B)

theorem rgf2 {P : Program} {Q : Exit → Act → World → Prop} {ds : List Deferred} {n : Nat} {l : Env} {a : Act} {w : World} {α : Type}
    {gop : Operand} {ps : List Tmp} {assign body : Code} {gf : FuncId} {lb : List Value} {En : α → List Value → Nat → World → Prop} {xs : List α} {g : Nat} {t : TypeId} {cs0 : List Value} {cs : Nat → List Value} {M : World → Prop}
    (hH : Has ds n l a) (hg : ev l gop = some (.func (.func gf) #[] lb.toArray)) (eg : ∀ (args : Array Value) (w : World), (callFunc gf args).run P w = .ok (.enter gf args) w) (hpn : ps.all (fun p => Nat.blt p n) = true)
    (hseq : Iter2 P gf lb En xs g t cs0 cs M) (hB : Blk w g t cs0) (hM0 : M w) (hM : ∀ A B, M A → CK g w.heap.size A B → M B)
    (I : Nat → World → Prop) (Ix : Code → World → Prop) (hI : ∀ k A B, I k A → CK g w.heap.size A B → I k B) (hIx : ∀ c A B, Ix c A → CK g w.heap.size A B → Ix c B) (h0 : I 0 w) (hps : ∀ x vs s A, En x vs s A → vs.length = ps.length) (hEc : ∀ x vs s A B, En x vs s A → CK g w.heap.size A B → En x vs s B)
    (round : ∀ (k : Nat) (x : α) (vs : List Value) (lr : Nat) (a0 : Act) (W : World), xs[k]? = some x → (∃ s, En x vs s W) → Has [] n (zipE ps vs l) a0 →
      assign.wpIn (FW (some lr)) 0 P (Exit.then (fun a1 w1 => w1 = W ∧ ∀ W2 W0, I k W0 → CK g w.heap.size W0 W2 → En x vs W0.heap.size W2 → Blk W2 g t (cs k) → M W2 →
        body.wpIn (FW (some lr)) 0 P (bq (fun W' => KeepsOthers W2 W' ∧ I (k + 1) W' ∧ Blk W' g t (cs k) ∧ M W') (fun c W' => KeepsOthers W2 W' ∧ Ix c W')) a1 W2) (fun _ _ _ => False)) a0 W)
    (done : ∀ (D : Nat) (a' : Act) (W : World), w.heap.size ≤ D → W.heap[D]? = some (.deferred (some [])) → I xs.length W → Has ({ target := .collected D, args := #[] } :: ds) n l a' → Q .normal a' W)
    (stop : ∀ (D : Nat) (a' : Act) (c : Code) (W : World), w.heap.size ≤ D → W.heap[D]? = some (.deferred (some [])) → Ix c W → Has ({ target := .collected D, args := #[] } :: ds) n l a' → c.wpIn (FW none) 0 P Q a' W) :
    (Code.rangeFunc gop ps.toArray assign body).wpIn (FW none) 0 P Q a w := by
  refine wpIn_rangeFunc ?_
  intro fn hfn
  have hgl := hB.lt
  obtain ⟨rec, hrec⟩ : ∃ rec : LoopState → Option Code → Loop, rec = fun st pe => { state := st, pending := pe, fn, tmps := a.tmps, params := ps.toArray, assign, body, defers := w.heap.size } := ⟨_, rfl⟩
  obtain ⟨W1, hW1⟩ : ∃ W1, (w.alloc (.deferred (some []))).alloc (.loop (rec .ready none)) = W1 := ⟨_, rfl⟩
  have hL1 : W1.heap[w.heap.size + 1]? = some (.loop (rec .ready none)) := by
    rw [← hW1]; have := World.alloc_heap_new (w.alloc (.deferred (some []))) (.loop (rec .ready none)); rwa [World.size_alloc] at this
  have hK1 : W1.heap[w.heap.size]? = some (.deferred (some [])) := by
    rw [← hW1]; exact (Below.heap_alloc _ _ _ (by simp)).trans (World.alloc_heap_new w _)
  have hc1 : CK g w.heap.size w W1 := by rw [← hW1]; exact (CK.alloc _).trans (CK.alloc _)
  have hk1 : Kept w W1 := by
    rw [← hW1]; exact ((Kept.refl w).alloc _).alloc _
  have hmark : ∀ a', a' = { a with defers := [{ target := .collected w.heap.size, args := #[] }] ++ a.defers } → Has ({ target := .collected w.heap.size, args := #[] } :: ds) n l a' := fun a' e => by
    subst e; exact ⟨by rw [← hH.1]; rfl, hH.2.1, hH.2.2⟩
  refine ⟨w.heap.size + 1, [{ target := .collected w.heap.size, args := #[] }], W1, { target := .fn (.func gf) lb.toArray, args := #[.func (.yield (w.heap.size + 1)) #[] #[]] }, W1, gf,
    #[.func (.yield (w.heap.size + 1)) #[] #[]] ++ lb.toArray, W1, ?_, ?_, fun _ _ => trivial, ?_, fun h => by simp at h, ?_⟩
  · rw [← hW1, hrec]; exact run_enterLoop_outer _ _ _ _ _
  · simp only [resolve, hH.eval hg]
    simp [go_sem]
  · simp [invoke, go_sem, eg]
  · refine (hseq (w.heap.size + 1)
      (fun k W => I k W ∧ W.heap[w.heap.size + 1]? = some (.loop (rec .ready none)) ∧ W.heap[w.heap.size]? = some (.deferred (some [])))
      (fun W => ∃ c, Ix c W ∧ W.heap[w.heap.size + 1]? = some (.loop (rec .done (some c))) ∧ W.heap[w.heap.size]? = some (.deferred (some [])))
      W1 (hB.kept hk1) (hM _ _ hM0 hc1) ?_ ?_ ?_ ⟨hI _ _ _ h0 hc1, hL1, hK1⟩).mono ?_
    · rintro k A B ⟨h1, h2, h3⟩ hb
      exact ⟨hI _ _ _ h1 hb.ck, (hb.block _ (Array.getElem?_eq_some_iff.1 h2).1 (by simp; omega)).trans h2, (hb.block _ (Array.getElem?_eq_some_iff.1 h3).1 (by simp; omega)).trans h3⟩
    · rintro A B ⟨c, h1, h2, h3⟩ hb
      exact ⟨c, hIx _ _ _ h1 hb.ck, (hb.block _ (Array.getElem?_eq_some_iff.1 h2).1 (by simp; omega)).trans h2, (hb.block _ (Array.getElem?_eq_some_iff.1 h3).1 (by simp; omega)).trans h3⟩
    · rintro k x vs W00 W hx ⟨hi, hl0, hk0⟩ hbut hE hBW hMW
      have hl := (hbut.block _ (Array.getElem?_eq_some_iff.1 hl0).1 (by simp; omega)).trans hl0
      have hk := (hbut.block _ (Array.getElem?_eq_some_iff.1 hk0).1 (by simp; omega)).trans hk0
      have hlt : w.heap.size + 1 < W.heap.size := (Array.getElem?_eq_some_iff.1 hl).1
      have hy := run_yield (P := P) (args := vs.toArray) hl (by rw [hrec]; simpa using hps x vs _ _ hE)
      rw [hrec] at hy
      have hz := Has.zip (n := n) ps vs (l := l) (tmps := a.tmps) hpn ⟨rfl, hH.2.1, hH.2.2⟩
      have hz' : ((ps.toArray.zip vs.toArray).foldl (fun (tmps : Array Value) (q : Tmp × Value) => tmps.setIfInBounds q.1 q.2) a.tmps) = ((ps.zip vs).foldl (fun t (q : Nat × Value) => t.setIfInBounds q.1 q.2) a.tmps) := by
        simp
      have hr := round k x vs (w.heap.size + 1) _ W hx ⟨_, hE⟩ hz
      refine ⟨fn, _, assign, body, hy, roundIn_of_wpIn hfn ?_⟩
      have hgoal : ({ tmps := (ps.zip vs).foldl (fun t (q : Nat × Value) => t.setIfInBounds q.1 q.2) a.tmps, defers := [] } : Act) =
          { tmps := (ps.toArray.zip vs.toArray).foldl (fun (tmps : Array Value) (q : Tmp × Value) => tmps.setIfInBounds q.1 q.2) a.tmps, defers := [] } := by rw [hz']
      rw [hgoal] at hr
      refine wpIn_mono hr ?_
      intro e a1 w1 hq
      cases e with
      | normal =>
        obtain ⟨rfl, hq⟩ := hq
        refine ⟨_, run_beginRound hl (by rw [hrec]), ?_⟩
        have hc2 : CK g w.heap.size w1 (w1.putObj (w.heap.size + 1) (.loop { rec .ready none with state := .busy })) := CK.putObj _ hl rfl (by omega)
        have hl2 : (w1.putObj (w.heap.size + 1) (.loop { rec .ready none with state := .busy })).heap[w.heap.size + 1]? = some (.loop { rec .ready none with state := .busy }) := World.putObj_heap_same hlt
        have hk2 : (w1.putObj (w.heap.size + 1) (.loop { rec .ready none with state := .busy })).heap[w.heap.size]? = some (.deferred (some [])) := (World.putObj_heap_other (by omega)).trans hk
        have hBk : ∀ {A : World} (o o' : Obj), A.heap[w.heap.size + 1]? = some o → Blk A g t (cs k) → Blk (A.putObj (w.heap.size + 1) o') g t (cs k) := fun o o' ho ⟨fr, h, hf⟩ =>
          ⟨fr, (World.putObj_heap_other (by omega)).trans h, hf⟩
        refine wpIn_mono (hq _ W00 hi (hbut.ck.trans hc2) (hEc _ _ _ _ _ hE hc2) (hBk _ _ hl hBW) (hM _ _ hMW hc2)) ?_
        have fin : ∀ (jump : Option Code) (W3 : World), KeepsOthers (w1.putObj (w.heap.size + 1) (.loop { rec .ready none with state := .busy })) W3 →
            (Instr.endRound (w.heap.size + 1) jump).run P W3 = .ok (.bool jump.isNone) (W3.putObj (w.heap.size + 1) (.loop (rec (if jump.isNone then .ready else .done) jump))) ∧
            W3.heap[w.heap.size + 1]? = some (.loop { rec .ready none with state := .busy }) ∧
            (W3.putObj (w.heap.size + 1) (.loop (rec (if jump.isNone then .ready else .done) jump))).heap[w.heap.size + 1]? = some (.loop (rec (if jump.isNone then .ready else .done) jump)) ∧
            (W3.putObj (w.heap.size + 1) (.loop (rec (if jump.isNone then .ready else .done) jump))).heap[w.heap.size]? = some (.deferred (some [])) := fun jump W3 hk3 => by
          have hl3 := hk3.same _ _ hl2 rfl
          have := run_endRound (P := P) jump hl3
          rw [hrec] at this ⊢
          exact ⟨this, by rw [hrec] at hl3; exact hl3, World.putObj_heap_same (Array.getElem?_eq_some_iff.1 hl3).1, (World.putObj_heap_other (by omega)).trans (hk3.same _ _ hk2 rfl)⟩
        rintro e a3 W3 hp
        cases e with
        | normal =>
          obtain ⟨hk3, hi3, hB3, hM3⟩ := hp
          obtain ⟨hr, hl3, hl4, hk4⟩ := fin none W3 hk3
          have hc3 : CK g w.heap.size W3 (W3.putObj (w.heap.size + 1) (.loop (rec (if (none : Option Code).isNone then .ready else .done) none))) := CK.putObj _ hl3 rfl (by omega)
          exact ⟨_, _, hr, .inl ⟨rfl, ⟨hI _ _ _ hi3 hc3, hl4, hk4⟩, hBk _ _ hl3 hB3, hM _ _ hM3 hc3⟩⟩
        | ret =>
          obtain ⟨hk3, hi3⟩ := hp
          obtain ⟨hr, hl3, hl4, hk4⟩ := fin (some .ret) W3 hk3
          exact ⟨_, _, hr, .inr ⟨rfl, .ret, hIx _ _ _ hi3 (CK.putObj _ hl3 rfl (by omega)), hl4, hk4⟩⟩
        | exit id =>
          obtain ⟨hk3, hi3⟩ := hp
          obtain ⟨hr, hl3, hl4, hk4⟩ := fin (some (.exit id)) W3 hk3
          exact ⟨_, _, hr, .inr ⟨rfl, .exit id, hIx _ _ _ hi3 (CK.putObj _ hl3 rfl (by omega)), hl4, hk4⟩⟩
        | goto t => exact hp.elim
        | panic ch => exact hp.elim
        | outgrown => exact hp.elim
      | ret => exact hq.elim
      | exit id => exact hq.elim
      | goto t => exact hq.elim
      | panic ch => exact hq.elim
      | outgrown => exact hq.elim
    · rintro e W2 ⟨v, rfl, (⟨hi, hl, hk⟩ | ⟨c, hi, hl, hk⟩)⟩
      · exact ⟨none, _, by have := run_endLoop (P := P) hl (by rw [hrec]; simp); rw [hrec] at this; exact this,
          done _ _ _ (Nat.le_refl _) ((World.putObj_heap_other (by omega)).trans hk) (hI _ _ _ hi (CK.putObj _ hl rfl (by omega))) (hmark _ rfl)⟩
      · exact ⟨some c, _, by have := run_endLoop (P := P) hl (by rw [hrec]; simp); rw [hrec] at this; exact this,
          stop _ _ _ _ (Nat.le_refl _) ((World.putObj_heap_other (by omega)).trans hk) (hIx _ _ _ hi (CK.putObj _ hl rfl (by omega))) (hmark _ rfl)⟩

theorem But.other {g g' : Nat} {w0 w w' : World} (h : But g w0 w) (k : But g' w w') (hg : w0.heap.size ≤ g') : But g w0 w' :=
  ⟨k.os.trans h.os, k.tape.trans h.tape, k.output.trans h.output, Nat.le_trans h.size k.size, fun i hi hne => (k.block i (Nat.lt_of_lt_of_le hi h.size) (by intro e; cases e; omega)).trans (h.block i hi hne)⟩
theorem Own.blt {lo : Nat} {w : World} {v : Value} {t : TypeId} {sz : Nat} {xs : List Value} (h : Own lo w v t sz xs) : ∀ b, some b = v.ownBlock → b < w.heap.size := by
  intro b hb
  rcases h with ⟨rfl, _⟩ | ⟨g, n, c, cs, rfl, _, hB, _⟩
  · simp [Value.ownBlock] at hb
  · have : b = g := by simpa [Value.ownBlock] using hb
    subst this; exact hB.lt
end Go.Proofs.Ytpgeogdmjgmimaa.K
