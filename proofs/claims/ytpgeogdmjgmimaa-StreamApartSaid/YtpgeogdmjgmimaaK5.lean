/-
  The walk's own small kit, fifth part: beginnings, tests that are known, loops.
-/
import Derived.Test.YtpgeogdmjgmimaaK4
set_option linter.unusedVariables false
set_option linter.unusedSimpArgs false
namespace Go.Proofs.Ytpgeogdmjgmimaa.K
open Go Go.RowKit

def envOf : Nat → List Value → Env
  | _, [] => []
  | i, v :: vs => (i, v) :: envOf (i + 1) vs
theorem look_envOf (vs : List Value) (i j : Nat) (v : Value) (h : look (envOf i vs) j = some v) : i ≤ j ∧ vs[j - i]? = some v := by
  induction vs generalizing i with
  | nil => cases h
  | cons u vs ih =>
    simp only [envOf, look_cons] at h
    split at h
    · rename_i e
      subst e
      exact ⟨Nat.le_refl _, by simpa using h⟩
    · rename_i e
      obtain ⟨h1, h2⟩ := ih (i + 1) h
      refine ⟨by omega, ?_⟩
      have : j - i = (j - (i + 1)) + 1 := by omega
      rw [this]
      simpa using h2

section
variable {P : Program} {ro : Option Nat} {Y : List (Option Tmp)} {Q : Exit → Act → World → Prop} {rest : List Oper} {ds : List Deferred} {n : Nat} {l : Env} {a : Act} {w : World}
variable {T : TypeId} {p : String} {af : Array Edge}

theorem enterE {f : FuncId} {fn : Func} {c : Code} {vs : List Value} {Φ : Value → World → Prop} (hf : P.funcs[f]? = some fn) (hb : fn.body = some c) (n : Nat) (hn : fn.ntmps = n) (hk : n = vs.length + (n - vs.length))
    (h : ∀ a, Has [] n (envOf 0 vs) a → c.wpIn (FW none) 0 P (bodyPost P fn (Ret Φ)) a w) : C P f vs w Φ := by
  unfold C
  refine calls_of_wp hf hb ((wpIn_wide (n := 0)).1 (h _ ?_))
  have h1 := Has.start vs.toArray (n - vs.length) (envOf 0 vs) (fun i v hi => by
    have := (look_envOf vs 0 i v hi).2
    simpa using this)
  rw [hn]
  simp only [List.size_toArray] at h1 ⊢
  rwa [← hk] at h1

theorem spl (hH : Has ds n l a) {d : Nat} {t : Bool} {G : Prop} (hl : look l d = some (.bool t)) (h1 : t = true → G) (h2 : t = false → G) : G := by
  cases t
  · exact h2 rfl
  · exact h1 rfl
theorem knownT (hH : Has ds n l a) {d : Nat} {t : Bool} {G : Prop} (hl : look l d = some (.bool t)) (h : t = true) (k : t = true → G) : G := k h
theorem knownF (hH : Has ds n l a) {d : Nat} {t : Bool} {G : Prop} (hl : look l d = some (.bool t)) (h : t = false) (k : t = false → G) : G := k h
theorem bnt {t : Bool} (h : t = true) : (!t) = false := by rw [h]; rfl
theorem bnf {t : Bool} (h : t = false) : (!t) = true := by rw [h]; rfl
theorem bunt {t : Bool} (h : (!t) = true) : t = false := by cases t <;> simp_all
theorem bunf {t : Bool} (h : (!t) = false) : t = true := by cases t <;> simp_all
theorem lke {j : Nat} {v v' : Value} (h : look l j = some v) (e : v = v') : look l j = some v' := by rw [h, e]

theorem goffn (hH : Has ds n l a) {op : Op} {j d : Nat} {b t : Bool} (hy : yd Y j = some d) (hl : look l d = some (.bool t)) (ht : t = !b)
    (h : ∀ a', Has ds n l a' → wpL P ro Y Q rest a' w) : wpL P ro Y Q (⟨none, op, T, p, af, some (j, b)⟩ :: rest) a w := by
  intro ops ho
  unfold wpListIn
  rw [if_neg (by rw [goff_wanted hH ho hy hl (.inl (by rw [ht]))]; decide)]
  exact ⟨fun _ _ => trivial, h _ hH ops ho⟩

theorem exists_min (p : Nat → Prop) : ∀ n, p n → ∃ m, p m ∧ ∀ k, p k → m ≤ k := by
  intro n
  induction n using Nat.strongRecOn with
  | ind n ih =>
    intro hn
    by_cases h : ∃ k, k < n ∧ p k
    · obtain ⟨k, hk, hp⟩ := h; exact ih k hk hp
    · exact ⟨n, hn, fun k hk => Nat.le_of_not_lt fun hlt => h ⟨k, hlt, hk⟩⟩

/-- A loop, its relation over a ghost, its measure the ghost's. -/
theorem lp {ι : Type} {c : Code} (I : ι → Act → World → Prop) (μ : ι → Nat) (i0 : ι) (h0 : I i0 a w)
    (step : ∀ i a w, I i a w → c.wpIn (FW ro) 0 P (Exit.then (fun a' w' => ∃ j, I j a' w' ∧ μ j < μ i) Q) a w) : (Code.loop c).wpIn (FW ro) 0 P Q a w := by
  classical
  have hmin : ∀ a w, (∃ i, I i a w) → ∃ m, (∃ i, I i a w ∧ μ i = m) ∧ ∀ k, (∃ i, I i a w ∧ μ i = k) → m ≤ k := fun a w ⟨i, hi⟩ => exists_min _ (μ i) ⟨i, hi, rfl⟩
  let M : Act → World → Nat := fun a w => if h : ∃ i, I i a w then Classical.choose (hmin a w h) else 0
  refine wpIn_loop (fun a w => ∃ i, I i a w) M ⟨i0, h0⟩ fun a' w' hex => ?_
  have hM : M a' w' = Classical.choose (hmin a' w' hex) := dif_pos hex
  obtain ⟨⟨j, hj, hjm⟩, -⟩ := Classical.choose_spec (hmin a' w' hex)
  refine wpIn_mono (step j a' w' hj) fun e a2 w2 hq => ?_
  cases e with
  | normal =>
    obtain ⟨k, hk, hlt⟩ := hq
    refine ⟨⟨k, hk⟩, ?_⟩
    have hM2 : M a2 w2 = Classical.choose (hmin a2 w2 ⟨k, hk⟩) := dif_pos ⟨k, hk⟩
    have hle := (Classical.choose_spec (hmin a2 w2 ⟨k, hk⟩)).2 (μ k) ⟨k, hk, rfl⟩
    show M a2 w2 < M a' w'
    rw [hM, hM2, ← hjm]
    exact Nat.lt_of_le_of_lt hle hlt
  | _ => exact hq
end
end Go.Proofs.Ytpgeogdmjgmimaa.K
