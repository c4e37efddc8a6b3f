/-
  The rows' own small kit: what a statement's argument holds, as the walks take it.
-/
import Derived.Test.YtpgeogdmjgmimaaKR
import Derived.Test.YtpgeogdmjgmimaaK13
import Derived.ChangeArms
import Derived.ChangeSlices
import Derived.WideShapes
set_option linter.unusedVariables false
set_option linter.unusedSimpArgs false
namespace Go.Proofs.Ytpgeogdmjgmimaa
open Go Go.RowKit Go.WideShapes Go.ChangeShapes K
section
variable {H : Type} {enc : TypeId × Value → H} {P : Program} {W : World} {base : Nat} {sp : Nat → Bool} {held : Bool}
/-- What reads at the type t are a value's cells, and the value is fine. -/
def Dec (enc : TypeId × Value → H) (P : Program) (W : World) (base : Nat) (sp : Nat → Bool) (held : Bool) {α : Type} (t : TypeId) (f : α → List Value) (ok : α → Prop) : Prop :=
  ∀ (fuel : Nat) (cs : List Value) (x : DataW H × List MemPlace), DataW.trod enc P W base sp held fuel t cs = some x → ∃ a, cs = f a ∧ ok a
theorem i64_cell {t : TypeId} (ht : P.underlying t = some (.int .i64)) {fuel : Nat} {cs : List Value} {x : DataW H × List MemPlace} (h : DataW.trod enc P W base sp held fuel t cs = some x) :
    ∃ n : Int, cs = [.int .i64 n] ∧ -9223372036854775808 ≤ n ∧ n ≤ 9223372036854775807 := by
  obtain ⟨n, e, _, hw⟩ := DataW.trod_int ht h
  exact ⟨n, e, i64_of hw⟩
theorem u8_cell {t : TypeId} (ht : P.underlying t = some (.int .u8)) {fuel : Nat} {cs : List Value} {x : DataW H × List MemPlace} (h : DataW.trod enc P W base sp held fuel t cs = some x) :
    ∃ b : UInt8, cs = [u8 b] := by
  obtain ⟨n, e, _, hw⟩ := DataW.trod_int ht h
  obtain ⟨b, rfl⟩ := u8_of hw
  exact ⟨b, e⟩
theorem str_cell {t : TypeId} (ht : P.underlying t = some .string) {fuel : Nat} {cs : List Value} {x : DataW H × List MemPlace} (h : DataW.trod enc P W base sp held fuel t cs = some x) :
    ∃ s : List UInt8, cs = [str s] := by
  obtain ⟨s, e, _, _⟩ := DataW.trod_string ht h
  exact ⟨s.data.toList, by rw [e]⟩
theorem take1 {cs : List Value} {o : Nat} {v : Value} (h : (cs.drop o).take 1 = [v]) : cs[o]? = some v := by
  have : ((cs.drop o).take 1)[0]? = some v := by rw [h]; rfl
  rw [List.getElem?_take, if_pos (by omega), List.getElem?_drop] at this
  simpa using this
theorem cells_get {a : Addr} {n : Nat} {cs : List Value} (h : W.cells? base a n = some cs) : cs.length = n ∧ ∀ i, i < n → W.cell? (a.add i) = cs[i]? := by
  unfold World.cells? at h
  split at h
  · refine ⟨by simpa using mapM_some_length h, fun i hi => ?_⟩
    have := mapM_some_get h i i (by simp [hi])
    exact this
  · cases h
theorem cell_block {a : Addr} {v : Value} (h : W.cell? a = some v) : a.block < W.heap.size ∧ a.spot = none := by
  unfold World.cell? at h
  split at h
  · rename_i c t fr hb
    refine ⟨(Array.getElem?_eq_some_iff.1 hb).1, ?_⟩
    cases hs : a.spot with
    | none => rfl
    | some s => rw [hs] at h; simp at h
  · cases h
/-- A slice whose elements are known by their cells. -/
theorem dec_sts {α : Type} {t e : TypeId} {f : α → List Value} {ok : α → Prop} {sz : Nat} (ht : P.underlying t = some (.slice e)) (hc : P.cellsOf e = sz) (hf : ∀ x, (f x).length = sz) (h0 : 0 < sz) (hE : ∀ (sp : Nat → Bool), Dec enc P W base sp held e f ok)
    {v : Value} {d : DataW H} {ps : List MemPlace} (h : DataW.Trod enc P W base sp held t v d ps) (hv : ∃ A n c, v = .slice A n c) : ∃ l : List α, Sts f (fun b => b < W.heap.size) W v l ∧ ∀ x ∈ l, ok x := by
  obtain ⟨A, n, c, rfl⟩ := hv
  obtain ⟨fuel, hf'⟩ := h
  rcases DataW.trod_slice ht (by simpa [Value.cells] using hf') with ⟨hcs, _⟩ | ⟨a, len, cap, elems, rest, m, _, hcs, _, _, hl, hm, hlen, hel, _, _⟩
  · simp at hcs
    obtain ⟨rfl, rfl, rfl⟩ := hcs
    exact ⟨[], Sts.nil _ _ _, by simp⟩
  · simp at hcs
    obtain ⟨rfl, rfl, rfl⟩ := hcs
    have hx : ∀ i, i < n → ∃ x : α, (∀ j, j < sz → W.cell? ((a.add (i * sz)).add j) = (f x)[j]?) ∧ ok x := by
      intro i hi
      have h1 := hel i hi
      rw [List.getElem?_eq_getElem (by omega)] at h1
      rw [Option.bind_eq_some_iff] at h1
      obtain ⟨cs, hcs, htr⟩ := h1
      obtain ⟨x, hx, hok⟩ := hE sp m cs _ htr
      subst hx
      have := (cells_get hcs).2
      rw [hc] at this
      exact ⟨x, this, hok⟩
    obtain ⟨l, hl1, hl2⟩ : ∃ l : List α, l.length = n ∧ ∀ i x, l[i]? = some x → (∀ j, j < sz → W.cell? ((a.add (i * sz)).add j) = (f x)[j]?) ∧ ok x := by
      have gen : ∀ m, m ≤ n → ∃ l : List α, l.length = m ∧ ∀ i x, l[i]? = some x → (∀ j, j < sz → W.cell? ((a.add (i * sz)).add j) = (f x)[j]?) ∧ ok x := by
       intro m
       induction m with
       | zero => intro _; exact ⟨[], rfl, by simp⟩
       | succ m ih =>
        intro hm'
        obtain ⟨l, h1, h2⟩ := ih (by omega)
        obtain ⟨x, h3⟩ := hx m (by omega)
        refine ⟨l ++ [x], by simp [h1], fun i y hy => ?_⟩
        by_cases hi : i < l.length
        · rw [List.getElem?_append_left hi] at hy; exact h2 i y hy
        · rw [List.getElem?_append_right (by omega)] at hy
          have hi2 : i = m := by
            have := (List.getElem?_eq_some_iff.1 hy).1
            simp at this; omega
          subst hi2
          rw [h1, Nat.sub_self] at hy
          simp at hy
          subst hy
          exact h3
      exact gen n (Nat.le_refl _)
    refine ⟨l, ⟨some a, c, by rw [hl1], by omega, Nat.le_trans hm (by decide), ?_⟩, fun x hx => ?_⟩
    · by_cases hn : n = 0
      · left; subst hn
        have : l = [] := List.eq_nil_of_length_eq_zero hl1
        rw [this]; rfl
      · obtain ⟨x0, hx0⟩ : ∃ x, l[0]? = some x := ⟨_, List.getElem?_eq_getElem (by omega)⟩
        have hb : a.block < W.heap.size ∧ a.spot = none := by
          have h1 := (hl2 0 x0 hx0).1 0 h0
          rw [List.getElem?_eq_getElem (by rw [hf]; exact h0)] at h1
          have e0 : (a.add (0 * sz)).add 0 = a := by rw [add_add']; simp [Addr.add]
          rw [e0] at h1
          exact cell_block h1
        refine .inr ⟨a, rfl, hb.1, hb.2, fun i u hu => ?_⟩
        have hi : i < l.length * sz := by
          have := (List.getElem?_eq_some_iff.1 hu).1
          rw [flatMap_len f sz hf] at this; exact this
        have hq : i / sz < l.length := Nat.div_lt_of_lt_mul (by rw [Nat.mul_comm]; exact hi)
        obtain ⟨x, hx⟩ : ∃ x, l[i / sz]? = some x := ⟨_, List.getElem?_eq_getElem hq⟩
        have hr : i % sz < sz := Nat.mod_lt _ h0
        have e1 : i / sz * sz + i % sz = i := by rw [Nat.mul_comm]; exact Nat.div_add_mod i sz
        have h1 := flatMap_get f sz hf l (i / sz) (i % sz) x hx hr
        rw [e1, hu] at h1
        rw [← e1, ← add_add', (hl2 _ x hx).1 _ hr, ← h1]
    · obtain ⟨i, hi⟩ := List.mem_iff_getElem?.1 hx
      exact (hl2 i x hi).2
/-- A slice of bytes. -/
theorem dec_byt {t e : TypeId} (ht : P.underlying t = some (.slice e)) (he : P.underlying e = some (.int .u8)) (hc : P.cellsOf e = 1) {v : Value} {d : DataW H} {ps : List MemPlace} (h : DataW.Trod enc P W base sp held t v d ps) (hv : ∃ A n c, v = .slice A n c) :
    ∃ b : List UInt8, Byt (fun b => b < W.heap.size) W v b := by
  obtain ⟨l, hl, _⟩ := dec_sts (f := fun b : UInt8 => [u8 b]) (ok := fun _ => True) ht hc (fun _ => rfl) (by decide) (fun sp' fuel cs x h => by obtain ⟨b, e⟩ := u8_cell he h; exact ⟨b, e, trivial⟩) h hv
  obtain ⟨A, c, e1, h1, h2, h3⟩ := hl
  refine ⟨l, A, c, e1, h1, h2, ?_⟩
  have : ∀ l : List UInt8, l.flatMap (fun b : UInt8 => [u8 b]) = l.map u8 := fun l => by
    induction l with
    | nil => rfl
    | cons b l ih => rw [List.flatMap_cons, ih]; rfl
  rw [this] at h3
  exact h3
/-- A slice of slices of bytes. -/
theorem dec_rws {t q e : TypeId} (ht : P.underlying t = some (.slice q)) (hq : P.underlying q = some (.slice e)) (he : P.underlying e = some (.int .u8)) (hc : P.cellsOf e = 1) (hc2 : P.cellsOf q = 1) {v : Value} {d : DataW H} {ps : List MemPlace} (h : DataW.Trod enc P W base sp held t v d ps) (hv : ∃ A n c, v = .slice A n c) :
    ∃ l : List (List UInt8), Rws (fun b => b < W.heap.size) W v l := by
  have hE : ∀ (sp' : Nat → Bool), Dec enc P W base sp' held q (fun u : Value => [u]) (fun u => ∃ b, Byt (fun b => b < W.heap.size) W u b) := fun sp' fuel cs x h => by
    rcases DataW.trod_slice hq h with ⟨hcs, _⟩ | ⟨a, len, cap, _, _, _, _, hcs, _⟩
    · exact ⟨_, hcs, [], Byt.nil _ _⟩
    · refine ⟨_, hcs, ?_⟩
      subst hcs
      exact dec_byt (sp := sp') hq he hc (d := x.1) (ps := x.2) ⟨fuel, by simpa [Value.cells] using h⟩ ⟨_, _, _, rfl⟩
  obtain ⟨l, hl, hok⟩ := dec_sts (f := fun u : Value => [u]) ht hc2 (fun _ => rfl) (by decide) hE h hv
  obtain ⟨A, c, e1, h1, h2, h3⟩ := hl
  obtain ⟨L, hL1, hL2⟩ : ∃ L : List (List UInt8), L.length = l.length ∧ ∀ (i : Nat) (u : Value) (b : List UInt8), l[i]? = some u → L[i]? = some b → Byt (fun b => b < W.heap.size) W u b := by
    clear e1 h1 h2 h3
    induction l with
    | nil => exact ⟨[], rfl, by simp⟩
    | cons u l ih =>
      obtain ⟨L, g1, g2⟩ := ih (fun x hx => hok x (List.mem_cons_of_mem _ hx))
      obtain ⟨b, hb⟩ := hok u (List.mem_cons_self ..)
      refine ⟨b :: L, by simp [g1], fun i u' b' hu hb' => ?_⟩
      cases i with
      | zero => simp at hu hb'; subst hu hb'; exact hb
      | succ i => simp at hu hb'; exact g2 i u' b' hu hb'
  have e2 : ∀ l : List Value, l.flatMap (fun u : Value => [u]) = l := fun l => by
    induction l with
    | nil => rfl
    | cons b l ih => rw [List.flatMap_cons, ih]; rfl
  rw [e2] at h3
  exact ⟨L, A, c, l, by rw [hL1]; exact e1, by omega, h2, hL1.symm, h3, hL2⟩
end
end Go.Proofs.Ytpgeogdmjgmimaa
