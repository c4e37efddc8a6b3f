/-
  The walk's own small kit, sixteenth part: maps that a call makes; structs compared; interfaces and panics.
-/
import Derived.Test.YtpgeogdmjgmimaaK14
import Derived.Test.YtpgeogdmjgmimaaK15
import Derived.MapKept
import Derived.Laws.StructEq
set_option linter.unusedVariables false
set_option linter.unusedSimpArgs false
namespace Go.Proofs.Ytpgeogdmjgmimaa.K
open Go Go.RowKit Go.MapKept

/-- Block b is a map: at a key k the element f k. -/
def Mp (d : TypeDesc) (f : Value → Option Value) (w : World) (b : Nat) : Prop :=
  ∃ es clock, w.heap[b]? = some (.map es clock) ∧ (∀ x ∈ es.toList, IsKey d x.key) ∧ (es.toList.map (·.key)).Nodup ∧ (∀ x ∈ es.toList, f x.key = some x.val) ∧ (∀ k, f k ≠ none → ∃ x ∈ es.toList, x.key = k)
open Classical in
noncomputable def upd (f : Value → Option Value) (k v : Value) : Value → Option Value := fun q => if q = k then some v else f q
theorem upd_same (f : Value → Option Value) (k v : Value) : upd f k v k = some v := by simp [upd]
theorem upd_ne (f : Value → Option Value) {k q : Value} (v : Value) (h : q ≠ k) : upd f k v q = f q := by simp [upd, h]
section
variable {w w' : World} {b g : Nat} {D : TypeDesc} {f : Value → Option Value}
theorem Mp.lt (h : Mp D f w b) : b < w.heap.size := by
  obtain ⟨es, c, hb, _⟩ := h
  exact (Array.getElem?_eq_some_iff.1 hb).1
theorem Mp.kept (h : Mp D f w b) (hk : Kept w w') : Mp D f w' b := by
  have hl := h.lt
  obtain ⟨es, c, hb, r⟩ := h
  exact ⟨es, c, (hk.block b hl).trans hb, r⟩
theorem Mp.but (h : Mp D f w b) (hk : But g w w') (hne : b ≠ g) : Mp D f w' b := by
  have hl := h.lt
  obtain ⟨es, c, hb, r⟩ := h
  exact ⟨es, c, (hk.block b hl (by intro e; cases e; exact hne rfl)).trans hb, r⟩
theorem Mp.butV {x : Value} (h : Mp D f w b) (hk : ButV x w w') (hne : some b ≠ x.ownBlock) : Mp D f w' b := by
  have hl := h.lt
  obtain ⟨es, c, hb, r⟩ := h
  exact ⟨es, c, (hk.block b hl hne).trans hb, r⟩
theorem sameBits_key {k : Value} (hk : IsKey D k) (m : Nat) : Instr.sameBits m k k = true := by
  cases D <;> cases k <;> simp_all [IsKey, Instr.sameBits]
  all_goals first | (rw [bytes_beq]) | skip
theorem Mp.find (h : Mp D f w b) {k : Value} (hk : IsKey D k) : ∃ es clock, w.heap[b]? = some (.map es clock) ∧
    ((Instr.findNow D k es.toList 0 = some none ∧ f k = none) ∨ ∃ j e, Instr.findNow D k es.toList 0 = some (some (j, e.val)) ∧ es[j]? = some e ∧ e.key = k ∧ f k = some e.val) := by
  obtain ⟨es, c, hb, h1, h2, h3, h4⟩ := h
  refine ⟨es, c, hb, ?_⟩
  rcases findNow_spec hk es.toList 0 h1 with ⟨e1, e2⟩ | ⟨j, e, e1, e2, e3⟩
  · refine .inl ⟨e1, ?_⟩
    cases hf : f k with
    | none => rfl
    | some v =>
      obtain ⟨x, hx, he⟩ := h4 k (by rw [hf]; simp)
      exact absurd he (e2 x hx)
  · refine .inr ⟨j, e, by rw [e1, Nat.zero_add], by simpa using e2, e3, ?_⟩
    rw [← e3]
    exact h3 e (List.mem_of_getElem? e2)
theorem Mp.run_lookup {P : Program} {t kt et : TypeId} {z : Value} (h : Mp D f w b) {k : Value} (hk : IsKey D k) (hu : P.underlying t = some (.map kt et)) (hkt : P.underlying kt = some D) (hz : ∀ w, (zeroValue et).run P w = .ok z w) (c : Bool) :
    (Instr.lookup t (.map (some b)) k c).run P w = .ok (if c then .tuple #[(f k).getD z, .bool (f k).isSome] else (f k).getD z) w := by
  obtain ⟨es, cl, hb, hf⟩ := h.find hk
  rcases hf with ⟨e1, e2⟩ | ⟨j, e, e1, _, _, e2⟩
  · cases c <;> simp [Instr.lookup, run_underlying hu, MapKept.run_getObj_map hb, run_checkKey hkt hk, run_findKey hkt e1, hz, e2, Result.andThen]
  · cases c <;> simp [Instr.lookup, run_underlying hu, MapKept.run_getObj_map hb, run_checkKey hkt hk, run_findKey hkt e1, e2, Result.andThen]
theorem Mp.run_update {P : Program} {t kt et : TypeId} (h : Mp D f w b) {k v : Value} (hk : IsKey D k) (hu : P.underlying t = some (.map kt et)) (hkt : P.underlying kt = some D) :
    ∃ w', (Instr.mapUpdate t (.map (some b)) k v).run P w = .ok () w' ∧ Mp D (upd f k v) w' b ∧ But b w w' := by
  have h' := h
  obtain ⟨es, cl, hb, h1, h2, h3, h4⟩ := h'
  have hlt := h.lt
  have hbut : ∀ es' c', But b w { w with heap := w.heap.setIfInBounds b (.map es' c') } := fun es' c' =>
    ⟨rfl, rfl, rfl, by simp, fun i _ hi => by
      have : i ≠ b := fun e => hi (by rw [e])
      exact (heap_set (o' := .map es' c') hb).2 i this⟩
  rcases findNow_spec hk es.toList 0 h1 with ⟨e1, e2⟩ | ⟨j, e, e1, e2, e3⟩
  · refine ⟨{ w with heap := w.heap.setIfInBounds b (.map (es.push { key := k, val := v, born := cl }) (cl + 1)) }, ?_, ⟨_, _, (heap_set hb).1, ?_, ?_, ?_, ?_⟩, hbut _ _⟩
    · simp [Instr.mapUpdate, run_underlying hu, MapKept.run_getObj_map hb, run_checkKey hkt hk, run_findKey hkt e1, run_setObj_map _ hb, Result.andThen]
    · intro x hx
      simp at hx
      rcases hx with hx | rfl
      · exact h1 x (by simpa using hx)
      · exact hk
    · simp only [Array.toList_push, List.map_append, List.map_cons, List.map_nil]
      rw [List.nodup_append]
      refine ⟨h2, by simp, ?_⟩
      intro a ha c hc
      simp at hc
      subst hc
      obtain ⟨x, hx, rfl⟩ := List.mem_map.1 ha
      exact e2 x hx
    · intro x hx
      simp at hx
      rcases hx with hx | rfl
      · rw [upd_ne _ _ (e2 x (by simpa using hx))]; exact h3 x (by simpa using hx)
      · exact upd_same _ _ _
    · intro q hq
      by_cases he : q = k
      · exact ⟨⟨k, v, cl⟩, by simp, he.symm⟩
      · rw [upd_ne _ _ he] at hq
        obtain ⟨x, hx, hx2⟩ := h4 q hq
        exact ⟨x, by simp; exact .inl (by simpa using hx), hx2⟩
  · have e2' : es[j]? = some e := by simpa using e2
    have hst : (Instr.keyThatStays ((es[0 + j]?.map (·.key)).getD k) k).run P w = .ok k w := by
      rw [Nat.zero_add, e2']
      simp only [Option.map_some, Option.getD_some, e3]
      unfold Instr.keyThatStays
      rw [if_pos (sameBits_key hk _)]
      rfl
    have hget : ∀ m, (es.modify j fun e => { e with key := k, val := v })[m]? = if m = j then some { e with key := k, val := v } else es[m]? := by
      intro m
      rw [Array.getElem?_modify]
      by_cases hm : m = j
      · subst hm; rw [if_pos rfl, if_pos rfl, e2']; rfl
      · rw [if_neg (Ne.symm hm), if_neg hm]
    have hmem : ∀ x ∈ (es.modify j fun e => { e with key := k, val := v }).toList, x = { e with key := k, val := v } ∨ (x ∈ es.toList ∧ x.key ≠ k) := by
      intro x hx
      obtain ⟨m, hm⟩ := List.mem_iff_getElem?.1 hx
      rw [Array.getElem?_toList, hget] at hm
      by_cases he : m = j
      · rw [if_pos he] at hm; cases hm; exact .inl rfl
      · rw [if_neg he] at hm
        refine .inr ⟨by simpa using Array.mem_of_getElem? hm, fun hxk => he ?_⟩
        have n1 : (es.toList.map (·.key))[m]? = some k := by rw [List.getElem?_map, Array.getElem?_toList, hm]; simp [hxk]
        have n2 : (es.toList.map (·.key))[j]? = some k := by rw [List.getElem?_map, Array.getElem?_toList, e2']; simp [e3]
        have hmlt : m < (es.toList.map (·.key)).length := (List.getElem?_eq_some_iff.1 n1).1
        exact (List.getElem?_inj hmlt h2).1 (n1.trans n2.symm)
    have hkeys : (es.modify j fun e => { e with key := k, val := v }).toList.map (·.key) = es.toList.map (·.key) := modify_keys j _ (fun x hx => by rw [e2'] at hx; cases hx; exact e3.symm)
    refine ⟨{ w with heap := w.heap.setIfInBounds b (.map (es.modify j fun e => { e with key := k, val := v }) cl) }, ?_, ⟨_, _, (heap_set hb).1, ?_, hkeys ▸ h2, ?_, ?_⟩, hbut _ _⟩
    · simp only [Instr.mapUpdate, Sem.run_bind, run_underlying hu, MapKept.run_getObj_map hb, run_checkKey hkt hk, run_findKey hkt e1, Result.andThen]
      rw [hst]
      simp only [Nat.zero_add]
      exact run_setObj_map _ hb
    · intro x hx
      rcases hmem x hx with rfl | ⟨hx, _⟩
      · exact hk
      · exact h1 x hx
    · intro x hx
      rcases hmem x hx with rfl | ⟨hx, hne⟩
      · exact upd_same _ _ _
      · rw [upd_ne _ _ hne]; exact h3 x hx
    · intro q hq
      by_cases he : q = k
      · refine ⟨{ e with key := k, val := v }, ?_, he.symm⟩
        exact List.mem_iff_getElem?.2 ⟨j, by rw [Array.getElem?_toList, hget, if_pos rfl]⟩
      · rw [upd_ne _ _ he] at hq
        obtain ⟨x, hx, hx2⟩ := h4 q hq
        obtain ⟨m, hm⟩ := List.mem_iff_getElem?.1 hx
        refine ⟨x, List.mem_iff_getElem?.2 ⟨m, ?_⟩, hx2⟩
        rw [Array.getElem?_toList] at hm ⊢
        rw [hget, if_neg (by rintro rfl; rw [e2'] at hm; cases hm; exact he (hx2.symm.trans e3))]
        exact hm
end
section
variable {P : Program} {ro : Option Nat} {Y : List (Option Tmp)} {Q : Exit → Act → World → Prop} {rest : List Oper} {ds : List Deferred} {n : Nat} {l : Env} {a : Act} {w : World}
variable {T : TypeId} {p : String} {af : Array Edge} {x y z : Operand} {u u' : TypeId} {d : Nat} {v : Value} {D : TypeDesc} {f : Value → Option Value}
/-- make(map[K]V). -/
theorem mkm (D : TypeDesc) (hH : Has ds n l a) {t : TypeId} (hd : Nat.blt d n = true)
    (h : ∀ a' w' g, Has ds n ((d, .map (some g)) :: l) a' → Kept w w' → w.heap.size ≤ g → Mp D (fun _ => none) w' g → wpL P ro Y Q rest a' w') : wpL P ro Y Q (⟨some d, .makeMap t none, T, p, af, none⟩ :: rest) a w :=
  wpL_value (v := .map (some w.heap.size)) (w' := w.alloc (.map #[] 0)) rfl (by simp [execOp, Instr.makeMap, Result.andThen]) (h _ _ w.heap.size (hH.put d _ hd) ((Kept.refl w).alloc _) (Nat.le_refl _)
    ⟨#[], 0, (heap_alloc w _).1, by simp, by simp, by simp, by simp⟩)
/-- m[k]. -/
theorem lku (hH : Has ds n l a) {b : Nat} {t kt et : TypeId} {k zv : Value} (hM : Mp D f w b) (hx : ev l x = some (.map (some b))) (hy : ev l y = some k) (hk : IsKey D k) (hu : P.underlying t = some (.map kt et)) (hkt : P.underlying kt = some D) (hz : ∀ w, (zeroValue et).run P w = .ok zv w) (hd : Nat.blt d n = true)
    (h : ∀ a', Has ds n ((d, (f k).getD zv) :: l) a' → wpL P ro Y Q rest a' w) : wpL P ro Y Q (⟨some d, .lookup t x y false, T, p, af, none⟩ :: rest) a w :=
  val hH (by simp [execOp, hH.eval hx, hH.eval hy, hM.run_lookup hk hu hkt hz false]) hd h
/-- v, is := m[k]. -/
theorem lkc (hH : Has ds n l a) {b : Nat} {t kt et : TypeId} {k zv : Value} (hM : Mp D f w b) (hx : ev l x = some (.map (some b))) (hy : ev l y = some k) (hk : IsKey D k) (hu : P.underlying t = some (.map kt et)) (hkt : P.underlying kt = some D) (hz : ∀ w, (zeroValue et).run P w = .ok zv w) (hd : Nat.blt d n = true)
    (h : ∀ a', Has ds n ((d, .tuple #[(f k).getD zv, .bool (f k).isSome]) :: l) a' → wpL P ro Y Q rest a' w) : wpL P ro Y Q (⟨some d, .lookup t x y true, T, p, af, none⟩ :: rest) a w :=
  val hH (by simp [execOp, hH.eval hx, hH.eval hy, hM.run_lookup hk hu hkt hz true]) hd h
/-- m[k] = v. -/
theorem mup (hH : Has ds n l a) {b : Nat} {t kt et : TypeId} {k v : Value} (hM : Mp D f w b) (hx : ev l x = some (.map (some b))) (hy : ev l y = some k) (hv : ev l z = some v) (hk : IsKey D k) (hu : P.underlying t = some (.map kt et)) (hkt : P.underlying kt = some D)
    (h : ∀ w', Mp D (upd f k v) w' b → But b w w' → wpL P ro Y Q rest a w') : wpL P ro Y Q (⟨none, .mapUpdate t x y z, T, p, af, none⟩ :: rest) a w := by
  obtain ⟨w', hr, h1, h2⟩ := hM.run_update (v := v) hk hu hkt
  refine wpL_skip (w' := w') rfl ?_ (h w' h1 h2)
  simp [execOp, hH.eval hx, hH.eval hy, hH.eval hv, hr]
/-- A literal's entry. -/
theorem mins (hH : Has ds n l a) {b : Nat} {t kt et : TypeId} {k v : Value} (hM : Mp D f w b) (hx : ev l x = some (.map (some b))) (hy : ev l y = some k) (hv : ev l z = some v) (hk : IsKey D k) (hu : P.underlying t = some (.map kt et)) (hkt : P.underlying kt = some D)
    (h : ∀ w', Mp D (upd f k v) w' b → But b w w' → wpL P ro Y Q rest a w') : wpL P ro Y Q (⟨none, .insert t x y z, T, p, af, none⟩ :: rest) a w := by
  obtain ⟨w', hr, h1, h2⟩ := hM.run_update (v := v) hk hu hkt
  refine wpL_skip (w' := w') rfl ?_ (h w' h1 h2)
  simp [execOp, hH.eval hx, hH.eval hy, hH.eval hv, hr]
/-- Two structs compared. -/
theorem steq (hH : Has ds n l a) {vs us : Array Value} {r : Bool} (he : ∀ w, (Op.equalIn 10000 u (.agg vs) (.agg us)).run P w = .ok r w) (hx : ev l x = some (.agg vs)) (hy : ev l y = some (.agg us)) (hg : P.eqGuardType P.depth u = false) (hd : Nat.blt d n = true)
    (h : ∀ a', Has ds n ((d, .bool r) :: l) a' → wpL P ro Y Q rest a' w) : wpL P ro Y Q (⟨some d, .binOp .eql u x y u', T, p, af, none⟩ :: rest) a w :=
  val hH (by simp only [execOp, hH.eval hx, hH.eval hy]; simp [run_eqGuard_agg _ _ _ _ _ _ _ hg, run_eql_struct, he, Result.andThen]) hd h
theorem stneq (hH : Has ds n l a) {vs us : Array Value} {r : Bool} (he : ∀ w, (Op.equalIn 10000 u (.agg vs) (.agg us)).run P w = .ok r w) (hx : ev l x = some (.agg vs)) (hy : ev l y = some (.agg us)) (hg : P.eqGuardType P.depth u = false) (hd : Nat.blt d n = true)
    (h : ∀ a', Has ds n ((d, .bool (!r)) :: l) a' → wpL P ro Y Q rest a' w) : wpL P ro Y Q (⟨some d, .binOp .neq u x y u', T, p, af, none⟩ :: rest) a w :=
  val hH (by simp only [execOp, hH.eval hx, hH.eval hy]; simp [run_eqGuard_agg _ _ _ _ _ _ _ hg, run_neq_struct, he, Result.andThen]) hd h
/-- A value in an interface. -/
theorem mki (hH : Has ds n l a) {t : TypeId} {D : TypeDesc} (hx : ev l x = some v) (hu : P.underlying t = some D) (hD : ∀ m, D ≠ .interface m) (hd : Nat.blt d n = true)
    (h : ∀ a', Has ds n ((d, .iface t v) :: l) a' → wpL P ro Y Q rest a' w) : wpL P ro Y Q (⟨some d, .makeInterface t x, T, p, af, none⟩ :: rest) a w :=
  val hH (by
    simp only [execOp, hH.eval hx, Instr.makeInterface]
    cases D <;> simp_all [run_underlying hu, Result.andThen]) hd h
/-- What an interface holds. -/
theorem tas (hH : Has ds n l a) {t s : TypeId} {D : TypeDesc} (hx : ev l x = some (.iface t v)) (hu : P.underlying t = some D) (hD : ∀ m, D ≠ .interface m) (hd : Nat.blt d n = true)
    (h : ∀ a', Has ds n ((d, v) :: l) a' → wpL P ro Y Q rest a' w) : wpL P ro Y Q (⟨some d, .typeAssert x s t false, T, p, af, none⟩ :: rest) a w :=
  val hH (by
    simp only [execOp, hH.eval hx, Instr.typeAssert]
    cases D <;> simp_all [run_underlying hu, Result.andThen]) hd h
/-- panic(x). -/
theorem pan (hH : Has ds n l a) {dst : Option Nat} {t : TypeId} (hx : ev l x = some (.iface t v)) (h : Q (.panic [{ v := .iface t v, recovered := false }]) a w) : wpL P ro Y Q (⟨dst, .panic x, T, p, af, none⟩ :: rest) a w :=
  wpL_panic rfl (by simp [execOp, hH.eval hx, Instr.panic, goPanic]) h
end
theorem In.elem {α : Type} {f : α → List Value} {sz : Nat} (hf : ∀ x, (f x).length = sz) (h0 : 0 < sz) {S : Nat → Prop} {w : World} {ad : Addr} {bs : List α} (h3 : In S w (some ad) (bs.flatMap f)) {k : Nat} {b : α} (hv : bs[k]? = some b) :
    In S w (some (ad.add ((k : Int).toNat * sz))) (f b) := by
  obtain ⟨hlt, _⟩ := List.getElem?_eq_some_iff.1 hv
  obtain ⟨ad', e, hS, hsp, hc⟩ := h3.getU (i := k * sz) (by rw [flatMap_len f sz hf]; exact (Nat.mul_lt_mul_right h0).2 hlt)
  cases e
  refine .inr ⟨_, rfl, by rw [block_add]; exact hS, ?_, fun j z hz => ?_⟩
  · unfold Addr.add; split
    · exact hsp
    · rfl
  · rw [add_add']
    have hj : j < sz := by
      have := (List.getElem?_eq_some_iff.1 hz).1
      rw [hf] at this; exact this
    have := hc (k * sz + j) z (by rw [flatMap_get f sz hf bs k j b hv hj]; exact hz)
    rw [Int.toNat_natCast]
    exact this
end Go.Proofs.Ytpgeogdmjgmimaa.K
