/-
  The walk's own small kit, ninth part: values of which only what they hold is known: their length, their parts, their elements.
-/
import Derived.Test.YtpgeogdmjgmimaaK8
set_option linter.unusedVariables false
set_option linter.unusedSimpArgs false
namespace Go.Proofs.Ytpgeogdmjgmimaa.K
open Go Go.RowKit

/-- Memory that was there. -/
abbrev Lo (n : Nat) : Nat → Prop := fun b => b < n
section
variable {S : Nat → Prop} {w : World} {v : Value}
theorem Byt.isl {bs : List UInt8} (h : Byt S w v bs) : ∃ A c, v = .slice A bs.length c := by obtain ⟨A, c, e, _⟩ := h; exact ⟨A, c, e⟩
theorem Rws.isl {l : List (List UInt8)} (h : Rws S w v l) : ∃ A c, v = .slice A l.length c := by obtain ⟨A, c, vs, e, _⟩ := h; exact ⟨A, c, e⟩
theorem Ints.isl {l : List Int} (h : Ints S w v l) : ∃ A c, v = .slice A l.length c := by obtain ⟨A, c, e, _⟩ := h; exact ⟨A, c, e⟩
theorem Sts.isl {α : Type} {f : α → List Value} {l : List α} (h : Sts f S w v l) : ∃ A c, v = .slice A l.length c := by obtain ⟨A, c, e, _⟩ := h; exact ⟨A, c, e⟩
theorem Byt.old {bs : List UInt8} (h : Byt S w v bs) : Byt (Lo w.heap.size) w v bs := h.lt.mono fun b hb => hb.2
theorem Rws.old {l : List (List UInt8)} (h : Rws S w v l) : Rws (Lo w.heap.size) w v l := h.lt.mono fun b hb => hb.2
theorem Ints.old {l : List Int} (h : Ints S w v l) : Ints (Lo w.heap.size) w v l := by obtain ⟨A, c, e, h1, h2, h3⟩ := h; exact ⟨A, c, e, h1, h2, h3.lt.mono fun b hb => hb.2⟩
theorem Sts.old {α : Type} {f : α → List Value} {l : List α} (h : Sts f S w v l) : Sts f (Lo w.heap.size) w v l := by obtain ⟨A, c, e, h1, h2, h3⟩ := h; exact ⟨A, c, e, h1, h2, h3.lt.mono fun b hb => hb.2⟩
theorem Sts.lt {α : Type} {f : α → List Value} {l : List α} (h : Sts f S w v l) : Sts f (fun b => S b ∧ b < w.heap.size) w v l := by obtain ⟨A, c, e, h1, h2, h3⟩ := h; exact ⟨A, c, e, h1, h2, h3.lt⟩
theorem Ints.lt {l : List Int} (h : Ints S w v l) : Ints (fun b => S b ∧ b < w.heap.size) w v l := by obtain ⟨A, c, e, h1, h2, h3⟩ := h; exact ⟨A, c, e, h1, h2, h3.lt⟩
theorem Byt.bound {bs : List UInt8} (h : Byt S w v bs) : bs.length ≤ 9223372036854775807 := by obtain ⟨A, c, e, h1, h2, _⟩ := h; omega
theorem Rws.bound {l : List (List UInt8)} (h : Rws S w v l) : l.length ≤ 9223372036854775807 := by obtain ⟨A, c, vs, e, h1, h2, _⟩ := h; omega
theorem Ints.bound {l : List Int} (h : Ints S w v l) : l.length ≤ 9223372036854775807 := by obtain ⟨A, c, e, h1, h2, _⟩ := h; omega
theorem Sts.bound {α : Type} {f : α → List Value} {l : List α} (h : Sts f S w v l) : l.length ≤ 9223372036854775807 := by obtain ⟨A, c, e, h1, h2, _⟩ := h; omega
theorem Rws.slice {A : Option Addr} {l : List (List UInt8)} {c : Nat} (h : Rws S w (.slice A l.length c) l) (i j : Nat) (hij : i ≤ j) (hj : j ≤ l.length) :
    Rws S w (.slice (if c = i then A else A.map (·.add (i * 1))) (j - i) (c - i)) ((l.take j).drop i) := by
  obtain ⟨A', c', vs, he, h1, h2, h3, h4, h5⟩ := h
  cases he
  have hl : ((l.take j).drop i).length = j - i := by simp; omega
  refine ⟨if c = i then A else A.map (·.add (i * 1)), c - i, (vs.take j).drop i, by rw [hl], by rw [hl]; omega, by omega, by simp [h3], ?_, fun k u b hu hb => ?_⟩
  · have := h4.slice i j c 1 (by omega)
    simpa using this
  · rw [List.getElem?_drop, List.getElem?_take] at hu hb
    split at hu
    · rename_i hlt
      rw [if_pos hlt] at hb
      exact h5 _ _ _ hu hb
    · cases hu
theorem flatMap_take {α β : Type} (f : α → List β) (sz : Nat) (hf : ∀ x, (f x).length = sz) (l : List α) (j : Nat) : (l.flatMap f).take (j * sz) = (l.take j).flatMap f := by
  induction l generalizing j with
  | nil => simp
  | cons x l ih =>
    cases j with
    | zero => simp
    | succ j =>
      simp only [List.flatMap_cons, List.take_succ_cons]
      rw [List.take_append, hf, Nat.succ_mul, Nat.add_sub_cancel, ih, List.take_of_length_le (by rw [hf]; omega)]
theorem flatMap_drop {α β : Type} (f : α → List β) (sz : Nat) (hf : ∀ x, (f x).length = sz) (l : List α) (j : Nat) : (l.flatMap f).drop (j * sz) = (l.drop j).flatMap f := by
  induction l generalizing j with
  | nil => simp
  | cons x l ih =>
    cases j with
    | zero => simp
    | succ j =>
      simp only [List.flatMap_cons, List.drop_succ_cons]
      rw [List.drop_append, hf, Nat.succ_mul, Nat.add_sub_cancel, ih, List.drop_eq_nil_of_le (by rw [hf]; omega), List.nil_append]
theorem flatMap_get {α β : Type} (f : α → List β) (sz : Nat) (hf : ∀ x, (f x).length = sz) (l : List α) (k j : Nat) (x : α) (hx : l[k]? = some x) (hj : j < sz) : (l.flatMap f)[k * sz + j]? = (f x)[j]? := by
  have h1 : ((l.flatMap f).drop (k * sz))[j]? = (l.flatMap f)[k * sz + j]? := List.getElem?_drop
  rw [← h1, flatMap_drop f sz hf]
  obtain ⟨hk, e⟩ := List.getElem?_eq_some_iff.1 hx
  rw [List.drop_eq_getElem_cons hk, e, List.flatMap_cons, List.getElem?_append_left (by rw [hf]; exact hj)]
theorem flatMap_len {α β : Type} (f : α → List β) (sz : Nat) (hf : ∀ x, (f x).length = sz) (l : List α) : (l.flatMap f).length = l.length * sz := by
  induction l with
  | nil => simp
  | cons x l ih => simp [ih, hf, Nat.add_mul]; omega
theorem Sts.slice {α : Type} {f : α → List Value} {sz : Nat} (hf : ∀ x, (f x).length = sz) {A : Option Addr} {l : List α} {c : Nat} (h : Sts f S w (.slice A l.length c) l) (i j : Nat) (hij : i ≤ j) (hj : j ≤ l.length) :
    Sts f S w (.slice (if c = i then A else A.map (·.add (i * sz))) (j - i) (c - i)) ((l.take j).drop i) := by
  obtain ⟨A', c', he, h1, h2, h3⟩ := h
  cases he
  have hl : ((l.take j).drop i).length = j - i := by simp; omega
  refine ⟨if c = i then A else A.map (·.add (i * sz)), c - i, by rw [hl], by rw [hl]; omega, by omega, ?_⟩
  have := h3.slice i j c sz (by omega)
  rw [flatMap_take f sz hf, flatMap_drop f sz hf] at this
  exact this
end

section
variable {P : Program} {ro : Option Nat} {Y : List (Option Tmp)} {Q : Exit → Act → World → Prop} {rest : List Oper} {ds : List Deferred} {n : Nat} {l : Env} {a : Act} {w : World}
variable {T : TypeId} {p : String} {af : Array Edge} {x y : Operand} {u : TypeId} {d : Nat} {S : Nat → Prop} {v : Value}

/-- s[i:] -/
theorem slcd {s : List UInt8} {lo : Option Operand} (i : Nat) (hH : Has ds n l a) (hu : P.underlying u = some .string) (hx : ev l x = some (str s)) (hlo : Bnd l lo 0 i) (hi : i ≤ s.length) (hd : Nat.blt d n = true)
    (h : ∀ a', Has ds n ((d, str (s.drop i)) :: l) a' → wpL P ro Y Q rest a' w) : wpL P ro Y Q (⟨some d, .slice u x lo none none, T, p, af, none⟩ :: rest) a w :=
  slcs i s.length hH hu hx hlo rfl hi (Nat.le_refl _) hd (fun a' hH' => h a' (by rw [List.take_length] at hH'; exact hH'))
/-- s[:j] -/
theorem slct {s : List UInt8} {hi : Option Operand} (j : Nat) (hH : Has ds n l a) (hu : P.underlying u = some .string) (hx : ev l x = some (str s)) (hhi : Bnd l hi s.length j) (hj : j ≤ s.length) (hd : Nat.blt d n = true)
    (h : ∀ a', Has ds n ((d, str (s.take j)) :: l) a' → wpL P ro Y Q rest a' w) : wpL P ro Y Q (⟨some d, .slice u x none hi none, T, p, af, none⟩ :: rest) a w :=
  slcs 0 j hH hu hx rfl hhi (Nat.zero_le _) hj hd (fun a' hH' => h a' (by rw [List.drop_zero] at hH'; exact hH'))
theorem lnx (hH : Has ds n l a) {m : Nat} {e : TypeId} {ts : Array TypeId} (ht : ts = #[u]) (hu : P.underlying u = some (.slice e)) (hx : ev l x = some v) (hv : ∃ A c, v = .slice A m c) (hd : Nat.blt d n = true)
    (h : ∀ a', Has ds n ((d, .int .i64 (m : Int)) :: l) a' → wpL P ro Y Q rest a' w) : wpL P ro Y Q (⟨some d, .call { callee := .builtin .len, args := #[x], argTypes := ts }, T, p, af, none⟩ :: rest) a w := by
  obtain ⟨A, c, rfl⟩ := hv
  exact lenv hH ht hu hx hd h
/-- A part of bytes. -/
theorem slB {bs : List UInt8} {e : TypeId} {lo hi : Option Operand} (i j : Nat) (hB : Byt S w v bs) (hH : Has ds n l a) (hu : P.underlying u = some (.slice e)) (hx : ev l x = some v) (hsz : ∀ w, (sizeOf e).run P w = .ok 1 w)
    (hlo : Bnd l lo 0 i) (hhi : Bnd l hi bs.length j) (hij : i ≤ j) (hj : j ≤ bs.length) (hd : Nat.blt d n = true)
    (h : ∀ a' v', Has ds n ((d, v') :: l) a' → Byt S w v' ((bs.take j).drop i) → wpL P ro Y Q rest a' w) : wpL P ro Y Q (⟨some d, .slice u x lo hi none, T, p, af, none⟩ :: rest) a w := by
  obtain ⟨A, c, rfl, h1, h2, h3⟩ := hB
  exact slv i j hH hu hx hsz hlo hhi hij (by omega) hd fun a' hH' => h a' _ hH' (Byt.slice ⟨A, c, rfl, h1, h2, h3⟩ i j hij hj)
/-- A part of a slice of slices. -/
theorem slR {bs : List (List UInt8)} {e : TypeId} {lo hi : Option Operand} (i j : Nat) (hB : Rws S w v bs) (hH : Has ds n l a) (hu : P.underlying u = some (.slice e)) (hx : ev l x = some v) (hsz : ∀ w, (sizeOf e).run P w = .ok 1 w)
    (hlo : Bnd l lo 0 i) (hhi : Bnd l hi bs.length j) (hij : i ≤ j) (hj : j ≤ bs.length) (hd : Nat.blt d n = true)
    (h : ∀ a' v', Has ds n ((d, v') :: l) a' → Rws S w v' ((bs.take j).drop i) → wpL P ro Y Q rest a' w) : wpL P ro Y Q (⟨some d, .slice u x lo hi none, T, p, af, none⟩ :: rest) a w := by
  obtain ⟨A, c, vs, rfl, h1, h2, h3⟩ := hB
  exact slv i j hH hu hx hsz hlo hhi hij (by omega) hd fun a' hH' => h a' _ hH' (Rws.slice ⟨A, c, vs, rfl, h1, h2, h3⟩ i j hij hj)
/-- A part of a slice of structs. -/
theorem slS {α : Type} {f : α → List Value} {sz : Nat} (hf : ∀ x, (f x).length = sz) {bs : List α} {e : TypeId} {lo hi : Option Operand} (i j : Nat) (hB : Sts f S w v bs) (hH : Has ds n l a) (hu : P.underlying u = some (.slice e)) (hx : ev l x = some v) (hsz : ∀ w, (sizeOf e).run P w = .ok sz w)
    (hlo : Bnd l lo 0 i) (hhi : Bnd l hi bs.length j) (hij : i ≤ j) (hj : j ≤ bs.length) (hd : Nat.blt d n = true)
    (h : ∀ a' v', Has ds n ((d, v') :: l) a' → Sts f S w v' ((bs.take j).drop i) → wpL P ro Y Q rest a' w) : wpL P ro Y Q (⟨some d, .slice u x lo hi none, T, p, af, none⟩ :: rest) a w := by
  obtain ⟨A, c, rfl, h1, h2, h3⟩ := hB
  exact slv i j hH hu hx hsz hlo hhi hij (by omega) hd fun a' hH' => h a' _ hH' (Sts.slice hf ⟨A, c, rfl, h1, h2, h3⟩ i j hij hj)
/-- A byte: its address, and it. -/
theorem ixB {bs : List UInt8} {k d' : Nat} {i : Int} {e : TypeId} {T' : TypeId} {p' : String} {af' : Array Edge} {b : UInt8} (hB : Byt S w v bs) (hH : Has ds n l a) (hx : ev l x = some v) (hy : ev l y = some (.int .i64 i)) (hu : P.underlying u = some (.slice e))
    (hsz : ∀ w, (sizeOf e).run P w = .ok 1 w) (hag : ∀ w, (isAgg e).run P w = .ok false w) (hk : i = (k : Int)) (hv : bs[k]? = some b) (hd : Nat.blt d n = true) (hd' : Nat.blt d' n = true)
    (h : ∀ a' z, Has ds n ((d', u8 b) :: (d, z) :: l) a' → wpL P ro Y Q rest a' w) : wpL P ro Y Q (⟨some d, .indexAddr u x y, T, p, af, none⟩ :: ⟨some d', .load e (.tmp d), T', p', af', none⟩ :: rest) a w := by
  obtain ⟨A, c, rfl, h1, h2, h3⟩ := hB
  exact ixl hH hx hy hu hsz hag h3 hk (by simp) (by simp [hv]) hd hd' h
/-- A row: its address, and it. -/
theorem ixR {bs : List (List UInt8)} {k d' : Nat} {i : Int} {e : TypeId} {T' : TypeId} {p' : String} {af' : Array Edge} {b : List UInt8} (hB : Rws S w v bs) (hH : Has ds n l a) (hx : ev l x = some v) (hy : ev l y = some (.int .i64 i)) (hu : P.underlying u = some (.slice e))
    (hsz : ∀ w, (sizeOf e).run P w = .ok 1 w) (hag : ∀ w, (isAgg e).run P w = .ok false w) (hk : i = (k : Int)) (hv : bs[k]? = some b) (hd : Nat.blt d n = true) (hd' : Nat.blt d' n = true)
    (h : ∀ a' z v', Has ds n ((d', v') :: (d, z) :: l) a' → Byt S w v' b → wpL P ro Y Q rest a' w) : wpL P ro Y Q (⟨some d, .indexAddr u x y, T, p, af, none⟩ :: ⟨some d', .load e (.tmp d), T', p', af', none⟩ :: rest) a w := by
  obtain ⟨A, c, vs, rfl, h1, h2, h3, h4, h5⟩ := hB
  obtain ⟨hlt, _⟩ := List.getElem?_eq_some_iff.1 hv
  have hu' : vs[k]? = some vs[k] := List.getElem?_eq_getElem (by omega)
  exact ixl hH hx hy hu hsz hag h4 hk h3 hu' hd hd' fun a' z hH' => h a' z _ hH' (h5 k _ _ hu' hv)
/-- A whole number of a slice. -/
theorem ixI {bs : List Int} {k d' : Nat} {i : Int} {e : TypeId} {T' : TypeId} {p' : String} {af' : Array Edge} {b : Int} (hB : Ints S w v bs) (hH : Has ds n l a) (hx : ev l x = some v) (hy : ev l y = some (.int .i64 i)) (hu : P.underlying u = some (.slice e))
    (hsz : ∀ w, (sizeOf e).run P w = .ok 1 w) (hag : ∀ w, (isAgg e).run P w = .ok false w) (hk : i = (k : Int)) (hv : bs[k]? = some b) (hd : Nat.blt d n = true) (hd' : Nat.blt d' n = true)
    (h : ∀ a' z, Has ds n ((d', .int .i64 b) :: (d, z) :: l) a' → wpL P ro Y Q rest a' w) : wpL P ro Y Q (⟨some d, .indexAddr u x y, T, p, af, none⟩ :: ⟨some d', .load e (.tmp d), T', p', af', none⟩ :: rest) a w := by
  obtain ⟨A, c, rfl, h1, h2, h3⟩ := hB
  exact ixl hH hx hy hu hsz hag h3 hk (by simp) (by simp [hv]) hd hd' h
/-- A struct of a slice: where it stands. -/
theorem ixS {α : Type} {f : α → List Value} {sz : Nat} (hf : ∀ x, (f x).length = sz) {bs : List α} {k : Nat} {i : Int} {e : TypeId} {b : α} (hB : Sts f S w v bs) (hH : Has ds n l a) (hx : ev l x = some v) (hy : ev l y = some (.int .i64 i)) (hu : P.underlying u = some (.slice e))
    (hsz : ∀ w, (sizeOf e).run P w = .ok sz w) (h0 : 0 < sz) (hk : i = (k : Int)) (hv : bs[k]? = some b) (hd : Nat.blt d n = true)
    (h : ∀ a' ad, Has ds n ((d, .pointer (some ad)) :: l) a' → In S w (some ad) (f b) → wpL P ro Y Q rest a' w) : wpL P ro Y Q (⟨some d, .indexAddr u x y, T, p, af, none⟩ :: rest) a w := by
  obtain ⟨A, c, rfl, h1, h2, h3⟩ := hB
  obtain ⟨hlt, _⟩ := List.getElem?_eq_some_iff.1 hv
  have hg := flatMap_get f sz hf bs k 0 b hv h0
  obtain ⟨ad, rfl, hS, hsp, hc⟩ := h3.getU (i := k * sz) (by rw [flatMap_len f sz hf]; exact (Nat.mul_lt_mul_right h0).2 hlt)
  refine ixa hH hx hy hu hsz ⟨by omega, by omega⟩ hd fun a' hH' => h a' _ hH' (.inr ⟨_, rfl, by rw [block_add]; exact hS, ?_, fun j z hz => ?_⟩)
  · unfold Addr.add; split
    · exact hsp
    · rfl
  · rw [add_add']
    have hj : j < sz := by
      have := (List.getElem?_eq_some_iff.1 hz).1
      rw [hf] at this; exact this
    have := hc (k * sz + j) z (by rw [flatMap_get f sz hf bs k j b hv hj]; exact hz)
    rw [hk, Int.toNat_natCast]
    exact this
/-- The whole struct is read. -/
theorem ldS (hH : Has ds n l a) {ad : Addr} {vs : List Value} (hI : In S w (some ad) vs) (hx : ev l x = some (.pointer (some ad))) (hag : ∀ w, (isAgg u).run P w = .ok true w) (hsz : ∀ w, (sizeOf u).run P w = .ok vs.length w) (hd : Nat.blt d n = true)
    (h : ∀ a', Has ds n ((d, .agg vs.toArray) :: l) a' → wpL P ro Y Q rest a' w) : wpL P ro Y Q (⟨some d, .load u x, T, p, af, none⟩ :: rest) a w :=
  ldn hH vs hx hag hsz (fun i v hv => hI.cellAt hv) hd h
/-- One of its fields is read, of one cell. -/
theorem ldF (hH : Has ds n l a) {ad : Addr} {vs : List Value} {o : Nat} {z : Value} (hI : In S w (some ad) vs) (hx : ev l x = some (.pointer (some (ad.add o)))) (hag : ∀ w, (isAgg u).run P w = .ok false w) (hz : vs[o]? = some z) (hd : Nat.blt d n = true)
    (h : ∀ a', Has ds n ((d, z) :: l) a' → wpL P ro Y Q rest a' w) : wpL P ro Y Q (⟨some d, .load u x, T, p, af, none⟩ :: rest) a w :=
  ld1 hH hx hag (hI.cellAt hz) hd h
end
end Go.Proofs.Ytpgeogdmjgmimaa.K
