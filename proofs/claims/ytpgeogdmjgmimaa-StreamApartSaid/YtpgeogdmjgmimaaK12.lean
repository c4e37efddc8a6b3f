/-
  The walk's own small kit, twelfth part: slices of slices that grow; append of noughts to nil; copy into a known block.
-/
import Derived.Test.YtpgeogdmjgmimaaK11
set_option linter.unusedVariables false
set_option linter.unusedSimpArgs false
namespace Go.Proofs.Ytpgeogdmjgmimaa.K
open Go Go.RowKit

/-- Values that are slices of bytes: what each holds. -/
def Vec (S : Nat → Prop) (w : World) (vs : List Value) (l : List (List UInt8)) : Prop :=
  vs.length = l.length ∧ ∀ (i : Nat) (u : Value) (b : List UInt8), vs[i]? = some u → l[i]? = some b → Byt S w u b
/-- What the call owns, but the row of v itself. -/
abbrev SV (lo : Nat) (v : Value) : Nat → Prop := fun b => lo ≤ b ∧ some b ≠ v.ownBlock
section
variable {S S' : Nat → Prop} {w w' : World} {v v' : Value} {vs ys : List Value} {l m : List (List UInt8)} {lo t : Nat}
theorem Vec.nil (S : Nat → Prop) (w : World) : Vec S w [] [] := ⟨rfl, fun i u b hu => by simp at hu⟩
theorem Vec.one {u : Value} {b : List UInt8} (h : Byt S w u b) : Vec S w [u] [b] := ⟨rfl, fun i u' b' hu hb => by
  cases i with
  | zero => simp at hu hb; subst hu; subst hb; exact h
  | succ i => simp at hu⟩
theorem Vec.kept (h : Vec S w vs l) (hk : Kept w w') : Vec S w' vs l := ⟨h.1, fun i u b hu hb => (h.2 i u b hu hb).kept hk⟩
theorem Vec.but {g : Nat} (h : Vec S w vs l) (hk : But g w w') (hg : ¬ S g) : Vec S w' vs l := ⟨h.1, fun i u b hu hb => (h.2 i u b hu hb).but hk hg⟩
theorem Vec.ck {g n0 : Nat} (h : Vec S w vs l) (k : CK g n0 w w') (hg : ¬ S g) : Vec S w' vs l := ⟨h.1, fun i u b hu hb => (h.2 i u b hu hb).ck k hg⟩
theorem Vec.mono (h : Vec S w vs l) (hS : ∀ b, S b → S' b) : Vec S' w vs l := ⟨h.1, fun i u b hu hb => (h.2 i u b hu hb).mono hS⟩
theorem Vec.lt (h : Vec S w vs l) : Vec (fun b => S b ∧ b < w.heap.size) w vs l := ⟨h.1, fun i u b hu hb => (h.2 i u b hu hb).lt⟩
theorem Byt.butV' {bs : List UInt8} (h : Byt S w v bs) {x : Value} (hk : ButV x w w') (hg : ∀ b, S b → b < w.heap.size → some b ≠ x.ownBlock) : Byt S w' v bs := by
  obtain ⟨A, c, rfl, h1, h2, h3⟩ := h; exact ⟨A, c, rfl, h1, h2, h3.butV hk hg⟩
theorem Byt.butV {bs : List UInt8} {x : Value} (h : Byt S w v bs) (hk : ButV x w w') (hg : ∀ b, S b → b < w.heap.size → some b ≠ x.ownBlock) : Byt S w' v bs := h.butV' hk hg
theorem Vec.butV {x : Value} (h : Vec S w vs l) (hk : ButV x w w') (hg : ∀ b, S b → b < w.heap.size → some b ≠ x.ownBlock) : Vec S w' vs l := ⟨h.1, fun i u b hu hb => (h.2 i u b hu hb).butV' hk hg⟩
theorem Rws.butV {x : Value} (h : Rws S w v l) (hk : ButV x w w') (hg : ∀ b, S b → b < w.heap.size → some b ≠ x.ownBlock) : Rws S w' v l := by
  obtain ⟨A, c, vs, rfl, h1, h2, h3, h4, h5⟩ := h; exact ⟨A, c, vs, rfl, h1, h2, h3, h4.butV hk hg, fun i u b hu hb => (h5 i u b hu hb).butV' hk hg⟩
theorem Sts.butV {α : Type} {f : α → List Value} {x : Value} {l : List α} (h : Sts f S w v l) (hk : ButV x w w') (hg : ∀ b, S b → b < w.heap.size → some b ≠ x.ownBlock) : Sts f S w' v l := by
  obtain ⟨A, c, rfl, h1, h2, h3⟩ := h; exact ⟨A, c, rfl, h1, h2, h3.butV hk hg⟩
theorem Own.butNe {g' sz : Nat} {xs : List Value} (h : Own lo w v t sz xs) (hk : But g' w w') (hne : some g' ≠ v.ownBlock) : Own lo w' v t sz xs := by
  rcases h with h | ⟨g, n, c, cs, rfl, h2, h3, r⟩
  · exact .inl h
  · exact .inr ⟨g, n, c, cs, rfl, h2, h3.but hk (by intro e; subst e; exact hne rfl), r⟩
theorem Own.isl {sz : Nat} {xs : List Value} (h : Own lo w v t sz xs) : ∃ A n c, v = .slice A n c := by
  rcases h with ⟨rfl, _⟩ | ⟨g, n, c, cs, rfl, _⟩
  · exact ⟨_, _, _, rfl⟩
  · exact ⟨_, _, _, rfl⟩
theorem Vec.cat (h : Vec S w vs l) (k : Vec S w ys m) : Vec S w (vs ++ ys) (l ++ m) := ⟨by simp [h.1, k.1], fun i u b hu hb => by
  by_cases hi : i < vs.length
  · rw [List.getElem?_append_left hi] at hu
    rw [List.getElem?_append_left (by rw [← h.1]; exact hi)] at hb
    exact h.2 i u b hu hb
  · rw [List.getElem?_append_right (by omega)] at hu
    rw [List.getElem?_append_right (by rw [← h.1]; omega), ← h.1] at hb
    exact k.2 _ u b hu hb⟩
theorem Vec.oneCell (h : Vec S w vs l) : ∀ u ∈ vs, u.oneCell' = true := fun u hu => by
  obtain ⟨i, hi⟩ := List.mem_iff_getElem?.1 hu
  have hlt : i < l.length := by rw [← h.1]; exact (List.getElem?_eq_some_iff.1 hi).1
  obtain ⟨A, c, rfl⟩ := (h.2 i u l[i] hi (List.getElem?_eq_getElem hlt)).isl
  rfl
/-- Behind an append to the row v: the old slices and the new ones. -/
theorem Vec.app (h : Vec (SV lo v) w vs l) (k : Vec (SV lo v) w ys m) (hk : ButV v w w') (hat : v'.ownBlock = v.ownBlock ∨ v'.ownBlock = some w.heap.size) : Vec (SV lo v') w' (vs ++ ys) (l ++ m) := by
  have h1 := ((h.cat k).lt.butV hk (fun b hb _ => hb.1.2)).mono (S' := SV lo v') (fun b hb => ⟨hb.1.1, by
    rcases hat with e | e
    · rw [e]; exact hb.1.2
    · rw [e]; intro e2; have e2 : b = w.heap.size := by simpa using e2
      have := hb.2; omega⟩)
  exact h1
theorem Rws.of_own (hO : Own lo w v t 1 vs) (hV : Vec S w vs l) : Rws (fun b => S b ∨ (lo ≤ b ∧ some b = v.ownBlock)) w v l := by
  obtain ⟨A, n, c, rfl, h1, h2, h3, h4⟩ := hO.in_ (by omega)
  have e : n = l.length := by rw [← hV.1]; simpa using h3.symm
  subst e
  exact ⟨A, c, vs, rfl, h1, h2, hV.1, h4.mono fun b hb => .inr hb, fun i u b hu hb => (hV.2 i u b hu hb).mono fun b hb => .inl hb⟩
theorem Rws.fresh (hO : Own lo w v t 1 vs) (hV : Vec (SV lo v) w vs l) : Rws (fun b => lo ≤ b) w v l :=
  (Rws.of_own hO hV).mono fun b hb => by rcases hb with h | h <;> exact h.1
theorem Rws.vec (h : Rws S w v l) : ∃ A c vs, v = .slice A l.length c ∧ In S w A vs ∧ Vec S w vs l := by
  obtain ⟨A, c, vs, rfl, h1, h2, h3, h4, h5⟩ := h
  exact ⟨A, c, vs, rfl, h4, h3, h5⟩
end

section
variable {P : Program} {ro : Option Nat} {Y : List (Option Tmp)} {Q : Exit → Act → World → Prop} {rest : List Oper} {ds : List Deferred} {n : Nat} {l : Env} {a : Act} {w : World}
variable {T : TypeId} {p : String} {af : Array Edge} {x y : Operand} {u : TypeId} {d : Nat}
theorem run_append_zeros {t e t2 ty : TypeId} {ti : TypeInfo} {z : Value} {m c : Nat} (hu : P.underlying t = some (.slice e)) (ht2 : P.underlying t2 = some (.int .i64)) (hti : P.info? e = some ti) (hz : ti.zero = some z) (hsz : ti.size = 1) (hzs : z.cells.size = 1)
    (h0 : 0 < m) (hb : m * ti.bytes ≤ 140737488355328) (hm : m ≤ 9223372036854775807) (w : World) :
    ∃ v' w', (Builtin.append_ #[t, t2] ty #[.slice none 0 0, .int .i64 (m : Int)]).run P w = .ok v' w' ∧ (∃ c, v' = .slice (some ⟨w.heap.size, 0, none⟩) m c ∧ m ≤ c ∧ c ≤ 9223372036854775807 ∧ ∃ cs, cs.length = c ∧ Blk w' w.heap.size e cs) ∧ Kept w w' := by
  have hge := grownCap_ge w m 0 e
  have hle : grownCap w m 0 e ≤ 9223372036854775807 := by
    unfold grownCap Question.cut
    have : w.tape w.drawn (Question.appendCap m 0 e) % (2 ^ 63 - m) < 2 ^ 63 - m := Nat.mod_lt _ (by omega)
    simp only
    omega
  have hfit := growslice_fits (bytes := ti.bytes) h0 hb
  have hw : IntKind.i64.wrap (m : Int) = m := wrap_i64 (by omega)
  refine ⟨.slice (some ⟨w.heap.size, 0, none⟩) m (grownCap w m 0 e), w.drew.alloc (.cells (Builtin.zeroCells z.cells m ++ Builtin.zeroCells z.cells (grownCap w m 0 e - m)) e), ?_, ⟨_, rfl, hge, hle, (Builtin.zeroCells z.cells m ++ Builtin.zeroCells z.cells (grownCap w m 0 e - m)).toList, ?_, ?_⟩, (Kept.refl w).drew.alloc _⟩
  · have h1 : (m : Int) * (ti.bytes : Int) ≤ 140737488355328 := by
      have h := Int.ofNat_le.2 hb
      rw [Int.natCast_mul] at h; omega
    have h2 : ¬ m = 0 := by omega
    have h3 : ¬ (m : Int) < 0 := by omega
    have h4 : ¬ (281474976710656 < Builtin.nextslicecap m 0 * ti.bytes) := by omega
    have h5 : ¬ (9223372036854775807 < (m : Int)) := by omega
    have h6 : ¬ (281474976710656 < (m : Int) * (ti.bytes : Int)) := by omega
    have h8 : max (m : Int) 0 = m := by omega
    have h7 : ¬ (281474976710656 < m * ti.bytes) := by omega
    simp [Builtin.append_, run_underlying hu, run_underlying ht2, sizeOf, typeInfo, hti, hsz, hw, h2, h3, h4, h5, h6, h7, h8, asInt, asIntOf, zeroValue, hz, run_firstCells_none, Question.forced, newRow, grownCap]
  · simp only [Array.length_toList, Array.size_append, size_zeroCells, hzs]; omega
  · have := Blk.new w.drew e (Builtin.zeroCells z.cells m ++ Builtin.zeroCells z.cells (grownCap w m 0 e - m)).toList
    rw [Array.toArray_toList] at this
    exact this
/-- append(nil, make(.., m)...) -/
theorem apz (hH : Has ds n l a) {t e t2 : TypeId} {ti : TypeInfo} {z : Value} {m : Nat} {i : Int} (hx : ev l x = some (.slice none 0 0)) (hy : ev l y = some (.int .i64 i)) (hi : i = (m : Int)) (hu : P.underlying t = some (.slice e)) (ht2 : P.underlying t2 = some (.int .i64)) (hti : P.info? e = some ti) (hz : ti.zero = some z) (hsz : ti.size = 1) (hzs : z.cells.size = 1)
    (h0 : 0 < m) (hb : m * ti.bytes ≤ 140737488355328) (hm : m ≤ 9223372036854775807) (hd : Nat.blt d n = true)
    (h : ∀ a' w' g c cs, Has ds n ((d, .slice (some ⟨g, 0, none⟩) m c) :: l) a' → Kept w w' → w.heap.size ≤ g → m ≤ c → c ≤ 9223372036854775807 → cs.length = c → Blk w' g e cs → wpL P ro Y Q rest a' w') :
    wpL P ro Y Q (⟨some d, .call { callee := .builtin .append, args := #[x, y], argTypes := #[t, t2] }, T, p, af, none⟩ :: rest) a w := by
  subst hi
  obtain ⟨v', w', hr, ⟨c, rfl, h1, h2, cs, h3, h4⟩, hk⟩ := run_append_zeros (P := P) (ty := T) (c := 0) hu ht2 hti hz hsz hzs h0 hb hm w
  refine wpL_value (v := _) (w' := w') rfl ?_ (h _ w' w.heap.size c cs (hH.put d _ hd) hk (Nat.le_refl _) h1 h2 h3 h4)
  simp only [execOp, resolve, invoke, builtin]
  simp [hH.eval hx, hH.eval hy, hr]
/-- A row of the call's own, of no length yet. -/
theorem Own.empty {lo g t c : Nat} {cs : List Value} (hg : lo ≤ g) (hB : Blk w g t cs) (hc : cs.length = c) (h0 : 0 < c) (hm : c ≤ 9223372036854775807) : Own lo w (.slice (if c = 0 then some ⟨g, 0, none⟩ else (some ⟨g, 0, none⟩ : Option Addr).map (·.add (0 * 1))) (0 - 0) (c - 0)) t 1 [] := by
  rw [if_neg (by omega)]
  exact .inr ⟨g, 0, c, cs, by simp [Addr.add], hg, hB, by omega, rfl, by omega, hm, by simp⟩
end
end Go.Proofs.Ytpgeogdmjgmimaa.K
