/-
  The walk's own small kit, thirteenth part: slices of slices of slices; literals of slices.
-/
import Derived.Test.YtpgeogdmjgmimaaK12
set_option linter.unusedVariables false
set_option linter.unusedSimpArgs false
namespace Go.Proofs.Ytpgeogdmjgmimaa.K
open Go Go.RowKit

/-- Values that are slices of slices of bytes: what each holds. -/
def Vec2 (S : Nat → Prop) (w : World) (vs : List Value) (L : List (List (List UInt8))) : Prop :=
  vs.length = L.length ∧ ∀ (i : Nat) (u : Value) (l : List (List UInt8)), vs[i]? = some u → L[i]? = some l → Rws S w u l
/-- A slice of slices of slices of bytes. -/
def Rrs (S : Nat → Prop) (w : World) (v : Value) (L : List (List (List UInt8))) : Prop :=
  ∃ A c vs, v = .slice A L.length c ∧ L.length ≤ c ∧ c ≤ 9223372036854775807 ∧ In S w A vs ∧ Vec2 S w vs L
section
variable {S S' : Nat → Prop} {w w' : World} {v v' : Value} {vs ys : List Value} {l m : List (List UInt8)} {L : List (List (List UInt8))} {lo t g : Nat}
theorem Vec.cons {u : Value} {b : List UInt8} (h : Byt S w u b) (k : Vec S w vs l) : Vec S w (u :: vs) (b :: l) := (Vec.one h).cat k
theorem Vec2.nil (S : Nat → Prop) (w : World) : Vec2 S w [] [] := ⟨rfl, fun i u b hu => by simp at hu⟩
theorem Vec2.cons {u : Value} (h : Rws S w u l) (k : Vec2 S w vs L) : Vec2 S w (u :: vs) (l :: L) := ⟨by simp [k.1], fun i u' b' hu hb => by
  cases i with
  | zero => simp at hu hb; subst hu; subst hb; exact h
  | succ i => exact k.2 i u' b' (by simpa using hu) (by simpa using hb)⟩
theorem Rws.of_blk (hB : Blk w g t vs) (hV : Vec S w vs l) (n : Nat) (hn : n = l.length) (hm : n ≤ 9223372036854775807) : Rws (fun b => b = g ∨ S b) w (.slice (some ⟨g, 0, none⟩) n n) l := by
  subst hn
  refine ⟨_, _, vs, rfl, Nat.le_refl _, hm, hV.1, ((hB.in_ 0 vs.length vs (by simp)).mono fun b hb => .inl hb), fun i u b hu hb => (hV.2 i u b hu hb).mono fun b hb => .inr hb⟩
theorem Rrs.of_blk (hB : Blk w g t vs) (hV : Vec2 S w vs L) (n : Nat) (hn : n = L.length) (hm : n ≤ 9223372036854775807) : Rrs (fun b => b = g ∨ S b) w (.slice (some ⟨g, 0, none⟩) n n) L := by
  subst hn
  refine ⟨_, _, vs, rfl, Nat.le_refl _, hm, ((hB.in_ 0 vs.length vs (by simp)).mono fun b hb => .inl hb), hV.1, fun i u b hu hb => (hV.2 i u b hu hb).mono fun b hb => .inr hb⟩
theorem Vec2.kept (h : Vec2 S w vs L) (hk : Kept w w') : Vec2 S w' vs L := ⟨h.1, fun i u b hu hb => (h.2 i u b hu hb).kept hk⟩
theorem Vec2.mono (h : Vec2 S w vs L) (hS : ∀ b, S b → S' b) : Vec2 S' w vs L := ⟨h.1, fun i u b hu hb => (h.2 i u b hu hb).mono hS⟩
theorem Rrs.kept (h : Rrs S w v L) (hk : Kept w w') : Rrs S w' v L := by
  obtain ⟨A, c, vs, rfl, h1, h2, h3, h4⟩ := h; exact ⟨A, c, vs, rfl, h1, h2, h3.kept hk, h4.kept hk⟩
theorem Rrs.butV {x : Value} (h : Rrs S w v L) (hk : ButV x w w') (hg : ∀ b, S b → b < w.heap.size → some b ≠ x.ownBlock) : Rrs S w' v L := by
  obtain ⟨A, c, vs, rfl, h1, h2, h3, h4⟩ := h; exact ⟨A, c, vs, rfl, h1, h2, h3.butV hk hg, h4.1, fun i u b hu hb => (h4.2 i u b hu hb).butV hk hg⟩
theorem Rrs.mono (h : Rrs S w v L) (hS : ∀ b, S b → S' b) : Rrs S' w v L := by
  obtain ⟨A, c, vs, rfl, h1, h2, h3, h4⟩ := h; exact ⟨A, c, vs, rfl, h1, h2, h3.mono hS, h4.mono hS⟩
theorem Rrs.lt (h : Rrs S w v L) : Rrs (fun b => S b ∧ b < w.heap.size) w v L := by
  obtain ⟨A, c, vs, rfl, h1, h2, h3, h4⟩ := h; exact ⟨A, c, vs, rfl, h1, h2, h3.lt, h4.1, fun i u b hu hb => (h4.2 i u b hu hb).lt⟩
theorem Rrs.isl (h : Rrs S w v L) : ∃ A c, v = .slice A L.length c := by obtain ⟨A, c, vs, e, _⟩ := h; exact ⟨A, c, e⟩
theorem Rrs.bound (h : Rrs S w v L) : L.length ≤ 9223372036854775807 := by obtain ⟨A, c, vs, e, h1, h2, _⟩ := h; omega
theorem Rws.of_vec (hO : Own lo w v t 1 vs) (hV : Vec S w vs l) : Rws (fun b => S b ∨ lo ≤ b) w v l :=
  (Rws.of_own hO hV).mono fun b hb => by rcases hb with h | h; exact .inl h; exact .inr h.1
end
section
variable {P : Program} {ro : Option Nat} {Y : List (Option Tmp)} {Q : Exit → Act → World → Prop} {rest : List Oper} {ds : List Deferred} {n : Nat} {l : Env} {a : Act} {w : World}
variable {T : TypeId} {p : String} {af : Array Edge} {x y : Operand} {u : TypeId} {d : Nat} {S : Nat → Prop} {v : Value}
/-- A slice of slices: its address, and it. -/
theorem ixRR {bs : List (List (List UInt8))} {k d' : Nat} {i : Int} {e : TypeId} {T' : TypeId} {p' : String} {af' : Array Edge} {b : List (List UInt8)} (hB : Rrs S w v bs) (hH : Has ds n l a) (hx : ev l x = some v) (hy : ev l y = some (.int .i64 i)) (hu : P.underlying u = some (.slice e))
    (hsz : ∀ w, (sizeOf e).run P w = .ok 1 w) (hag : ∀ w, (isAgg e).run P w = .ok false w) (hk : i = (k : Int)) (hv : bs[k]? = some b) (hd : Nat.blt d n = true) (hd' : Nat.blt d' n = true)
    (h : ∀ a' z v', Has ds n ((d', v') :: (d, z) :: l) a' → Rws S w v' b → wpL P ro Y Q rest a' w) : wpL P ro Y Q (⟨some d, .indexAddr u x y, T, p, af, none⟩ :: ⟨some d', .load e (.tmp d), T', p', af', none⟩ :: rest) a w := by
  obtain ⟨A, c, vs, rfl, h1, h2, h4, h3, h5⟩ := hB
  obtain ⟨hlt, _⟩ := List.getElem?_eq_some_iff.1 hv
  have hu' : vs[k]? = some vs[k] := List.getElem?_eq_getElem (by omega)
  exact ixl hH hx hy hu hsz hag h4 hk h3 hu' hd hd' fun a' z hH' => h a' z _ hH' (h5 k _ _ hu' hv)
end
end Go.Proofs.Ytpgeogdmjgmimaa.K
