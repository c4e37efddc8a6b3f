/-
  Plain: two trees that may be have the same stream just if they are the same. No program in sight.
-/
import Derived.Test.YtpgeogdmjgmimaaPEnt
import Derived.Test.YtpgeogdmjgmimaaW22
set_option linter.unusedVariables false
set_option linter.unusedSimpArgs false
namespace Go.Proofs.Ytpgeogdmjgmimaa.Pl
open Go.Lib Go.Proofs.Ytpgeogdmjgmimaa

theorem may_first {p : List UInt8} (h : pathMay (47 :: p) = true) : False := by
  unfold pathMay at h
  rw [Bool.and_eq_true, List.all_eq_true] at h
  have := h.1 [] (by simp [parts])
  simp [odd] at this
theorem split_join {p : List UInt8} (h : pathMay p = true) (hs : (split p).2.2 = true) : join (split p).1 (split p).2.1 = p := by
  have hnp : (!pathMay p) = false := by rw [h]; rfl
  by_cases h1 : (p.length : Int) ≤ 100
  · rw [split_short hnp h1]; rfl
  · by_cases h2 : indexByte (p.drop (p.length - 101)) 47 < 0
    · rw [split_none hnp h1 (.inl h2)] at hs; cases hs
    · by_cases h3 : 155 < (p.length : Int) - 100 - 1 + indexByte (p.drop (p.length - 101)) 47
      · rw [split_none hnp h1 (.inr h3)] at hs; cases hs
      · rw [split_some hnp h1 h2 h3]
        have hat : (p.drop (p.length - 101))[(indexByte (p.drop (p.length - 101)) 47).toNat]? = some 47 := indexByte_at _ _ (by omega)
        rw [List.getElem?_drop] at hat
        show join (p.take (p.length - 101 + (indexByte (p.drop (p.length - 101)) 47).toNat)) (p.drop (p.length - 101 + (indexByte (p.drop (p.length - 101)) 47).toNat + 1)) = p
        generalize p.length - 101 + (indexByte (p.drop (p.length - 101)) 47).toNat = i at hat ⊢
        obtain ⟨hlt, he⟩ := List.getElem?_eq_some_iff.1 hat
        have hd : p.drop i = 47 :: p.drop (i + 1) := by rw [List.drop_eq_getElem_cons hlt, he]
        unfold join
        rw [if_neg (fun e => by
          have hi : i = 0 := by
            rcases List.take_eq_nil_iff.1 e with e | e
            · exact e
            · rw [e] at hlt; simp at hlt
          rw [hi, List.drop_zero] at hd
          rw [hd] at h
          exact may_first h), List.append_assoc]
        show p.take i ++ 47 :: p.drop (i + 1) = p
        rw [← hd, List.take_append_drop]
theorem pad_take (s : List UInt8) (k : Nat) (hk : k = s.length) : (pad s).take k = s := by
  subst hk; unfold pad; exact List.take_left' rfl
theorem long_inj {k : UInt8} {s s' : List UInt8} {R R' : List (List UInt8)} (hk : k = 75 ∨ k = 76) (hs : longText s = true) (hs' : longText s' = true) (e : (longPut k s).getD [] ++ R = (longPut k s').getD [] ++ R') : s = s' ∧ R = R' := by
  obtain ⟨x, y, h1, h2, h3, h4, h5⟩ := long_two hk hs
  obtain ⟨x', y', h1', h2', h3', h4', h5'⟩ := long_two hk hs'
  rw [h1, h1'] at e
  simp only [List.cons_append, List.nil_append, List.cons.injEq] at e
  obtain ⟨e1, e2, e3⟩ := e
  refine ⟨?_, e3⟩
  rw [e1, h2'] at h2
  have hh := congrArg (fun q => q.1.size) h2
  have hl : (s'.length : Int) + 1 = (s.length : Int) + 1 := hh
  rw [h4, h4'] at e2
  have t1 := pad_take (s ++ [0]) (s.length + 1) (by simp)
  have t2 := pad_take (s' ++ [0]) (s.length + 1) (by simp; omega)
  rw [e2, t2] at t1
  exact (List.append_inj_left' t1 rfl).symm
/-- The type of the header that a row of blocks begins by. -/
def fstT (l : List (List UInt8)) : UInt8 := (getH (l.headD [])).1.typ
theorem fst_long {k : UInt8} {s : List UInt8} (hk : k = 75 ∨ k = 76) (hs : longText s = true) (R : List (List UInt8)) : fstT ((longPut k s).getD [] ++ R) = k := by
  obtain ⟨x, y, h1, h2, h3, h4, h5⟩ := long_two hk hs
  rw [h1]; show (getH x).1.typ = k; rw [h2]; rfl
theorem fst_own {n : Nd} (h : one n = true) (R : List (List UInt8)) : fstT (entBlk n :: R) = n.kind := by
  show (getH (entBlk n)).1.typ = _; rw [entBlk_get h]; rfl
theorem kind_no {n : Nd} (h : one n = true) : n.kind ≠ 75 ∧ n.kind ≠ 76 := by
  rcases kind_in (one_parts h).1 with h | h | h | h <;> rw [h] <;> decide
def lnk (n : Nd) : List (List UInt8) := if 100 < n.link.length then (longPut 75 n.link).getD [] else []
def pth (n : Nd) : List (List UInt8) := if (needs n).1 = true then (longPut 76 n.path).getD [] else []
theorem ent_parts {n : Nd} (h : one n = true) : entPut n = lnk n ++ (pth n ++ (entBlk n :: cutB n.data)) := by
  rw [entPut_eq h, ahead_eq h, List.append_assoc]; rfl
theorem fst_pth {n : Nd} (h : one n = true) (R : List (List UInt8)) : fstT (pth n ++ (entBlk n :: R)) = if (needs n).1 = true then 76 else n.kind := by
  unfold pth
  split
  · exact fst_long (.inr rfl) (may_long (one_parts h).2.1) _
  · rw [List.nil_append]; exact fst_own h _
theorem fst_lnk {n : Nd} (h : one n = true) (R : List (List UInt8)) : fstT (lnk n ++ (pth n ++ (entBlk n :: R))) = if 100 < n.link.length then 75 else if (needs n).1 = true then 76 else n.kind := by
  unfold lnk
  split
  · rename_i hl; exact fst_long (.inl rfl) ((link_ok (one_parts h).1).2.2 hl) _
  · rw [List.nil_append]; exact fst_pth h _
theorem needs_split {n : Nd} (h : one n = true) (hn : ¬ (needs n).1 = true) : (split n.path).2.2 = true := by
  have hm := (one_parts h).2.1
  have : ¬ (!(split n.path).2.2 && pathMay n.path) = true := hn
  rw [hm] at this
  cases e : (split n.path).2.2 with
  | true => rfl
  | false => rw [e] at this; exact absurd rfl this
/-- A node's blocks tell the node, and where they end. -/
theorem ent_inj {n m : Nd} {X Y : List (List UInt8)} (hn : one n = true) (hm : one m = true) (e : entPut n ++ X = entPut m ++ Y) : n = m ∧ X = Y := by
  have pn := one_parts hn
  have pm := one_parts hm
  have kn := kind_no hn
  have km := kind_no hm
  rw [ent_parts hn, ent_parts hm] at e
  simp only [List.append_assoc, List.cons_append] at e
  have e1 := congrArg fstT e
  rw [fst_lnk hn, fst_lnk hm] at e1
  -- the long links
  have step1 : (100 < n.link.length ↔ 100 < m.link.length) ∧ (100 < n.link.length → n.link = m.link) ∧ pth n ++ (entBlk n :: (cutB n.data ++ X)) = pth m ++ (entBlk m :: (cutB m.data ++ Y)) := by
    by_cases a : 100 < n.link.length
    · by_cases b : 100 < m.link.length
      · unfold lnk at e
        rw [if_pos a, if_pos b] at e
        have := long_inj (.inl rfl) ((link_ok pn.1).2.2 a) ((link_ok pm.1).2.2 b) e
        exact ⟨⟨fun _ => b, fun _ => a⟩, fun _ => this.1, this.2⟩
      · exfalso
        rw [if_pos a, if_neg b] at e1
        split at e1
        · revert e1; decide
        · exact km.1 e1.symm
    · by_cases b : 100 < m.link.length
      · exfalso
        rw [if_neg a, if_pos b] at e1
        split at e1
        · revert e1; decide
        · exact kn.1 e1
      · unfold lnk at e
        rw [if_neg a, if_neg b] at e
        exact ⟨⟨fun h => absurd h a, fun h => absurd h b⟩, fun h => absurd h a, e⟩
  obtain ⟨l1, l2, e2⟩ := step1
  have e3 := congrArg fstT e2
  rw [fst_pth hn, fst_pth hm] at e3
  have step2 : ((needs n).1 = (needs m).1) ∧ ((needs n).1 = true → n.path = m.path) ∧ entBlk n :: (cutB n.data ++ X) = entBlk m :: (cutB m.data ++ Y) := by
    by_cases a : (needs n).1 = true
    · by_cases b : (needs m).1 = true
      · unfold pth at e2
        rw [if_pos a, if_pos b] at e2
        have := long_inj (.inr rfl) (may_long pn.2.1) (may_long pm.2.1) e2
        exact ⟨by rw [a, b], fun _ => this.1, this.2⟩
      · exfalso
        rw [if_pos a, if_neg b] at e3
        exact km.2 e3.symm
    · by_cases b : (needs m).1 = true
      · exfalso
        rw [if_neg a, if_pos b] at e3
        exact kn.2 e3
      · unfold pth at e2
        rw [if_neg a, if_neg b] at e2
        exact ⟨by rw [Bool.not_eq_true] at a b; rw [a, b], fun h => absurd h a, e2⟩
  obtain ⟨q1, q2, e4⟩ := step2
  obtain ⟨e5, e6⟩ := List.cons.inj e4
  have g1 := entBlk_get hn
  rw [e5, entBlk_get hm] at g1
  have hh : entHead m = entHead n := congrArg Prod.fst g1
  have f1 : (names m).1 = (names n).1 := congrArg Hd.name hh
  have f2 : (split m.path).1 = (split n.path).1 := congrArg Hd.pre hh
  have f3 : short m.link = short n.link := congrArg Hd.link hh
  have f4 : m.mode = n.mode := congrArg Hd.mode hh
  have f5 : m.uid = n.uid := congrArg Hd.uid hh
  have f6 : m.gid = n.gid := congrArg Hd.gid hh
  have f7 : (m.data.length : Int) = n.data.length := congrArg Hd.size hh
  have f8 : m.mtime = n.mtime := congrArg Hd.mtime hh
  have f9 : m.kind = n.kind := congrArg Hd.typ hh
  have hlk : n.link = m.link := by
    by_cases a : 100 < n.link.length
    · exact l2 a
    · have b : ¬ 100 < m.link.length := fun h => a (l1.2 h)
      unfold short at f3
      rw [List.take_of_length_le (by omega), List.take_of_length_le (by omega)] at f3
      exact f3.symm
  have hpt : n.path = m.path := by
    by_cases a : (needs n).1 = true
    · exact q2 a
    · have b : ¬ (needs m).1 = true := by rw [← q1]; exact a
      unfold names at f1
      rw [if_neg a, if_neg b] at f1
      have s1 := split_join pn.2.1 (needs_split hn a)
      have s2 := split_join pm.2.1 (needs_split hm b)
      simp only at f1
      rw [← s1, ← s2, f1, f2]
  have hlen : (cutB n.data).length = (cutB m.data).length := by
    rw [cutB_len2, cutB_len2]
    have : n.data.length = m.data.length := by omega
    rw [this]
  obtain ⟨c1, c2⟩ := List.append_inj e6 hlen
  have hdt : n.data = m.data := by
    have t1 := textB_cutB n.data
    have t2 := textB_cutB m.data
    rw [c1, ← f7, t2] at t1
    exact (Option.some.inj t1).symm
  refine ⟨?_, c2⟩
  obtain ⟨a1, a2, a3, a4, a5, a6, a7, a8⟩ := n
  obtain ⟨b1, b2, b3, b4, b5, b6, b7, b8⟩ := m
  simp only at f4 f5 f6 f8 f9 hlk hpt hdt
  subst f4 f5 f6 f8 f9 hlk hpt hdt
  rfl
theorem may_one : ∀ {t seen : List Nd} {last : List UInt8}, mayFrom seen last t = true → ∀ n ∈ t, one n = true
  | [], _, _, _, n, hn => by cases hn
  | x :: t, seen, last, h, n, hn => by
    unfold mayFrom at h
    rw [Bool.and_eq_true] at h
    rcases List.mem_cons.1 hn with rfl | hn
    · have h1 := h.1
      unfold nodeOk at h1
      rw [Bool.and_eq_true] at h1
      cases ho : one n with
      | true => rfl
      | false => rw [ho] at h1; simp at h1
    · exact may_one h.2 n hn
theorem tree_one {t : List Nd} (h : treeMay t = true) : ∀ n ∈ t, one n = true := by
  unfold treeMay at h
  rw [Bool.and_eq_true] at h
  exact may_one h.2
theorem ent_zero {n : Nd} {X : List (List UInt8)} (h : one n = true) (e : zerosB 2 = entPut n ++ X) : False := by
  obtain ⟨x, hx, hg, _⟩ := first_cases h
  have h0 : (zerosB 2)[0]? = some x := by
    rw [e, List.getElem?_append_left (List.getElem?_eq_some_iff.1 hx).1, hx]
  have hz : x = List.replicate 512 0 := by
    have : (zerosB 2)[0]? = some (List.replicate 512 0) := rfl
    rw [this] at h0; exact (Option.some.inj h0).symm
  have := get_zero (b := x) (by rw [hz, List.length_replicate]; rfl) (by rw [hz]; decide +kernel)
  rw [this] at hg; cases hg
theorem ents_inj : ∀ {t u : List Nd}, (∀ n ∈ t, one n = true) → (∀ n ∈ u, one n = true) → (t.map entPut).flatten ++ zerosB 2 = (u.map entPut).flatten ++ zerosB 2 → t = u
  | [], [], _, _, _ => rfl
  | [], m :: u, _, hu, e => by
    exfalso
    rw [List.map_cons, List.flatten_cons, List.append_assoc] at e
    exact ent_zero (hu m (List.mem_cons_self ..)) e
  | n :: t, [], ht, _, e => by
    exfalso
    rw [List.map_cons, List.flatten_cons, List.append_assoc] at e
    exact ent_zero (ht n (List.mem_cons_self ..)) e.symm
  | n :: t, m :: u, ht, hu, e => by
    rw [List.map_cons, List.map_cons, List.flatten_cons, List.flatten_cons, List.append_assoc, List.append_assoc] at e
    obtain ⟨e1, e2⟩ := ent_inj (ht n (List.mem_cons_self ..)) (hu m (List.mem_cons_self ..)) e
    rw [e1, ents_inj (fun x hx => ht x (List.mem_cons_of_mem _ hx)) (fun x hx => hu x (List.mem_cons_of_mem _ hx)) e2]
/-- Two trees that may be have the same stream just if they are the same. -/
theorem allB_inj {t u : List Nd} (ht : treeMay t = true) (hu : treeMay u = true) : allB t = allB u ↔ t = u := by
  constructor
  · intro e
    rw [all_eq ht, all_eq hu] at e
    exact ents_inj (tree_one ht) (tree_one hu) e
  · rintro rfl; rfl
end Go.Proofs.Ytpgeogdmjgmimaa.Pl
