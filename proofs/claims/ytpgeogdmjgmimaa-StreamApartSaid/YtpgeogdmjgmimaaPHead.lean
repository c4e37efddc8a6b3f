/-
  Plain functions of layer 4: headers. No program in sight.
-/
import Derived.Test.YtpgeogdmjgmimaaPBlk
set_option linter.unusedVariables false
set_option linter.unusedSimpArgs false
namespace Go.Proofs.Ytpgeogdmjgmimaa.Pl
open Go.Lib

structure Hd where
  name : List UInt8
  pre : List UInt8
  link : List UInt8
  mode : Int
  uid : Int
  gid : Int
  size : Int
  mtime : Int
  typ : UInt8
  off : Int
  real : Int
  deriving DecidableEq
def Hd.none : Hd := ⟨[], [], [], 0, 0, 0, 0, 0, 0, 0, 0⟩
/-- A text's and a number's place among a header's cells. -/
def hS (h : Hd) : Nat → List UInt8
  | 0 => h.name
  | 1 => h.pre
  | _ => h.link
def hN (h : Hd) : Nat → Int
  | 3 => h.mode
  | 4 => h.uid
  | 5 => h.gid
  | 6 => h.size
  | 7 => h.mtime
  | 9 => h.off
  | _ => h.real
def setS (h : Hd) : Nat → List UInt8 → Hd
  | 0, s => { h with name := s }
  | 1, s => { h with pre := s }
  | _, s => { h with link := s }
def setN (h : Hd) : Nat → Int → Hd
  | 3, n => { h with mode := n }
  | 4, n => { h with uid := n }
  | 5, n => { h with gid := n }
  | 6, n => { h with size := n }
  | 7, n => { h with mtime := n }
  | 9, n => { h with off := n }
  | _, n => { h with real := n }
/-- Where a header's texts, and its numbers, stand: the place, how long, and which one. -/
def wordsL (t : UInt8) : List (Nat × Nat × Nat) := [(0, 100, 0), (157, 100, 2)] ++ if t = 77 then [] else [(345, 155, 1)]
def numsL (t : UInt8) : List (Nat × Nat × Nat) := [(100, 8, 3), (108, 8, 4), (116, 8, 5), (124, 12, 6), (136, 12, 7)] ++ if t = 77 then [(369, 12, 9), (483, 12, 10)] else []
def kindsS : List UInt8 := [48, 49, 50, 53, 75, 76, 77, 86]
def okW (h : Hd) (x : Nat × Nat × Nat) : Bool := !(decide (((x.2.1 : Nat) : Int) < (hS h x.2.2).length) || decide (0 ≤ indexByte (hS h x.2.2) 0))
def okN (h : Hd) (x : Nat × Nat × Nat) : Bool := (putN (hN h x.2.2) (x.2.1 : Nat)).isSome
def may1 (h : Hd) : Bool := !(decide (h.name = []) || decide (indexByte kindsS h.typ < 0))
def may2 (h : Hd) : Bool := !((decide (h.typ = 77) && !decide (h.pre = [])) || (!decide (h.typ = 77) && (!decide (h.off = 0) || !decide (h.real = 0))))
def mayH (h : Hd) : Bool := may1 h && may2 h && (wordsL h.typ).all (okW h) && (numsL h.typ).all (okN h)
/-- Bytes written at a place. -/
def wr (p : List UInt8) (at_ : Nat) (x : List UInt8) : List UInt8 := p.take at_ ++ x ++ p.drop (at_ + x.length)
def wrs (p : List UInt8) (at_ : Nat) : List (List UInt8) → List UInt8
  | [] => p
  | x :: l => wrs (wr p at_ x) (at_ + x.length) l
/-- A block's sum: its bytes, the sum's own place as blanks. -/
def sumAt : Nat → List UInt8 → Int
  | _, [] => 0
  | i, c :: l => (if 148 ≤ i ∧ i < 156 then 32 else (c.toNat : Int)) + sumAt (i + 1) l
def sumB (b : List UInt8) : Int := if b.length = 512 then sumAt 0 b else -1
def sumF (b : List UInt8) : List UInt8 := (octal (sumB b) 6).getD [] ++ [0, 32]
def page1 (h : Hd) : List UInt8 := (wordsL h.typ).foldl (fun p x => wr p x.1 (hS h x.2.2)) (List.replicate 512 0)
def page2 (h : Hd) : List UInt8 := (numsL h.typ).foldl (fun p x => wr p x.1 ((putN (hN h x.2.2) (x.2.1 : Nat)).getD [])) (page1 h)
def page3 (h : Hd) : List UInt8 := wrs (wrs (page2 h) 156 [[h.typ]]) 257 [[117, 115, 116, 97, 114], [0], [48, 48]]
def page (h : Hd) : List UInt8 := wrs (page3 h) 148 [sumF (page3 h)]
def putH (h : Hd) : Option (List UInt8) := if mayH h = true then some (page h) else Option.none
def decW (b : List UInt8) (x : Nat × Nat × Nat) : List UInt8 := (cutS ((b.take (x.1 + x.2.1)).drop x.1) 0).1
def decN (b : List UInt8) (x : Nat × Nat × Nat) : Int := (getN ((b.take (x.1 + x.2.1)).drop x.1)).getD 0
def decH (b : List UInt8) : Hd :=
  let t := b.getD 156 0
  (numsL t).foldl (fun h x => setN h x.2.2 (decN b x)) ((wordsL t).foldl (fun h x => setS h x.2.2 (decW b x)) { Hd.none with typ := t })
def getH (b : List UInt8) : Hd × Int :=
  if b.length ≠ 512 then (Hd.none, 1) else if zeroB b = true then (Hd.none, 4) else
  if (b.take 156).drop 148 ≠ sumF b then (Hd.none, 3) else
  if putH (decH b) = some b then (decH b, 0) else (Hd.none, 2)
theorem sumAt_range (i : Nat) (b : List UInt8) : 0 ≤ sumAt i b ∧ sumAt i b ≤ 255 * b.length := by
  induction b generalizing i with
  | nil => simp [sumAt]
  | cons c l ih =>
    have := ih (i + 1)
    have h := c.toNat_lt
    unfold sumAt
    split <;> simp <;> omega
theorem sumB_range (b : List UInt8) : -1 ≤ sumB b ∧ sumB b ≤ 130560 := by
  unfold sumB
  split
  · have := sumAt_range 0 b; omega
  · omega
theorem sumAt_next (i : Nat) (b : List UInt8) (x : UInt8) : sumAt i (b ++ [x]) = sumAt i b + (if 148 ≤ i + b.length ∧ i + b.length < 156 then 32 else (x.toNat : Int)) := by
  induction b generalizing i with
  | nil => simp [sumAt]
  | cons c l ih =>
    rw [List.cons_append, sumAt, sumAt, ih]
    rw [List.length_cons]
    have e : i + 1 + l.length = i + (l.length + 1) := by omega
    rw [e]; omega
theorem wr_len {p x : List UInt8} {i : Nat} (h : i + x.length ≤ p.length) : (wr p i x).length = p.length := by simp [wr]; omega
theorem wrs_append (p : List UInt8) (i : Nat) (l m : List (List UInt8)) : wrs p i (l ++ m) = wrs (wrs p i l) (i + l.flatten.length) m := by
  induction l generalizing p i with
  | nil => simp [wrs]
  | cons x l ih => simp [wrs, ih, Nat.add_assoc]
theorem wrs_len {p : List UInt8} {i : Nat} {l : List (List UInt8)} (h : i + l.flatten.length ≤ p.length) : (wrs p i l).length = p.length := by
  induction l generalizing p i with
  | nil => rfl
  | cons x l ih =>
    simp at h
    rw [wrs, ih (by rw [wr_len (by omega)]; simp; omega), wr_len (by omega)]
end Go.Proofs.Ytpgeogdmjgmimaa.Pl
