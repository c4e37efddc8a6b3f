/-
  Plain functions of layers 15, 9 and 10: what goes on; the parser; nodes out of a stream. No program in sight.
-/
import Derived.Test.YtpgeogdmjgmimaaPTree
set_option linter.unusedVariables false
set_option linter.unusedSimpArgs false
namespace Go.Proofs.Ytpgeogdmjgmimaa.Pl
open Go.Lib

def isFile (n : Nd) : Bool := decide (n.kind = 48) && one n
def contMay (n : Nd) (off : Int) : Bool := isFile n && (decide (0 ≤ off) && (decide (off < n.data.length) && decide (off % 512 = 0)))
def contMany (n : Nd) : Int := if isFile n = false then 0 else if 100 < n.path.length then 3 else 1
def contHead (n : Nd) (off whole : Int) : Hd := { name := short n.path, pre := [], link := [], mode := n.mode, uid := n.uid, gid := n.gid, size := whole - off, mtime := n.mtime, typ := 77, off := off, real := whole }
def contRaw (n : Nd) (off whole : Int) : List (List UInt8) := (if 100 < n.path.length then (longPut 76 n.path).getD [] else []) ++ [(putH (contHead n off whole)).getD []]
def contPut (n : Nd) (off : Int) : Option (List (List UInt8)) := if contMay n off = true then some (contRaw n off n.data.length) else none
/-- A text without the nought that it ends by, if it does. -/
def trimZ (s : List UInt8) : List UInt8 := if s.getLast? = some 0 then s.dropLast else s
def nextH (l : List (List UInt8)) (k : Nat) : Option Hd := match l[k]? with
  | none => none
  | some b => if (getH b).2 = 0 then some (getH b).1 else none
def contNode (name : List UInt8) (h : Hd) : Nd := { path := name, link := [], kind := 48, mode := h.mode, uid := h.uid, gid := h.gid, mtime := h.mtime, data := [] }
def contEnd (l : List (List UInt8)) (k : Nat) (name : List UInt8) (h : Hd) : Option (Nd × Int × Int × Nat) :=
  if h.typ ≠ 77 then none else
  let name := if name = [] then h.name else name
  let n := contNode name h
  if (pathMay name && (isFile n && (decide (h.real ≤ 4000) && (decide (h.off < h.real) && decide (h.off % 512 = 0))))) = true ∧ contRaw n h.off h.real = l.take k then some (n, h.off, h.real, k) else none
def contGet (l : List (List UInt8)) : Option (Nd × Int × Int × Nat) := match nextH l 0 with
  | none => none
  | some h =>
    if h.typ = 76 then
      match l[1]? with
      | none => none
      | some b =>
        if b.length ≠ 512 ∨ h.size < 2 ∨ 301 < h.size then none else
        match nextH l 2 with
        | none => none
        | some g => contEnd l 3 (trimZ (b.take h.size.toNat)) g
    else contEnd l 1 [] h

structure St where
  phase : Int
  node : Nd
  size : Int
  left : Int
  text : List UInt8
  name : List UInt8
  link : List UInt8
  deriving DecidableEq
structure Ev where
  kind : Int
  node : Nd
  data : List UInt8
  deriving DecidableEq
def St.none : St := ⟨0, Nd.none, 0, 0, [], [], []⟩
def Ev.over : Ev := ⟨2, Nd.none, []⟩
def mayTxt (x : List UInt8) : Bool := decide (x = []) || longText x
def wordsS (s : St) : Bool := mayTxt s.name && mayTxt s.link
def stMay (s : St) : Bool :=
  if s.phase = 0 then decide (s = { St.none with name := s.name, link := s.link }) && wordsS s
  else if s.phase = 1 ∨ s.phase = 2 then
    decide (s = { St.none with phase := s.phase, size := s.size, left := s.size, name := s.name, link := s.link }) && (decide ((if s.phase = 2 then s.link else s.name) = []) && (inB s.size 2 301 && wordsS s))
  else if s.phase = 3 then
    decide (s = { St.none with phase := s.phase, node := s.node, size := s.size, left := s.left }) && (decide (s.node.kind = 48) && (decide (s.node.data = []) && (one s.node && (inB s.size 1 4000 && (inB s.left 1 s.size && decide ((s.size - s.left) % 512 = 0))))))
  else if s.phase = 4 ∨ s.phase = 5 then decide (s = { St.none with phase := s.phase })
  else false
/-- What a step comes to: a state and what is told; or an error. -/
abbrev Res := Except Int (St × List Ev)
def nodeOf (h : Hd) (name link : List UInt8) : Nd := { path := if name = [] then join h.pre h.name else name, link := if link = [] then h.link else link, kind := h.typ, mode := h.mode, uid := h.uid, gid := h.gid, mtime := h.mtime, data := [] }
def mostOf (t : UInt8) : Int := if t = 48 then 4000 else 0
def nodeR (p : St) (h : Hd) : Res :=
  if p.name ≠ [] ∧ ¬ (h.pre = [] ∧ h.name = short p.name) then .error 2 else
  if p.link ≠ [] ∧ ¬ (h.link = short p.link) then .error 2 else
  if pathMay (nodeOf h p.name p.link).path = false then .error 6 else
  if one (nodeOf h p.name p.link) = false ∨ mostOf h.typ < h.size then .error 2 else
  if h.size = 0 then .ok (St.none, [⟨0, nodeOf h p.name p.link, []⟩, Ev.over]) else
  .ok ({ St.none with phase := 3, node := nodeOf h p.name p.link, size := h.size, left := h.size }, [⟨0, nodeOf h p.name p.link, []⟩])
def textR (p : St) (h : Hd) (own : List UInt8) (phase : Int) : Res :=
  if own ≠ [] then .error 5 else
  if h ≠ { Hd.none with name := longName, size := h.size, typ := h.typ } ∨ inB h.size 2 301 = false then .error 2 else
  .ok ({ p with phase := phase, size := h.size, left := h.size }, [])
def headR (p : St) (b : List UInt8) : Res :=
  let h := (getH b).1
  let e := (getH b).2
  if e = 4 then (if p.name = [] ∧ p.link = [] then .ok ({ p with phase := 4 }, []) else .error 2) else
  if e ≠ 0 then .error e else
  if h.typ = 76 then textR p h p.name 1 else
  if h.typ = 75 then textR p h p.link 2 else
  if h.typ = 77 ∨ h.typ = 86 then .error 5 else nodeR p h
def endsZ (s : List UInt8) : Bool := decide (s.getLast? = some 0)
def nameR (p : St) (b : List UInt8) : Res :=
  let x := b.take p.size.toNat
  if (endsZ x && (longText (trimZ x) && zeroB (b.drop p.size.toNat))) = false then .error 2 else
  .ok ({ p with name := if p.phase = 1 then trimZ x else p.name, link := if p.phase = 1 then p.link else trimZ x, phase := 0, size := 0, left := 0 }, [])
def dataR (p : St) (b : List UInt8) : Res :=
  let n := min p.left 512
  if p.left - n = 0 then .ok (St.none, [⟨1, Nd.none, b.take n.toNat⟩, Ev.over]) else .ok ({ p with left := p.left - n }, [⟨1, Nd.none, b.take n.toNat⟩])
def stepR (s : St) (b : List UInt8) : Res :=
  if s.phase = 0 then headR s b else
  if s.phase = 1 ∨ s.phase = 2 then nameR s b else
  if s.phase = 3 then dataR s b else
  if s.phase = 4 then (if zeroB b = true then .ok ({ s with phase := 5 }, []) else .error 2) else .error 17
def step (s : St) (b : List UInt8) : St × List Ev × Int :=
  if stMay s = false ∨ b.length ≠ 512 then (s, [], 1) else
  match stepR s b with
  | .ok (t, l) => (t, l, 0)
  | .error e => (s, [], e)
def run : St → List (List UInt8) → St × List Ev × Nat × Int
  | s, [] => (s, [], 0, 0)
  | s, b :: l =>
    if (step s b).2.2 ≠ 0 then (s, [], 0, (step s b).2.2) else
    if (step s b).1.phase = 5 then ((step s b).1, (step s b).2.1, 1, 0) else
    let r := run (step s b).1 l
    (r.1, (step s b).2.1 ++ r.2.1, r.2.2.1 + 1, r.2.2.2)
/-- The last node with more bytes. -/
def grow (out : List Nd) (x : List UInt8) : List Nd := match out.getLast? with
  | none => out
  | some n => out.dropLast ++ [{ n with data := n.data ++ x }]
def take1 (out : List Nd) (op : Bool) (e : Ev) : Option (List Nd × Bool) :=
  if e.kind = 0 ∧ op = false then some (out ++ [e.node], true)
  else if e.kind = 1 ∧ op = true then some (grow out e.data, true)
  else if e.kind = 2 ∧ op = true then some (out, false)
  else none
def gatherF (out : List Nd) (op : Bool) : List Ev → List Nd × Bool
  | [] => (out, true)
  | e :: l => match take1 out op e with
    | none => (out, false)
    | some q => gatherF q.1 q.2 l
def gather (l : List Ev) : List Nd × Bool := gatherF [] false l
def partR (l : List (List UInt8)) : List Nd × Int := ((gather (run St.none l).2.1).1, (run St.none l).2.2.2)
def readR (l : List (List UInt8)) : List Nd × Int :=
  if (run St.none l).2.2.2 ≠ 0 then ([], (run St.none l).2.2.2) else
  if (run St.none l).1.phase ≠ 5 then ([], 7) else ((gather (run St.none l).2.1).1, 0)
def usedR (l : List (List UInt8)) : Nat := (run St.none l).2.2.1
end Go.Proofs.Ytpgeogdmjgmimaa.Pl
