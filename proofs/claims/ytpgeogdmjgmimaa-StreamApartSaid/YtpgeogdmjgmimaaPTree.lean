/-
  Plain functions of layers 6 to 8: trees, nodes as blocks, streams. No program in sight.
-/
import Derived.Test.YtpgeogdmjgmimaaPLong
set_option linter.unusedVariables false
set_option linter.unusedSimpArgs false
namespace Go.Proofs.Ytpgeogdmjgmimaa.Pl
open Go.Lib

def kindMay (n : Nd) : Bool :=
  if n.kind = 48 then decide (n.link = []) && decide ((n.data.length : Int) ≤ 4000)
  else if n.kind = 49 then decide (n = { Nd.none with path := n.path, link := n.link, kind := n.kind }) && pathMay n.link
  else if n.kind = 50 then longText n.link && decide (n.data = [])
  else if n.kind = 53 then decide (n.link = []) && decide (n.data = [])
  else false
def one (n : Nd) : Bool := kindMay n && (pathMay n.path && (inR n.mode 4095 && (inR n.uid 1099511627776 && (inR n.gid 1099511627776 && inR n.mtime 1099511627776))))
/-- The kind of the node of a path, among those that were (the last one first). -/
def kindAt : List Nd → List UInt8 → UInt8
  | [], _ => 0
  | n :: l, p => if n.path = p then n.kind else kindAt l p
def nodeOk (seen : List Nd) (last : List UInt8) (n : Nd) : Bool :=
  !(!one n || (Go.Op.bytesLess n.path last || n.path == last)) && (!((parent n.path).2 && !decide (kindAt seen (parent n.path).1 = 53)) && !(decide (n.kind = 49) && !decide (kindAt seen n.link = 48)))
def mayFrom : List Nd → List UInt8 → List Nd → Bool
  | _, _, [] => true
  | seen, last, n :: l => nodeOk seen last n && mayFrom (n :: seen) n.path l
def treeMay (t : List Nd) : Bool := decide (t.length ≤ 20) && mayFrom [] [] t
def entHead (n : Nd) : Hd := { name := (names n).1, pre := (names n).2.1, link := (names n).2.2, mode := n.mode, uid := n.uid, gid := n.gid, size := n.data.length, mtime := n.mtime, typ := n.kind, off := 0, real := 0 }
def entBlocks (n : Nd) : List (List UInt8) := ahead n ++ [(putH (entHead n)).getD []] ++ cutB n.data
def entPut (n : Nd) : List (List UInt8) := if one n = true then entBlocks n else []
def entData (n : Nd) : Int := if one n = true then many n.data.length else 0
def allB (t : List Nd) : List (List UInt8) := if treeMay t = true then (t.map entPut).flatten ++ zerosB 2 else []
def startsFrom : Nat → List Nd → List Nat
  | a, [] => [a]
  | a, n :: l => a :: startsFrom (a + (entPut n).length) l
def starts (t : List Nd) : List Nat := if treeMay t = true then startsFrom 0 t else []
end Go.Proofs.Ytpgeogdmjgmimaa.Pl
