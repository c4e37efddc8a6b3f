/-
  Plain functions of layer 5: long texts; and nodes. No program in sight.
-/
import Derived.Test.YtpgeogdmjgmimaaPHead
set_option linter.unusedVariables false
set_option linter.unusedSimpArgs false
namespace Go.Proofs.Ytpgeogdmjgmimaa.Pl
open Go.Lib

structure Nd where
  path : List UInt8
  link : List UInt8
  kind : UInt8
  mode : Int
  uid : Int
  gid : Int
  mtime : Int
  data : List UInt8
  deriving DecidableEq
def Nd.none : Nd := ⟨[], [], 0, 0, 0, 0, 0, []⟩
def longText (s : List UInt8) : Bool := !decide (s = []) && decide ((s.length : Int) ≤ 300) && decide (indexByte s 0 < 0)
def longName : List UInt8 := [46, 47, 46, 47, 64, 76, 111, 110, 103, 76, 105, 110, 107]
def longHead (kind : UInt8) (s : List UInt8) : Hd := { Hd.none with name := longName, size := (s.length : Int) + 1, typ := kind }
def longPut (kind : UInt8) (s : List UInt8) : Option (List (List UInt8)) :=
  if (kind = 75 ∨ kind = 76) ∧ longText s = true then some ([(putH (longHead kind s)).getD []] ++ cutB (s ++ [0])) else Option.none
def needs (n : Nd) : Bool × Bool := (!(split n.path).2.2 && pathMay n.path, decide (100 < (n.link.length : Int)))
def short (s : List UInt8) : List UInt8 := s.take (min s.length 100)
def names (n : Nd) : List UInt8 × List UInt8 × List UInt8 := (if (needs n).1 = true then short n.path else (split n.path).2.1, (split n.path).1, short n.link)
def aheadPart (is : Bool) (kind : UInt8) (s : List UInt8) : List (List UInt8) := if is = true then (longPut kind s).getD [] else []
def ahead (n : Nd) : List (List UInt8) := aheadPart (needs n).2 75 n.link ++ aheadPart (needs n).1 76 n.path
end Go.Proofs.Ytpgeogdmjgmimaa.Pl
