/-
  What the program's closures say of an act and of words, kind by kind, as plain functions.
-/
import Derived.Test.YtdgciagmcjdhhaaGreatDoorReads
set_option linter.unusedVariables false
set_option linter.unusedSimpArgs false
namespace Go.Proofs.YtdgciagmcjdhhaaGreatDoor
open Go Go.RowKit

def readCall (k : Int) (l : List ByteArray) : Option ActD :=
  if l.length = 3 then (numsQ (l.take 2) 2).bind fun vs => (parseN (nths l 2)).map fun u => { actZ k with a := nth vs 0, b := nth vs 1, val := u } else none
def opOf (l : List ByteArray) : Option (Int × ByteArray × Int × Int) := if l.length < 2 then none else parseOp l
def readReq (k : Int) (l : List ByteArray) : Option ActD :=
  if l.length < 2 then none else (opOf (l.drop 2)).bind fun q => (numsQ (l.take 2) 2).map fun vs => { actZ k with a := nth vs 0, b := nth vs 1, ok := q.1, key := q.2.1, val := q.2.2.1, old := q.2.2.2 }
/-- What the closure 'read' of kind k makes of words. -/
def readK (k : Nat) (l : List ByteArray) : Option ActD :=
  if k = 4 ∨ k = 16 then readPl k l
  else if k = 5 then readCrash k l
  else if k = 7 then readNs k 2 l
  else if k = 10 then readReq k l
  else if k = 12 then readCall k l
  else if k = 14 then readNs k 3 l
  else if k = 15 then (parseAll l).map fun vs => { actZ k with ms := vs }
  else readNs k 1 l
/-- The kind that a word stands for. -/
def kindOf (w : ByteArray) : Option Nat := (List.range 18).find? fun k => decide (bs (wordL k) = w)
/-- The act that a text stands for. -/
def parseActD (l : List ByteArray) : Option ActD :=
  match l with
  | [] => none
  | w :: r => (kindOf w).bind fun k => (readK k r).bind fun y => if validB y then some y else none
end Go.Proofs.YtdgciagmcjdhhaaGreatDoor
