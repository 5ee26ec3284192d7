/- Variables that are to stay as they are at a function's end; contracts by hand (the session's own words). -/
import Derived.Test.YtjdmjofkibiaaaaGreatDoorFacts
import Derived.Test.YtjdmjofkibiaaaaGreatDoorPdb
namespace Go.Proofs.YtjdmjofkibiaaaaGreatDoor
open Go Go.Eng
/-- the variables that a function's results are made of -/
def ends (f : FuncId) : List Tmp := if f = 37 then [8] else if f = 33 then [9] else if f = 45 then [17] else []
/-- places of appends, and of calls, that make variables, by region; with 3000000: rights go along -/
def hvars (f : FuncId) (id : Nat) : List Tmp := if f = 207 then (if id = 1 then [13] else []) else if f = 43 then (if id = 25 then [3000117] else []) else if f = 19 then (if id = 28 then [3000116, 3000114] else if id = 31 then [3000128] else []) else if f = 92 then (if id = 5 then [23] else []) else []
/-- which result takes its rights along -/
def rmv (f : FuncId) : List Nat := if f = 43 then [0] else []
/-- contracts by hand -/
def prims : FTy := fun f ds os =>
  if f = 156 then pReplaceAll ds os else
  if f = 155 then pCopyCheck ds os else
  if f = 116 then pString ds os else none
end Go.Proofs.YtjdmjofkibiaaaaGreatDoor
