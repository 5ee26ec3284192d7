/- Variables that are to stay as they are at a function's end; contracts by hand (the session's own words). -/
import Derived.Test.YtcdeidljcmlfdaaDoorFacts
import Derived.Test.YtcdeidljcmlfdaaDoorPlx
namespace Go.Proofs.YtcdeidljcmlfdaaDoor
open Go Go.Eng
/-- the variables that a function's results are made of -/
def ends (f : FuncId) : List Tmp := []
/-- places of appends, and of calls, that make variables, by region; with 3000000: rights go along -/
def hvars (f : FuncId) (id : Nat) : List Tmp := if f = 6 then (if id = 1 then [6] else []) else []
/-- which result takes its rights along -/
def rmv (f : FuncId) : List Nat := []
/-- contracts by hand -/
def prims : FTy := fun f ds os =>
  if f = 11 then pWord ds os else
  if f = 32 then pDigits ds os else
  if f = 35 then pIndexByte ds os else
  if f = 33 then pParseInt ds os else
  if f = 9 then pWords ds os else none
end Go.Proofs.YtcdeidljcmlfdaaDoor
