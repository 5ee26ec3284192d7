/- Variables that are to stay as they are at a function's end; contracts by hand (the session's own words). -/
import Derived.Test.YtjdkcedhmfgmoaaDoorFacts
import Derived.Test.YtjdkcedhmfgmoaaDoorPdb
namespace Go.Proofs.YtjdkcedhmfgmoaaDoor
open Go Go.Eng
/-- the variables that a function's results are made of -/
def ends (f : FuncId) : List Tmp := []
/-- places of appends, and of calls, that make variables, by region -/
def hvars (f : FuncId) (id : Nat) : List Tmp := []
/-- contracts by hand -/
def prims : FTy := fun f ds os =>
  if f = 49 then pReplaceAll ds os else
  if f = 67 then pIndex ds os else
  if f = 61 then pItoa ds os else
  if f = 48 then pFormatInt ds os else
  if f = 51 then pParseInt ds os else
  if f = 39 then pJoin ds os else
  if f = 56 then pCopyCheck ds os else
  if f = 37 then pString ds os else none
end Go.Proofs.YtjdkcedhmfgmoaaDoor
