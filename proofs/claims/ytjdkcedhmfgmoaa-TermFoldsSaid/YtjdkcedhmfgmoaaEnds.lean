/- Variables that are to stay as they are at a function's end (the session's own words). -/
import Derived.Test.YtjdkcedhmfgmoaaFacts
namespace Go.Proofs.Ytjdkcedhmfgmoaa
open Go Go.Eng
/-- the variables that a function's results are made of -/
def ends (f : FuncId) : List Tmp := if f = 19 then [24] else []
/-- places of appends, and of calls, that make variables, by region -/
def hvars (f : FuncId) (id : Nat) : List Tmp := if f = 39 ∧ id = 3 then [7] else if f = 19 ∧ id = 5 then [24] else []
/-- contracts by hand -/
def prims : FTy := fun f ds os => match f, ds, os with
  | 39, [.sl []], [] => some (.own 29 11 [], [])
  | _, _, _ => none
end Go.Proofs.Ytjdkcedhmfgmoaa
