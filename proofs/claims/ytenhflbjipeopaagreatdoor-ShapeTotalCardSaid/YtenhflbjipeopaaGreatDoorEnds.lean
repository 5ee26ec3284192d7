/- Variables that are to stay as they are at a function's end; contracts by hand (the session's own words). -/
import Derived.Test.YtenhflbjipeopaaGreatDoorFacts
namespace Go.Proofs.YtenhflbjipeopaaGreatDoor
open Go Go.Eng
/-- the variables that a function's results are made of -/
def ends (f : FuncId) : List Tmp := []
/-- places of appends, and of calls, that make variables, by region -/
def hvars (f : FuncId) (id : Nat) : List Tmp := []
/-- all combos are one group, where nothing is grouped by -/
def pGroups (ds : List D) (os : List (List D)) : Option (D × List (List D)) := match ds, os with
  | [.agg [_, _, _, _, _, _, _, .sl [], _, _, _], .sl es], [] => some (.tup [.sl [[.ep 1 [[.sl es]] 0 0]], .v (.bool true)], [])
  | _, _ => none
/-- a copy of nothing -/
def pClone (ds : List D) (os : List (List D)) : Option (D × List (List D)) := match ds, os with
  | [.sl []], [] => some (.own 9 1 [], [])
  | _, _ => none
/-- contracts by hand -/
def prims : FTy := fun f ds os =>
  if f = 63 then pGroups ds os else
  if f = 46 then pClone ds os else none
end Go.Proofs.YtenhflbjipeopaaGreatDoor
