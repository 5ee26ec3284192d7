/- Variables that are to stay as they are at a function's end; contracts by hand (the session's own words). -/
import Derived.Test.YtenhflbjipeopaaGreatDoorPFacts
import Derived.Lib.SlicesCompact
namespace Go.Proofs.YtenhflbjipeopaaGreatDoor
open Go Go.Eng
/-- the variables that a function's results are made of -/
def ends (f : FuncId) : List Tmp := []
/-- places of appends, and of calls, that make variables, by region -/
def hvars (f : FuncId) (id : Nat) : List Tmp := []
/-- all combos are one group, where nothing is grouped by -/
def pGroups (ds : List D) (os : List (List D)) : Option (D × List (List D)) := match ds, os with
  | [.agg [_, _, _, _, _, _, _, .sl [], _, _, _], .sl es], [] => some (.tup [.sl [[.ep 1 [[.sl es]] 0 0]], .v (.bool true)], [])
  | _, _ => none
/-- a copy of nothing -/
def pClone (ds : List D) (os : List (List D)) : Option (D × List (List D)) := match ds, os with
  | [.sl []], [] => some (.own 9 1 [], [])
  | _, _ => none
/-- nothing, sorted -/
def pSort (ds : List D) (os : List (List D)) : Option (D × List (List D)) := match ds, os with
  | [.sl []], [] => some (.tup [], [])
  | _, _ => none
/-- nothing, without doubles -/
def pCompact (ds : List D) (os : List (List D)) : Option (D × List (List D)) := match ds, os with
  | [.sl []], [] => some (.sl [], [])
  | _, _ => none
/-- numbers -/
def intsD : List (List D) → Option (List Int)
  | [] => some []
  | [.v (.int .i64 n)] :: es => (intsD es).map (n :: ·)
  | _ => none
/-- a path's conditions, rising, each once -/
def condsL (zs : List Int) : List Int := Lib.compact (zs.mergeSort fun x y => decide (x ≤ y))
def pConds (ds : List D) (os : List (List D)) : Option (D × List (List D)) := match ds, os with
  | [.agg [.v (.int .u8 _), .v (.int .i64 _), .sl _, .sl es, .v (.int .i64 _), .sl _, .sl fs]], [] => (intsD es).bind fun zs => (intsD fs).bind fun ys => if zs.length + ys.length ≤ 1000 then some (.sl ((condsL (zs ++ ys)).map fun n => [.v (.int .i64 n)]), []) else none
  | _, _ => none
/-- contracts by hand -/
def prims : FTy := fun f ds os =>
  if f = 63 then pGroups ds os else
  if f = 46 then pClone ds os else
  if f = 37 then pSort ds os else
  if f = 38 then pCompact ds os else
  if f = 16 then pConds ds os else none
end Go.Proofs.YtenhflbjipeopaaGreatDoor
