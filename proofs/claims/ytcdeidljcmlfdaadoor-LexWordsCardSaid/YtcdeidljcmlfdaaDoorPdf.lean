/- What functions of the library make of strings and numbers: told as plain functions (the session's own words). -/
import Derived.Test.YtcdeidljcmlfdaaDoorEna
import Derived.Lib.Replace
import Derived.Lib.Bytealg
import Derived.Lib.ItoaNum
import Derived.Lib.ParseIntB
import Derived.Lib.Join
namespace Go.Eng
set_option linter.unusedVariables false
abbrev PTy := List D → List (List D) → Option (D × List (List D))
/-- a string of those bytes -/
def bs (l : List UInt8) : ByteArray := ⟨l.toArray⟩
def bl (s : ByteArray) : List UInt8 := s.data.toList
def pReplaceAll : PTy := fun ds os => match ds, os with
  | [.v (.string s), .v (.string a), .v (.string b)], [] => if s.size < 4294967281 ∧ 1 ≤ a.size ∧ s.size + Lib.countB s a * b.size ≤ 140737488355328 then some (.v (.string (bs (Lib.replaceAll (bl s) (bl a) (bl b)))), []) else none
  | _, _ => none
def pIndex : PTy := fun ds os => match ds, os with
  | [.v (.string s), .v (.string a)], [] => if s.size < 4294967281 then some (.v (.int .i64 (Lib.index (bl s) (bl a))), []) else none
  | _, _ => none
def pCompare : PTy := fun ds os => match ds, os with
  | [.v (.string s), .v (.string a)], [] => some (.v (.int .i64 (Lib.compareBytes (bl s) (bl a))), [])
  | _, _ => none
def pItoa : PTy := fun ds os => match ds, os with
  | [.v (.int .i64 n)], [] => if -9223372036854775808 ≤ n ∧ n ≤ 9223372036854775807 then some (.v (.string (bs (Lib.itoa n))), []) else none
  | _, _ => none
def pFormatInt : PTy := fun ds os => match ds, os with
  | [.v (.int .i64 n), .v (.int .i64 10)], [] => if -9223372036854775808 ≤ n ∧ n ≤ 9223372036854775807 then some (.v (.string (bs (Lib.itoa n))), []) else none
  | _, _ => none
def pParseInt : PTy := fun ds os => match ds, os with
  | [.v (.string s), .v (.int .i64 10), .v (.int .i64 64)], [] => if s.size ≤ 281474976710656 then (match Lib.parseIntB 64 (bl s) with
    | .ok v => some (.tup [.v (.int .i64 v), .v .nilIface], [])
    | .range => some (.tup [.v (.int .i64 (Lib.intSat 64 (bl s))), .nn], [])
    | _ => some (.tup [.v (.int .i64 0), .nn], [])) else none
  | _, _ => none
/-- elements that are strings -/
def strs : List (List D) → Option (List ByteArray)
  | [] => some []
  | [.v (.string s)] :: l => (strs l).map (s :: ·)
  | _ => none
def pJoin : PTy := fun ds os => match ds, os with
  | [.sl es, .v (.string p)], [] => (strs es).bind fun xs => if xs.length ≤ 140737488355328 ∧ (Lib.join (xs.map bl) (bl p)).length ≤ 140737488355328 then some (.v (.string (bs (Lib.join (xs.map bl) (bl p)))), []) else none
  | [.v (.slice none 0 0), .v (.string p)], [] => some (.v (.string ⟨#[]⟩), [])
  | _, _ => none
end Go.Eng
