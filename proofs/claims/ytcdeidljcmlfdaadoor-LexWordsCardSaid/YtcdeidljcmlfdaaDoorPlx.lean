/- What functions told by hand say, as plain functions (the session's own words). -/
import Derived.Test.YtcdeidljcmlfdaaDoorPdf
import Derived.Lib.Bytealg
namespace Go.Eng
set_option linter.unusedVariables false
/-- the words -/
def wrd : List (List UInt8) := [[83, 69, 76, 69, 67, 84], [68, 73, 83, 84, 73, 78, 67, 84], [70, 82, 79, 77], [87, 72, 69, 82, 69], [71, 82, 79, 85, 80], [66, 89], [79, 82, 68, 69, 82], [76, 73, 77, 73, 84], [65, 83], [65, 78, 68], [79, 82], [78, 79, 84], [73, 83], [78, 85, 76, 76], [73, 78], [66, 69, 84, 87, 69, 69, 78], [84, 82, 85, 69], [70, 65, 76, 83, 69], [65, 83, 67], [68, 69, 83, 67], [67, 79, 85, 78, 84], [83, 85, 77], [77, 73, 78], [77, 65, 88]]
/-- all of them, a blank between -/
def allW : List UInt8 := [83, 69, 76, 69, 67, 84, 32, 68, 73, 83, 84, 73, 78, 67, 84, 32, 70, 82, 79, 77, 32, 87, 72, 69, 82, 69, 32, 71, 82, 79, 85, 80, 32, 66, 89, 32, 79, 82, 68, 69, 82, 32, 76, 73, 77, 73, 84, 32, 65, 83, 32, 65, 78, 68, 32, 79, 82, 32, 78, 79, 84, 32, 73, 83, 32, 78, 85, 76, 76, 32, 73, 78, 32, 66, 69, 84, 87, 69, 69, 78, 32, 84, 82, 85, 69, 32, 70, 65, 76, 83, 69, 32, 65, 83, 67, 32, 68, 69, 83, 67, 32, 67, 79, 85, 78, 84, 32, 83, 85, 77, 32, 77, 73, 78, 32, 77, 65, 88]
def isWord (s : ByteArray) : Bool := wrd.any fun w => bl s == w
def pWord : PTy := fun ds os => match ds, os with
  | [.v (.string s)], [] => some (.v (.bool (isWord s)), [])
  | _, _ => none
/-- is a text of ASCII a number, but for its size? -/
def isDigs (s : ByteArray) : Bool := (bl s).all (fun c => decide (48 ≤ c.toNat) && decide (c.toNat ≤ 57)) && (decide (bl s = [48]) || !decide ((bl s).head? = some 48))
def pDigits : PTy := fun ds os => match ds, os with
  | [.v (.string s)], [] => if (bl s).all (fun c => decide (c.toNat < 128)) = true ∧ 1 ≤ s.size ∧ s.size ≤ 5000 then some (.v (.bool (isDigs s)), []) else none
  | _, _ => none
def pIndexByte : PTy := fun ds os => match ds, os with
  | [.v (.string s), .v (.int .u8 c)], [] => some (.v (.int .i64 (Lib.indexByte (bl s) c.toNat.toUInt8)), [])
  | _, _ => none
/-- all words, rising -/
def wrdS : List (List UInt8) := [[65, 78, 68], [65, 83], [65, 83, 67], [66, 69, 84, 87, 69, 69, 78], [66, 89], [67, 79, 85, 78, 84], [68, 69, 83, 67], [68, 73, 83, 84, 73, 78, 67, 84], [70, 65, 76, 83, 69], [70, 82, 79, 77], [71, 82, 79, 85, 80], [73, 78], [73, 83], [76, 73, 77, 73, 84], [77, 65, 88], [77, 73, 78], [78, 79, 84], [78, 85, 76, 76], [79, 82], [79, 82, 68, 69, 82], [83, 69, 76, 69, 67, 84], [83, 85, 77], [84, 82, 85, 69], [87, 72, 69, 82, 69]]
def wordCs : List D := wrdS.map fun w => .v (.string (bs w))
def pWords : PTy := fun ds os => match ds, os with
  | [], [] => some (.raw 1 24 wordCs, [])
  | _, _ => none
end Go.Eng
