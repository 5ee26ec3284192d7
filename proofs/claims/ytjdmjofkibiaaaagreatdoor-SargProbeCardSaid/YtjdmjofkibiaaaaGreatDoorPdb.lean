/- strings.Builder's functions as plain functions (the session's own words). -/
import Derived.Test.YtjdmjofkibiaaaaGreatDoorPdf
namespace Go.Proofs.YtjdmjofkibiaaaaGreatDoor
open Go Go.Eng
set_option linter.unusedVariables false
/-- bytes that elements are -/
def bytesOf : List (List D) → Option (List UInt8)
  | [] => some []
  | [.v (.int .u8 n)] :: l => if 0 ≤ n ∧ n < 256 then (bytesOf l).map (UInt8.ofNat n.toNat :: ·) else none
  | _ => none
theorem bytesOf_str (s : ByteArray) : bytesOf (strEs s) = some s.data.toList := by
  unfold strEs Lib.strCells
  induction s.data.toList with
  | nil => rfl
  | cons c l ih =>
    simp only [List.map_cons, bytesOf]
    rw [if_pos ⟨by omega, by have := c.toNat_lt; omega⟩, ih]
    simp
def pCopyCheck : PTy := fun ds os => match ds, os with
  | [.bp b 0], [[.bz T, c1]] => if b = OB ∧ T = 201 ∧ oneb c1 = true then some (.tup [], [[.bz T, c1]]) else none
  | _, _ => none
def pString : PTy := fun ds os => match ds, os with
  | [.bp b 0], [[.bz T, .own e k es]] => if b = OB ∧ T = 201 ∧ e = 5 ∧ k = 1 ∧ es ≠ [] then (bytesOf es).map fun l => (.v (.string ⟨l.toArray⟩), [[.bz T, .sl es]]) else none
  | [.bp b 0], [[.bz T, .v (.slice none 0 0)]] => if b = OB ∧ T = 201 then some (.v (.string ⟨#[]⟩), [[.bz T, .v (.slice none 0 0)]]) else none
  | _, _ => none
end Go.Proofs.YtjdmjofkibiaaaaGreatDoor
