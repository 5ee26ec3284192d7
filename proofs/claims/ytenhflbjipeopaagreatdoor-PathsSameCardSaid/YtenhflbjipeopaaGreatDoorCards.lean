/-
  DERIVED. GIVEN WITH THE SEED: THE CARDS: each row of YtenhflbjipeopaaGreatDoorRows.lean that lists a variable, with what it lists TIED to the program's text (the seventh form; the later family's looks); each row that meets fmt, with fmt's text TOLD by the authors' own Lean function (tested against real Go, not proved from fmt's source: count such statements apart). THE CARD IS WHAT COUNTS. Prove the row's statement (the work); the ties are given (YtenhflbjipeopaaGreatDoorTie.lean); close each card by the builder's one call (the guide's Derived/Test/ToyasCard.lean, 'card_holds'). Laid BY PROGRAM, IN A SANDBOX (cutbox-door.mjs). By AI agents, Wed Nov 11 2026. No macro, syntax, notation, axiom, sorry.
-/
import Derived.Test.YtenhflbjipeopaaGreatDoorRows
import GoSem.ClaimSeven
namespace Go.Proofs.YtenhflbjipeopaaGreatDoor
namespace Rows

/-- THE TIED CARD OF 'rowlocklaw28.ShapeTotal'. -/
def shapeTotalCard : Claim7 := { stood := { row := shapeTotalRow, standIns := [], harness := (true, "05a8ce1d691d6982f6fea49d8351b323715e4043c62120faf183f00ee0ed8c83"), looks := false }, kinds := [], alts := [], laidByText := true, laidKinds := [.data, .pinned], laidTests := true, laidLooks := .later }
def ShapeTotalCardSaid : Prop := Claim7.holds Tryz.pinned (.plain (OpenSpec.ofChange shapeTotalSpec)) shapeTotalCard

/-- THE TIED CARD OF 'rowlocklaw22.PathsSame'. -/
def pathsSameCard : Claim7 := { stood := { row := pathsSameRow, standIns := [], harness := (true, "05a8ce1d691d6982f6fea49d8351b323715e4043c62120faf183f00ee0ed8c83"), looks := false }, kinds := [], alts := [], laidByText := true, laidKinds := [.data, .data, .pinned], laidTests := true, laidLooks := .later }
def PathsSameCardSaid : Prop := Claim7.holds Tryz.pinned (.plain (OpenSpec.ofChange pathsSameSpec)) pathsSameCard

/-- THE SECOND FORM's CARD OF 'rowlocklaw28.ShapeTotal'. -/
def shapeTotalUptoCard : Claim7 := { stood := { row := shapeTotalUptoRow, standIns := [], harness := (true, "05a8ce1d691d6982f6fea49d8351b323715e4043c62120faf183f00ee0ed8c83"), looks := false }, kinds := [], alts := [], laidByText := true, laidKinds := [.data, .pinned], laidTests := true, laidLooks := .later }
def ShapeTotalUptoCardSaid : Prop := Claim7.holds Tryz.pinned (.plain (OpenSpec.upto shapeTotalSpec)) shapeTotalUptoCard

/-- THE SECOND FORM's CARD OF 'rowlocklaw22.PathsSame'. -/
def pathsSameUptoCard : Claim7 := { stood := { row := pathsSameUptoRow, standIns := [], harness := (true, "05a8ce1d691d6982f6fea49d8351b323715e4043c62120faf183f00ee0ed8c83"), looks := false }, kinds := [], alts := [], laidByText := true, laidKinds := [.data, .data, .pinned], laidTests := true, laidLooks := .later }
def PathsSameUptoCardSaid : Prop := Claim7.holds Tryz.pinned (.plain (OpenSpec.upto pathsSameSpec)) pathsSameUptoCard
end Rows
end Go.Proofs.YtenhflbjipeopaaGreatDoor
