/-
  DERIVED. GIVEN WITH THE SEED: THE CARDS: each row of YtenhflbjipeopaaDoorRows.lean that lists a variable, with what it lists TIED to the program's text (the seventh form; the later family's looks); each row that meets fmt, with fmt's text TOLD by the authors' own Lean function (tested against real Go, not proved from fmt's source: count such statements apart). THE CARD IS WHAT COUNTS. Prove the row's statement (the work); the ties are given (YtenhflbjipeopaaDoorTie.lean); close each card by the builder's one call (the guide's Derived/Test/ToyasCard.lean, 'card_holds'). Laid BY PROGRAM, IN A SANDBOX (cutbox-door.mjs). By AI agents, Wed Nov 11 2026. No macro, syntax, notation, axiom, sorry.
-/
import Derived.Test.YtenhflbjipeopaaDoorRows
import GoSem.ClaimSeven
namespace Go.Proofs.YtenhflbjipeopaaDoor
namespace Rows

/-- THE TIED CARD OF 'rowlocklaw28.ShapeLess'. -/
def shapeLessCard : Claim7 := { stood := { row := shapeLessRow, standIns := [], harness := (true, "6d54aed518d960d759eda1070f1f1e74b63711350dd7799da1dfb2fb243122d6"), looks := false }, kinds := [], alts := [], laidByText := true, laidKinds := [.data, .pinned], laidTests := true, laidLooks := .later }
def ShapeLessCardSaid : Prop := Claim7.holds Tryd.pinned (.plain (OpenSpec.ofChange shapeLessSpec)) shapeLessCard

/-- THE SECOND FORM's CARD OF 'rowlocklaw28.ShapeLess'. -/
def shapeLessUptoCard : Claim7 := { stood := { row := shapeLessUptoRow, standIns := [], harness := (true, "6d54aed518d960d759eda1070f1f1e74b63711350dd7799da1dfb2fb243122d6"), looks := false }, kinds := [], alts := [], laidByText := true, laidKinds := [.data, .pinned], laidTests := true, laidLooks := .later }
def ShapeLessUptoCardSaid : Prop := Claim7.holds Tryd.pinned (.plain (OpenSpec.upto shapeLessSpec)) shapeLessUptoCard
end Rows
end Go.Proofs.YtenhflbjipeopaaDoor
