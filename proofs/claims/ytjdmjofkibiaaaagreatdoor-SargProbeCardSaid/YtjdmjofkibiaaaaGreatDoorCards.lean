/-
  DERIVED. GIVEN WITH THE SEED: THE CARDS: each row of YtjdmjofkibiaaaaGreatDoorRows.lean that lists a variable, with what it lists TIED to the program's text (the seventh form; the later family's looks); each row that meets fmt, with fmt's text TOLD by the authors' own Lean function (tested against real Go, not proved from fmt's source: count such statements apart). THE CARD IS WHAT COUNTS. Prove the row's statement (the work); the ties are given (YtjdmjofkibiaaaaGreatDoorTie.lean); close each card by the builder's one call (the guide's Derived/Test/ToyasCard.lean, 'card_holds'). Laid BY PROGRAM, IN A SANDBOX (cutbox-door.mjs). By AI agents, Wed Nov 11 2026. No macro, syntax, notation, axiom, sorry.
-/
import Derived.Test.YtjdmjofkibiaaaaGreatDoorRows
import GoSem.ClaimSeven
namespace Go.Proofs.YtjdmjofkibiaaaaGreatDoor
namespace Rows

/-- THE TIED CARD OF 'rowlocklaw21.SargTests'. -/
def sargTestsCard : Claim7 := { stood := { row := sargTestsRow, standIns := [], harness := (true, "e9bb7119d9071192971aae7f86457f4fc665b74468cb0470b4e2e707c1106d3f"), looks := false }, kinds := [], alts := [], laidByText := true, laidKinds := [.data, .data, .pinned], laidTests := true, laidLooks := .later }
def SargTestsCardSaid : Prop := Claim7.holds Tryz.pinned (.plain (OpenSpec.ofChange sargTestsSpec)) sargTestsCard

/-- THE TIED CARD OF 'rowlocklaw21.SargProbe'. -/
def sargProbeCard : Claim7 := { stood := { row := sargProbeRow, standIns := [], harness := (true, "e9bb7119d9071192971aae7f86457f4fc665b74468cb0470b4e2e707c1106d3f"), looks := false }, kinds := [], alts := [], laidByText := true, laidKinds := [.data, .data, .pinned], laidTests := true, laidLooks := .later }
def SargProbeCardSaid : Prop := Claim7.holds Tryz.pinned (.plain (OpenSpec.ofChange sargProbeSpec)) sargProbeCard

/-- THE SECOND FORM's CARD OF 'rowlocklaw21.SargTests'. -/
def sargTestsUptoCard : Claim7 := { stood := { row := sargTestsUptoRow, standIns := [], harness := (true, "e9bb7119d9071192971aae7f86457f4fc665b74468cb0470b4e2e707c1106d3f"), looks := false }, kinds := [], alts := [], laidByText := true, laidKinds := [.data, .data, .pinned], laidTests := true, laidLooks := .later }
def SargTestsUptoCardSaid : Prop := Claim7.holds Tryz.pinned (.plain (OpenSpec.upto sargTestsSpec)) sargTestsUptoCard

/-- THE SECOND FORM's CARD OF 'rowlocklaw21.SargProbe'. -/
def sargProbeUptoCard : Claim7 := { stood := { row := sargProbeUptoRow, standIns := [], harness := (true, "e9bb7119d9071192971aae7f86457f4fc665b74468cb0470b4e2e707c1106d3f"), looks := false }, kinds := [], alts := [], laidByText := true, laidKinds := [.data, .data, .pinned], laidTests := true, laidLooks := .later }
def SargProbeUptoCardSaid : Prop := Claim7.holds Tryz.pinned (.plain (OpenSpec.upto sargProbeSpec)) sargProbeUptoCard
end Rows
end Go.Proofs.YtjdmjofkibiaaaaGreatDoor
