/-
  DERIVED. GIVEN WITH THE SEED: THE CARDS: each row of YtneihjdkaogkiaaDoorRows.lean that lists a variable, with what it lists TIED to the program's text (the seventh form; the later family's looks); each row that meets fmt, with fmt's text TOLD by the authors' own Lean function (tested against real Go, not proved from fmt's source: count such statements apart). THE CARD IS WHAT COUNTS. Prove the row's statement (the work); the ties are given (YtneihjdkaogkiaaDoorTie.lean); close each card by the builder's one call (the guide's Derived/Test/ToyasCard.lean, 'card_holds'). Laid BY PROGRAM, IN A SANDBOX (cutbox-door.mjs). By AI agents, Wed Nov 11 2026. No macro, syntax, notation, axiom, sorry.
-/
import Derived.Test.YtneihjdkaogkiaaDoorRows
import GoSem.ClaimSeven
namespace Go.Proofs.YtneihjdkaogkiaaDoor
namespace Rows

/-- THE TIED CARD OF 'rowlocklaw19.SplitIs'. -/
def splitIsCard : Claim7 := { stood := { row := splitIsRow, standIns := [], harness := (true, "5e35d12cc5cea02714a52ec1b80db0a849ad4f479aeb32360f79cd89a64b33ce"), looks := false }, kinds := [], alts := [], laidByText := true, laidKinds := [.data], laidTests := true, laidLooks := .later }
def SplitIsCardSaid : Prop := Claim7.holds Tryd.pinned (.plain (OpenSpec.ofChange splitIsSpec)) splitIsCard

/-- THE TIED CARD OF 'rowlocklaw19.SplitReady'. -/
def splitReadyCard : Claim7 := { stood := { row := splitReadyRow, standIns := [], harness := (true, "5e35d12cc5cea02714a52ec1b80db0a849ad4f479aeb32360f79cd89a64b33ce"), looks := false }, kinds := [], alts := [], laidByText := true, laidKinds := [.data], laidTests := true, laidLooks := .later }
def SplitReadyCardSaid : Prop := Claim7.holds Tryd.pinned (.plain (OpenSpec.ofChange splitReadySpec)) splitReadyCard

/-- THE TIED CARD OF 'rowlocklaw19.SplitOnce'. -/
def splitOnceCard : Claim7 := { stood := { row := splitOnceRow, standIns := [], harness := (true, "5e35d12cc5cea02714a52ec1b80db0a849ad4f479aeb32360f79cd89a64b33ce"), looks := false }, kinds := [], alts := [], laidByText := true, laidKinds := [.data], laidTests := true, laidLooks := .later }
def SplitOnceCardSaid : Prop := Claim7.holds Tryd.pinned (.plain (OpenSpec.ofChange splitOnceSpec)) splitOnceCard

/-- THE SECOND FORM's CARD OF 'rowlocklaw19.SplitIs'. -/
def splitIsUptoCard : Claim7 := { stood := { row := splitIsUptoRow, standIns := [], harness := (true, "5e35d12cc5cea02714a52ec1b80db0a849ad4f479aeb32360f79cd89a64b33ce"), looks := false }, kinds := [], alts := [], laidByText := true, laidKinds := [.data], laidTests := true, laidLooks := .later }
def SplitIsUptoCardSaid : Prop := Claim7.holds Tryd.pinned (.plain (OpenSpec.upto splitIsSpec)) splitIsUptoCard

/-- THE SECOND FORM's CARD OF 'rowlocklaw19.SplitReady'. -/
def splitReadyUptoCard : Claim7 := { stood := { row := splitReadyUptoRow, standIns := [], harness := (true, "5e35d12cc5cea02714a52ec1b80db0a849ad4f479aeb32360f79cd89a64b33ce"), looks := false }, kinds := [], alts := [], laidByText := true, laidKinds := [.data], laidTests := true, laidLooks := .later }
def SplitReadyUptoCardSaid : Prop := Claim7.holds Tryd.pinned (.plain (OpenSpec.upto splitReadySpec)) splitReadyUptoCard

/-- THE SECOND FORM's CARD OF 'rowlocklaw19.SplitOnce'. -/
def splitOnceUptoCard : Claim7 := { stood := { row := splitOnceUptoRow, standIns := [], harness := (true, "5e35d12cc5cea02714a52ec1b80db0a849ad4f479aeb32360f79cd89a64b33ce"), looks := false }, kinds := [], alts := [], laidByText := true, laidKinds := [.data], laidTests := true, laidLooks := .later }
def SplitOnceUptoCardSaid : Prop := Claim7.holds Tryd.pinned (.plain (OpenSpec.upto splitOnceSpec)) splitOnceUptoCard
end Rows
end Go.Proofs.YtneihjdkaogkiaaDoor
