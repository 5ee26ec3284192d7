/-
  DERIVED. GIVEN WITH THE SEED: THE CARDS: each row of YtcdeidljcmlfdaaDoorRows.lean that lists a variable, with what it lists TIED to the program's text (the seventh form; the later family's looks); each row that meets fmt, with fmt's text TOLD by the authors' own Lean function (tested against real Go, not proved from fmt's source: count such statements apart). THE CARD IS WHAT COUNTS. Prove the row's statement (the work); the ties are given (YtcdeidljcmlfdaaDoorTie.lean); close each card by the builder's one call (the guide's Derived/Test/ToyasCard.lean, 'card_holds'). Laid BY PROGRAM, IN A SANDBOX (cutbox-door.mjs). By AI agents, Wed Nov 11 2026. No macro, syntax, notation, axiom, sorry.
-/
import Derived.Test.YtcdeidljcmlfdaaDoorRows
import GoSem.ClaimSeven
namespace Go.Proofs.YtcdeidljcmlfdaaDoor
namespace Rows

/-- THE TIED CARD OF 'rowlocklaw15.LexStands'. -/
def lexStandsCard : Claim7 := { stood := { row := lexStandsRow, standIns := [], harness := (true, "b8bfcb0e65a0e30b6f26d04a79b5d09b3b96ab6478d1399821136ee7e12b6543"), looks := true }, kinds := [], alts := [], laidByText := true, laidKinds := [.data, .data, .data, .data, .sentinel, .sentinel, .pinned], laidTests := true, laidLooks := .later }
def LexStandsCardSaid : Prop := Claim7.holds Tryd.pinned (.plain (OpenSpec.ofChange lexStandsSpec)) lexStandsCard

/-- THE TIED CARD OF 'rowlocklaw15.LexMany'. -/
def lexManyCard : Claim7 := { stood := { row := lexManyRow, standIns := [], harness := (true, "b8bfcb0e65a0e30b6f26d04a79b5d09b3b96ab6478d1399821136ee7e12b6543"), looks := true }, kinds := [], alts := [], laidByText := true, laidKinds := [.data, .data, .data, .data, .sentinel, .sentinel, .pinned], laidTests := true, laidLooks := .later }
def LexManyCardSaid : Prop := Claim7.holds Tryd.pinned (.plain (OpenSpec.ofChange lexManySpec)) lexManyCard

/-- THE TIED CARD OF 'rowlocklaw15.LexJoined'. -/
def lexJoinedCard : Claim7 := { stood := { row := lexJoinedRow, standIns := [], harness := (true, "b8bfcb0e65a0e30b6f26d04a79b5d09b3b96ab6478d1399821136ee7e12b6543"), looks := true }, kinds := [], alts := [], laidByText := true, laidKinds := [.data, .data, .data, .data, .sentinel, .sentinel, .pinned], laidTests := true, laidLooks := .later }
def LexJoinedCardSaid : Prop := Claim7.holds Tryd.pinned (.plain (OpenSpec.ofChange lexJoinedSpec)) lexJoinedCard

/-- THE TIED CARD OF 'rowlocklaw15.LexWords'. -/
def lexWordsCard : Claim7 := { stood := { row := lexWordsRow, standIns := [], harness := (true, "b8bfcb0e65a0e30b6f26d04a79b5d09b3b96ab6478d1399821136ee7e12b6543"), looks := true }, kinds := [], alts := [], laidByText := true, laidKinds := [.data, .data, .data, .data, .sentinel, .sentinel, .pinned], laidTests := true, laidLooks := .later }
def LexWordsCardSaid : Prop := Claim7.holds Tryd.pinned (.plain (OpenSpec.ofChange lexWordsSpec)) lexWordsCard

/-- THE SECOND FORM's CARD OF 'rowlocklaw15.LexStands'. -/
def lexStandsUptoCard : Claim7 := { stood := { row := lexStandsUptoRow, standIns := [], harness := (true, "b8bfcb0e65a0e30b6f26d04a79b5d09b3b96ab6478d1399821136ee7e12b6543"), looks := true }, kinds := [], alts := [], laidByText := true, laidKinds := [.data, .data, .data, .data, .sentinel, .sentinel, .pinned], laidTests := true, laidLooks := .later }
def LexStandsUptoCardSaid : Prop := Claim7.holds Tryd.pinned (.plain (OpenSpec.upto lexStandsSpec)) lexStandsUptoCard

/-- THE SECOND FORM's CARD OF 'rowlocklaw15.LexMany'. -/
def lexManyUptoCard : Claim7 := { stood := { row := lexManyUptoRow, standIns := [], harness := (true, "b8bfcb0e65a0e30b6f26d04a79b5d09b3b96ab6478d1399821136ee7e12b6543"), looks := true }, kinds := [], alts := [], laidByText := true, laidKinds := [.data, .data, .data, .data, .sentinel, .sentinel, .pinned], laidTests := true, laidLooks := .later }
def LexManyUptoCardSaid : Prop := Claim7.holds Tryd.pinned (.plain (OpenSpec.upto lexManySpec)) lexManyUptoCard

/-- THE SECOND FORM's CARD OF 'rowlocklaw15.LexJoined'. -/
def lexJoinedUptoCard : Claim7 := { stood := { row := lexJoinedUptoRow, standIns := [], harness := (true, "b8bfcb0e65a0e30b6f26d04a79b5d09b3b96ab6478d1399821136ee7e12b6543"), looks := true }, kinds := [], alts := [], laidByText := true, laidKinds := [.data, .data, .data, .data, .sentinel, .sentinel, .pinned], laidTests := true, laidLooks := .later }
def LexJoinedUptoCardSaid : Prop := Claim7.holds Tryd.pinned (.plain (OpenSpec.upto lexJoinedSpec)) lexJoinedUptoCard

/-- THE SECOND FORM's CARD OF 'rowlocklaw15.LexWords'. -/
def lexWordsUptoCard : Claim7 := { stood := { row := lexWordsUptoRow, standIns := [], harness := (true, "b8bfcb0e65a0e30b6f26d04a79b5d09b3b96ab6478d1399821136ee7e12b6543"), looks := true }, kinds := [], alts := [], laidByText := true, laidKinds := [.data, .data, .data, .data, .sentinel, .sentinel, .pinned], laidTests := true, laidLooks := .later }
def LexWordsUptoCardSaid : Prop := Claim7.holds Tryd.pinned (.plain (OpenSpec.upto lexWordsSpec)) lexWordsUptoCard
end Rows
end Go.Proofs.YtcdeidljcmlfdaaDoor
