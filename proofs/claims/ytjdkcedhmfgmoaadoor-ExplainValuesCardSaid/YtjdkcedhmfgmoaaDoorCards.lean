/-
  DERIVED. GIVEN WITH THE SEED: THE CARDS: each row of YtjdkcedhmfgmoaaDoorRows.lean that lists a variable, with what it lists TIED to the program's text (the seventh form; the later family's looks); each row that meets fmt, with fmt's text TOLD by the authors' own Lean function (tested against real Go, not proved from fmt's source: count such statements apart). THE CARD IS WHAT COUNTS. Prove the row's statement (the work); the ties are given (YtjdkcedhmfgmoaaDoorTie.lean); close each card by the builder's one call (the guide's Derived/Test/ToyasCard.lean, 'card_holds'). Laid BY PROGRAM, IN A SANDBOX (cutbox-door.mjs). By AI agents, Wed Nov 11 2026. No macro, syntax, notation, axiom, sorry.
-/
import Derived.Test.YtjdkcedhmfgmoaaDoorRows
import GoSem.ClaimSeven
namespace Go.Proofs.YtjdkcedhmfgmoaaDoor
namespace Rows

/-- THE TIED CARD OF 'rowlocklaw30.ExplainPlan'. -/
def explainPlanCard : Claim7 := { stood := { row := explainPlanRow, standIns := [], harness := (true, "7c622da8f166ae5d72e23969edcdbb2c86235b76950cce79c970b2975451865b"), looks := true }, kinds := [], alts := [], laidByText := true, laidKinds := [.data, .data, .data], laidTests := true, laidLooks := .later }
def ExplainPlanCardSaid : Prop := Claim7.holds Tryd.pinned (.plain (OpenSpec.ofChange explainPlanSpec)) explainPlanCard

/-- THE TIED CARD OF 'rowlocklaw30.ExplainAnswer'. -/
def explainAnswerCard : Claim7 := { stood := { row := explainAnswerRow, standIns := [], harness := (true, "7c622da8f166ae5d72e23969edcdbb2c86235b76950cce79c970b2975451865b"), looks := true }, kinds := [], alts := [], laidByText := true, laidKinds := [.data, .data, .data, .data, .pinned], laidTests := true, laidLooks := .later }
def ExplainAnswerCardSaid : Prop := Claim7.holds Tryd.pinned (.plain (OpenSpec.ofChange explainAnswerSpec)) explainAnswerCard

/-- THE TIED CARD OF 'rowlocklaw30.ExplainValues'. -/
def explainValuesCard : Claim7 := { stood := { row := explainValuesRow, standIns := [], harness := (true, "7c622da8f166ae5d72e23969edcdbb2c86235b76950cce79c970b2975451865b"), looks := true }, kinds := [], alts := [], laidByText := true, laidKinds := [.data, .data, .data, .data, .sentinel, .sentinel, .pinned], laidTests := true, laidLooks := .later }
def ExplainValuesCardSaid : Prop := Claim7.holds Tryd.pinned (.plain (OpenSpec.ofChange explainValuesSpec)) explainValuesCard

/-- THE TIED CARD OF 'rowlocklaw01.ValCompare'. -/
def valCompareCard : Claim7 := { stood := { row := valCompareRow, standIns := [], harness := (true, "7c622da8f166ae5d72e23969edcdbb2c86235b76950cce79c970b2975451865b"), looks := true }, kinds := [], alts := [], laidByText := true, laidKinds := [.data, .data, .data, .data, .sentinel, .sentinel, .pinned], laidTests := true, laidLooks := .later }
def ValCompareCardSaid : Prop := Claim7.holds Tryd.pinned (.plain (OpenSpec.ofChange valCompareSpec)) valCompareCard

/-- THE TIED CARD OF 'rowlocklaw01.ValShows'. -/
def valShowsCard : Claim7 := { stood := { row := valShowsRow, standIns := [], harness := (true, "7c622da8f166ae5d72e23969edcdbb2c86235b76950cce79c970b2975451865b"), looks := true }, kinds := [], alts := [], laidByText := true, laidKinds := [.data, .data, .data, .data, .sentinel, .sentinel, .pinned], laidTests := true, laidLooks := .later }
def ValShowsCardSaid : Prop := Claim7.holds Tryd.pinned (.plain (OpenSpec.ofChange valShowsSpec)) valShowsCard

/-- THE TIED CARD OF 'rowlocklaw01.ValReads'. -/
def valReadsCard : Claim7 := { stood := { row := valReadsRow, standIns := [], harness := (true, "7c622da8f166ae5d72e23969edcdbb2c86235b76950cce79c970b2975451865b"), looks := true }, kinds := [], alts := [], laidByText := true, laidKinds := [.data, .data, .data, .data, .sentinel, .sentinel, .pinned], laidTests := true, laidLooks := .later }
def ValReadsCardSaid : Prop := Claim7.holds Tryd.pinned (.plain (OpenSpec.ofChange valReadsSpec)) valReadsCard

/-- THE TIED CARD OF 'rowlocklaw01.ValChain'. -/
def valChainCard : Claim7 := { stood := { row := valChainRow, standIns := [], harness := (true, "7c622da8f166ae5d72e23969edcdbb2c86235b76950cce79c970b2975451865b"), looks := true }, kinds := [], alts := [], laidByText := true, laidKinds := [.data, .data, .data, .data, .sentinel, .sentinel, .pinned], laidTests := true, laidLooks := .later }
def ValChainCardSaid : Prop := Claim7.holds Tryd.pinned (.plain (OpenSpec.ofChange valChainSpec)) valChainCard

/-- THE TIED CARD OF 'rowlocklaw01.ValRows'. -/
def valRowsCard : Claim7 := { stood := { row := valRowsRow, standIns := [], harness := (true, "7c622da8f166ae5d72e23969edcdbb2c86235b76950cce79c970b2975451865b"), looks := true }, kinds := [], alts := [], laidByText := true, laidKinds := [.data, .data, .data, .data, .sentinel, .sentinel, .pinned], laidTests := true, laidLooks := .later }
def ValRowsCardSaid : Prop := Claim7.holds Tryd.pinned (.plain (OpenSpec.ofChange valRowsSpec)) valRowsCard

/-- THE SECOND FORM's CARD OF 'rowlocklaw30.ExplainPlan'. -/
def explainPlanUptoCard : Claim7 := { stood := { row := explainPlanUptoRow, standIns := [], harness := (true, "7c622da8f166ae5d72e23969edcdbb2c86235b76950cce79c970b2975451865b"), looks := true }, kinds := [], alts := [], laidByText := true, laidKinds := [.data, .data, .data], laidTests := true, laidLooks := .later }
def ExplainPlanUptoCardSaid : Prop := Claim7.holds Tryd.pinned (.plain (OpenSpec.upto explainPlanSpec)) explainPlanUptoCard

/-- THE SECOND FORM's CARD OF 'rowlocklaw30.ExplainAnswer'. -/
def explainAnswerUptoCard : Claim7 := { stood := { row := explainAnswerUptoRow, standIns := [], harness := (true, "7c622da8f166ae5d72e23969edcdbb2c86235b76950cce79c970b2975451865b"), looks := true }, kinds := [], alts := [], laidByText := true, laidKinds := [.data, .data, .data, .data, .pinned], laidTests := true, laidLooks := .later }
def ExplainAnswerUptoCardSaid : Prop := Claim7.holds Tryd.pinned (.plain (OpenSpec.upto explainAnswerSpec)) explainAnswerUptoCard

/-- THE SECOND FORM's CARD OF 'rowlocklaw30.ExplainValues'. -/
def explainValuesUptoCard : Claim7 := { stood := { row := explainValuesUptoRow, standIns := [], harness := (true, "7c622da8f166ae5d72e23969edcdbb2c86235b76950cce79c970b2975451865b"), looks := true }, kinds := [], alts := [], laidByText := true, laidKinds := [.data, .data, .data, .data, .sentinel, .sentinel, .pinned], laidTests := true, laidLooks := .later }
def ExplainValuesUptoCardSaid : Prop := Claim7.holds Tryd.pinned (.plain (OpenSpec.upto explainValuesSpec)) explainValuesUptoCard

/-- THE SECOND FORM's CARD OF 'rowlocklaw01.ValCompare'. -/
def valCompareUptoCard : Claim7 := { stood := { row := valCompareUptoRow, standIns := [], harness := (true, "7c622da8f166ae5d72e23969edcdbb2c86235b76950cce79c970b2975451865b"), looks := true }, kinds := [], alts := [], laidByText := true, laidKinds := [.data, .data, .data, .data, .sentinel, .sentinel, .pinned], laidTests := true, laidLooks := .later }
def ValCompareUptoCardSaid : Prop := Claim7.holds Tryd.pinned (.plain (OpenSpec.upto valCompareSpec)) valCompareUptoCard

/-- THE SECOND FORM's CARD OF 'rowlocklaw01.ValShows'. -/
def valShowsUptoCard : Claim7 := { stood := { row := valShowsUptoRow, standIns := [], harness := (true, "7c622da8f166ae5d72e23969edcdbb2c86235b76950cce79c970b2975451865b"), looks := true }, kinds := [], alts := [], laidByText := true, laidKinds := [.data, .data, .data, .data, .sentinel, .sentinel, .pinned], laidTests := true, laidLooks := .later }
def ValShowsUptoCardSaid : Prop := Claim7.holds Tryd.pinned (.plain (OpenSpec.upto valShowsSpec)) valShowsUptoCard

/-- THE SECOND FORM's CARD OF 'rowlocklaw01.ValReads'. -/
def valReadsUptoCard : Claim7 := { stood := { row := valReadsUptoRow, standIns := [], harness := (true, "7c622da8f166ae5d72e23969edcdbb2c86235b76950cce79c970b2975451865b"), looks := true }, kinds := [], alts := [], laidByText := true, laidKinds := [.data, .data, .data, .data, .sentinel, .sentinel, .pinned], laidTests := true, laidLooks := .later }
def ValReadsUptoCardSaid : Prop := Claim7.holds Tryd.pinned (.plain (OpenSpec.upto valReadsSpec)) valReadsUptoCard

/-- THE SECOND FORM's CARD OF 'rowlocklaw01.ValChain'. -/
def valChainUptoCard : Claim7 := { stood := { row := valChainUptoRow, standIns := [], harness := (true, "7c622da8f166ae5d72e23969edcdbb2c86235b76950cce79c970b2975451865b"), looks := true }, kinds := [], alts := [], laidByText := true, laidKinds := [.data, .data, .data, .data, .sentinel, .sentinel, .pinned], laidTests := true, laidLooks := .later }
def ValChainUptoCardSaid : Prop := Claim7.holds Tryd.pinned (.plain (OpenSpec.upto valChainSpec)) valChainUptoCard

/-- THE SECOND FORM's CARD OF 'rowlocklaw01.ValRows'. -/
def valRowsUptoCard : Claim7 := { stood := { row := valRowsUptoRow, standIns := [], harness := (true, "7c622da8f166ae5d72e23969edcdbb2c86235b76950cce79c970b2975451865b"), looks := true }, kinds := [], alts := [], laidByText := true, laidKinds := [.data, .data, .data, .data, .sentinel, .sentinel, .pinned], laidTests := true, laidLooks := .later }
def ValRowsUptoCardSaid : Prop := Claim7.holds Tryd.pinned (.plain (OpenSpec.upto valRowsSpec)) valRowsUptoCard
end Rows
end Go.Proofs.YtjdkcedhmfgmoaaDoor
