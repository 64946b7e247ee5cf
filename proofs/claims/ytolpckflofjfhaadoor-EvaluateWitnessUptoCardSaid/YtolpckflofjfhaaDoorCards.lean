/-
  DERIVED. GIVEN WITH THE SEED: THE CARDS: each row of YtolpckflofjfhaaDoorRows.lean that lists a variable, with what it lists TIED to the program's text (the seventh form; the later family's looks); each row that meets fmt, with fmt's text TOLD by the authors' own Lean function (tested against real Go, not proved from fmt's source: count such statements apart). THE CARD IS WHAT COUNTS. Prove the row's statement (the work); the ties are given (YtolpckflofjfhaaDoorTie.lean); close each card by the builder's one call (the guide's Derived/Test/ToyasCard.lean, 'card_holds'). Laid BY PROGRAM, IN A SANDBOX (cutbox-door.mjs). By AI agents, Wed Nov 11 2026. No macro, syntax, notation, axiom, sorry.
-/
import Derived.Test.YtolpckflofjfhaaDoorRows
import GoSem.ClaimSeven
namespace Go.Proofs.YtolpckflofjfhaaDoor
namespace Rows

/-- THE TIED CARD OF 'pentaglotlaw26.EvaluateAt'. -/
def evaluateAtCard : Claim7 := { stood := { row := evaluateAtRow, standIns := [], harness := (true, "322aacd5977a119b5bb71563028eaf6a0b697f949ef659944f0d0d61b98c7685"), looks := false }, kinds := [], alts := [], laidByText := true, laidKinds := [.data, .data, .data], laidTests := true, laidLooks := .later }
def EvaluateAtCardSaid : Prop := Claim7.holds Tryd.pinned (.plain (OpenSpec.ofChange evaluateAtSpec)) evaluateAtCard

/-- THE TIED CARD OF 'pentaglotlaw26.EvaluateTrue'. -/
def evaluateTrueCard : Claim7 := { stood := { row := evaluateTrueRow, standIns := [], harness := (true, "322aacd5977a119b5bb71563028eaf6a0b697f949ef659944f0d0d61b98c7685"), looks := false }, kinds := [], alts := [], laidByText := true, laidKinds := [.data, .data, .data], laidTests := true, laidLooks := .later }
def EvaluateTrueCardSaid : Prop := Claim7.holds Tryd.pinned (.plain (OpenSpec.ofChange evaluateTrueSpec)) evaluateTrueCard

/-- THE TIED CARD OF 'pentaglotlaw26.EvaluateMoments'. -/
def evaluateMomentsCard : Claim7 := { stood := { row := evaluateMomentsRow, standIns := [], harness := (true, "322aacd5977a119b5bb71563028eaf6a0b697f949ef659944f0d0d61b98c7685"), looks := false }, kinds := [], alts := [], laidByText := true, laidKinds := [.data, .data, .data], laidTests := true, laidLooks := .later }
def EvaluateMomentsCardSaid : Prop := Claim7.holds Tryd.pinned (.plain (OpenSpec.ofChange evaluateMomentsSpec)) evaluateMomentsCard

/-- THE TIED CARD OF 'pentaglotlaw26.EvaluateConnectives'. -/
def evaluateConnectivesCard : Claim7 := { stood := { row := evaluateConnectivesRow, standIns := [], harness := (true, "322aacd5977a119b5bb71563028eaf6a0b697f949ef659944f0d0d61b98c7685"), looks := false }, kinds := [], alts := [], laidByText := true, laidKinds := [.data, .data, .data], laidTests := true, laidLooks := .later }
def EvaluateConnectivesCardSaid : Prop := Claim7.holds Tryd.pinned (.plain (OpenSpec.ofChange evaluateConnectivesSpec)) evaluateConnectivesCard

/-- THE TIED CARD OF 'pentaglotlaw26.EvaluateDuals'. -/
def evaluateDualsCard : Claim7 := { stood := { row := evaluateDualsRow, standIns := [], harness := (true, "322aacd5977a119b5bb71563028eaf6a0b697f949ef659944f0d0d61b98c7685"), looks := false }, kinds := [], alts := [], laidByText := true, laidKinds := [.data, .data, .data], laidTests := true, laidLooks := .later }
def EvaluateDualsCardSaid : Prop := Claim7.holds Tryd.pinned (.plain (OpenSpec.ofChange evaluateDualsSpec)) evaluateDualsCard

/-- THE TIED CARD OF 'pentaglotlaw26.EvaluateIntervals'. -/
def evaluateIntervalsCard : Claim7 := { stood := { row := evaluateIntervalsRow, standIns := [], harness := (true, "322aacd5977a119b5bb71563028eaf6a0b697f949ef659944f0d0d61b98c7685"), looks := false }, kinds := [], alts := [], laidByText := true, laidKinds := [.data, .data, .data], laidTests := true, laidLooks := .later }
def EvaluateIntervalsCardSaid : Prop := Claim7.holds Tryd.pinned (.plain (OpenSpec.ofChange evaluateIntervalsSpec)) evaluateIntervalsCard

/-- THE TIED CARD OF 'pentaglotlaw26.EvaluateWitness'. -/
def evaluateWitnessCard : Claim7 := { stood := { row := evaluateWitnessRow, standIns := [], harness := (true, "322aacd5977a119b5bb71563028eaf6a0b697f949ef659944f0d0d61b98c7685"), looks := false }, kinds := [], alts := [], laidByText := true, laidKinds := [.data, .data, .data], laidTests := true, laidLooks := .later }
def EvaluateWitnessCardSaid : Prop := Claim7.holds Tryd.pinned (.plain (OpenSpec.ofChange evaluateWitnessSpec)) evaluateWitnessCard

/-- THE TIED CARD OF 'pentaglotlaw26.EvaluateIgnores'. -/
def evaluateIgnoresCard : Claim7 := { stood := { row := evaluateIgnoresRow, standIns := [], harness := (true, "322aacd5977a119b5bb71563028eaf6a0b697f949ef659944f0d0d61b98c7685"), looks := false }, kinds := [], alts := [], laidByText := true, laidKinds := [.data, .data, .data], laidTests := true, laidLooks := .later }
def EvaluateIgnoresCardSaid : Prop := Claim7.holds Tryd.pinned (.plain (OpenSpec.ofChange evaluateIgnoresSpec)) evaluateIgnoresCard

/-- THE TIED CARD OF 'pentaglotlaw26.EvaluateLists'. -/
def evaluateListsCard : Claim7 := { stood := { row := evaluateListsRow, standIns := [], harness := (true, "322aacd5977a119b5bb71563028eaf6a0b697f949ef659944f0d0d61b98c7685"), looks := false }, kinds := [], alts := [], laidByText := true, laidKinds := [.data, .data, .data], laidTests := true, laidLooks := .later }
def EvaluateListsCardSaid : Prop := Claim7.holds Tryd.pinned (.plain (OpenSpec.ofChange evaluateListsSpec)) evaluateListsCard

/-- THE SECOND FORM's CARD OF 'pentaglotlaw26.EvaluateAt'. -/
def evaluateAtUptoCard : Claim7 := { stood := { row := evaluateAtUptoRow, standIns := [], harness := (true, "322aacd5977a119b5bb71563028eaf6a0b697f949ef659944f0d0d61b98c7685"), looks := false }, kinds := [], alts := [], laidByText := true, laidKinds := [.data, .data, .data], laidTests := true, laidLooks := .later }
def EvaluateAtUptoCardSaid : Prop := Claim7.holds Tryd.pinned (.plain (OpenSpec.upto evaluateAtSpec)) evaluateAtUptoCard

/-- THE SECOND FORM's CARD OF 'pentaglotlaw26.EvaluateTrue'. -/
def evaluateTrueUptoCard : Claim7 := { stood := { row := evaluateTrueUptoRow, standIns := [], harness := (true, "322aacd5977a119b5bb71563028eaf6a0b697f949ef659944f0d0d61b98c7685"), looks := false }, kinds := [], alts := [], laidByText := true, laidKinds := [.data, .data, .data], laidTests := true, laidLooks := .later }
def EvaluateTrueUptoCardSaid : Prop := Claim7.holds Tryd.pinned (.plain (OpenSpec.upto evaluateTrueSpec)) evaluateTrueUptoCard

/-- THE SECOND FORM's CARD OF 'pentaglotlaw26.EvaluateMoments'. -/
def evaluateMomentsUptoCard : Claim7 := { stood := { row := evaluateMomentsUptoRow, standIns := [], harness := (true, "322aacd5977a119b5bb71563028eaf6a0b697f949ef659944f0d0d61b98c7685"), looks := false }, kinds := [], alts := [], laidByText := true, laidKinds := [.data, .data, .data], laidTests := true, laidLooks := .later }
def EvaluateMomentsUptoCardSaid : Prop := Claim7.holds Tryd.pinned (.plain (OpenSpec.upto evaluateMomentsSpec)) evaluateMomentsUptoCard

/-- THE SECOND FORM's CARD OF 'pentaglotlaw26.EvaluateConnectives'. -/
def evaluateConnectivesUptoCard : Claim7 := { stood := { row := evaluateConnectivesUptoRow, standIns := [], harness := (true, "322aacd5977a119b5bb71563028eaf6a0b697f949ef659944f0d0d61b98c7685"), looks := false }, kinds := [], alts := [], laidByText := true, laidKinds := [.data, .data, .data], laidTests := true, laidLooks := .later }
def EvaluateConnectivesUptoCardSaid : Prop := Claim7.holds Tryd.pinned (.plain (OpenSpec.upto evaluateConnectivesSpec)) evaluateConnectivesUptoCard

/-- THE SECOND FORM's CARD OF 'pentaglotlaw26.EvaluateDuals'. -/
def evaluateDualsUptoCard : Claim7 := { stood := { row := evaluateDualsUptoRow, standIns := [], harness := (true, "322aacd5977a119b5bb71563028eaf6a0b697f949ef659944f0d0d61b98c7685"), looks := false }, kinds := [], alts := [], laidByText := true, laidKinds := [.data, .data, .data], laidTests := true, laidLooks := .later }
def EvaluateDualsUptoCardSaid : Prop := Claim7.holds Tryd.pinned (.plain (OpenSpec.upto evaluateDualsSpec)) evaluateDualsUptoCard

/-- THE SECOND FORM's CARD OF 'pentaglotlaw26.EvaluateIntervals'. -/
def evaluateIntervalsUptoCard : Claim7 := { stood := { row := evaluateIntervalsUptoRow, standIns := [], harness := (true, "322aacd5977a119b5bb71563028eaf6a0b697f949ef659944f0d0d61b98c7685"), looks := false }, kinds := [], alts := [], laidByText := true, laidKinds := [.data, .data, .data], laidTests := true, laidLooks := .later }
def EvaluateIntervalsUptoCardSaid : Prop := Claim7.holds Tryd.pinned (.plain (OpenSpec.upto evaluateIntervalsSpec)) evaluateIntervalsUptoCard

/-- THE SECOND FORM's CARD OF 'pentaglotlaw26.EvaluateWitness'. -/
def evaluateWitnessUptoCard : Claim7 := { stood := { row := evaluateWitnessUptoRow, standIns := [], harness := (true, "322aacd5977a119b5bb71563028eaf6a0b697f949ef659944f0d0d61b98c7685"), looks := false }, kinds := [], alts := [], laidByText := true, laidKinds := [.data, .data, .data], laidTests := true, laidLooks := .later }
def EvaluateWitnessUptoCardSaid : Prop := Claim7.holds Tryd.pinned (.plain (OpenSpec.upto evaluateWitnessSpec)) evaluateWitnessUptoCard

/-- THE SECOND FORM's CARD OF 'pentaglotlaw26.EvaluateIgnores'. -/
def evaluateIgnoresUptoCard : Claim7 := { stood := { row := evaluateIgnoresUptoRow, standIns := [], harness := (true, "322aacd5977a119b5bb71563028eaf6a0b697f949ef659944f0d0d61b98c7685"), looks := false }, kinds := [], alts := [], laidByText := true, laidKinds := [.data, .data, .data], laidTests := true, laidLooks := .later }
def EvaluateIgnoresUptoCardSaid : Prop := Claim7.holds Tryd.pinned (.plain (OpenSpec.upto evaluateIgnoresSpec)) evaluateIgnoresUptoCard

/-- THE SECOND FORM's CARD OF 'pentaglotlaw26.EvaluateLists'. -/
def evaluateListsUptoCard : Claim7 := { stood := { row := evaluateListsUptoRow, standIns := [], harness := (true, "322aacd5977a119b5bb71563028eaf6a0b697f949ef659944f0d0d61b98c7685"), looks := false }, kinds := [], alts := [], laidByText := true, laidKinds := [.data, .data, .data], laidTests := true, laidLooks := .later }
def EvaluateListsUptoCardSaid : Prop := Claim7.holds Tryd.pinned (.plain (OpenSpec.upto evaluateListsSpec)) evaluateListsUptoCard
end Rows
end Go.Proofs.YtolpckflofjfhaaDoor
