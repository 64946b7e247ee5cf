/-
  No cell of these rows narrows 'for every input' (looked for: loops, veiled, ifaces, maps, wideKeys, modest, calm, conditions, laid).
  DERIVED. THE GIVEN ROWS OF THIS SEAT. 10 by the template 'for every input the law returns true; each argument reads behind the call as it read before'; 0 by the template 'total and deterministic' (their statements: YtflknolnclnhfaaTotals.lean).
  GIVEN WITH THE SEED: the statements are not yours to turn. If you find one false, say at which input.
  Laid BY PROGRAM, IN A SANDBOX (cutbox-rows.mjs): the forced cells as the released guide's own fill.sh prints them over the translation 7a3c62c142190c3f… (all of the seat's roots in one cut). By AI agents, Wed Nov 11 2026. No macro, syntax, notation, axiom, sorry.
-/
import Derived.Test.YtflknolnclnhfaaChecked
import GoSem.Claim
import GoSem.ClaimJoined
import GoSem.ClaimMapViews
import Derived.JoinedTies
import Derived.KernelRfl
namespace Go.Proofs.Ytflknolnclnhfaa
/- THE CELL 'sum', in the pinned program and in every row, IS THE sha256 OF THE DUMP (.gsa) THAT YtflknolnclnhfaaProg.lean LOADS. Nothing in Lean hashes anything: it is a label: what it is worth is what the hold of that sum in a sandbox is worth. -/
noncomputable def Try.pinned : Pinned := { name := "ytflknolnclnhfaa", sum := "7a3c62c142190c3fde21b01fea13ac7b64feceef920afbd2b3c612d4f3f13296", checked := Try.checked }
namespace Rows
def none {H : Type} : Left H := { results := [], args := [] }

/-- 'pentaglotlaw28.SatEval': WHATEVER THE INPUT: true; the input reads as it did. -/
def satEvalSpec : ChangeSpec := { name := "satEval", fn := fun _ => fun
  | [d1, d2] => { results := [.lit (.bool true)], args := [d1, d2] }
  | _ => none }
def satEvalRow : OpenClaim := { program := "ytflknolnclnhfaa", sum := "7a3c62c142190c3fde21b01fea13ac7b64feceef920afbd2b3c612d4f3f13296", func := "pentaglot/pentaglotlaw28.SatEval", spec := "satEval", unfollowed := true, recurses := true, apart := false }
def SatEvalSaid : Prop := satEvalRow.holds Try.pinned (OpenSpec.ofChange satEvalSpec)

/-- ITS FALSE NEIGHBOUR: 'it returns false'. Refute it at one input. -/
def satEvalWrong : ChangeSpec := { name := "satEval", fn := fun _ => fun
  | [d1, d2] => { results := [.lit (.bool false)], args := [d1, d2] }
  | _ => none }
def SatEvalWrongFalsely : Prop := satEvalRow.holds Try.pinned (OpenSpec.ofChange satEvalWrong)

/-- 'pentaglotlaw28.SatThree': WHATEVER THE INPUT: true; the input reads as it did. -/
def satThreeSpec : ChangeSpec := { name := "satThree", fn := fun _ => fun
  | [d1, d2] => { results := [.lit (.bool true)], args := [d1, d2] }
  | _ => none }
def satThreeRow : OpenClaim := { program := "ytflknolnclnhfaa", sum := "7a3c62c142190c3fde21b01fea13ac7b64feceef920afbd2b3c612d4f3f13296", func := "pentaglot/pentaglotlaw28.SatThree", spec := "satThree", unfollowed := true, recurses := true, apart := false }
def SatThreeSaid : Prop := satThreeRow.holds Try.pinned (OpenSpec.ofChange satThreeSpec)

/-- ITS FALSE NEIGHBOUR: 'it returns false'. Refute it at one input. -/
def satThreeWrong : ChangeSpec := { name := "satThree", fn := fun _ => fun
  | [d1, d2] => { results := [.lit (.bool false)], args := [d1, d2] }
  | _ => none }
def SatThreeWrongFalsely : Prop := satThreeRow.holds Try.pinned (OpenSpec.ofChange satThreeWrong)

/-- 'pentaglotlaw28.SatLeast': WHATEVER THE INPUT: true; the input reads as it did. -/
def satLeastSpec : ChangeSpec := { name := "satLeast", fn := fun _ => fun
  | [d1, d2, d3] => { results := [.lit (.bool true)], args := [d1, d2, d3] }
  | _ => none }
def satLeastRow : OpenClaim := { program := "ytflknolnclnhfaa", sum := "7a3c62c142190c3fde21b01fea13ac7b64feceef920afbd2b3c612d4f3f13296", func := "pentaglot/pentaglotlaw28.SatLeast", spec := "satLeast", unfollowed := true, recurses := true, apart := false }
def SatLeastSaid : Prop := satLeastRow.holds Try.pinned (OpenSpec.ofChange satLeastSpec)

/-- ITS FALSE NEIGHBOUR: 'it returns false'. Refute it at one input. -/
def satLeastWrong : ChangeSpec := { name := "satLeast", fn := fun _ => fun
  | [d1, d2, d3] => { results := [.lit (.bool false)], args := [d1, d2, d3] }
  | _ => none }
def SatLeastWrongFalsely : Prop := satLeastRow.holds Try.pinned (OpenSpec.ofChange satLeastWrong)

/-- 'pentaglotlaw28.SatCount': WHATEVER THE INPUT: true; the input reads as it did. -/
def satCountSpec : ChangeSpec := { name := "satCount", fn := fun _ => fun
  | [d] => { results := [.lit (.bool true)], args := [d] }
  | _ => none }
def satCountRow : OpenClaim := { program := "ytflknolnclnhfaa", sum := "7a3c62c142190c3fde21b01fea13ac7b64feceef920afbd2b3c612d4f3f13296", func := "pentaglot/pentaglotlaw28.SatCount", spec := "satCount", unfollowed := true, recurses := true, apart := false }
def SatCountSaid : Prop := satCountRow.holds Try.pinned (OpenSpec.ofChange satCountSpec)

/-- ITS FALSE NEIGHBOUR: 'it returns false'. Refute it at one input. -/
def satCountWrong : ChangeSpec := { name := "satCount", fn := fun _ => fun
  | [d] => { results := [.lit (.bool false)], args := [d] }
  | _ => none }
def SatCountWrongFalsely : Prop := satCountRow.holds Try.pinned (OpenSpec.ofChange satCountWrong)

/-- 'pentaglotlaw28.SatUnknown': WHATEVER THE INPUT: true; the input reads as it did. -/
def satUnknownSpec : ChangeSpec := { name := "satUnknown", fn := fun _ => fun
  | [d1, d2, d3] => { results := [.lit (.bool true)], args := [d1, d2, d3] }
  | _ => none }
def satUnknownRow : OpenClaim := { program := "ytflknolnclnhfaa", sum := "7a3c62c142190c3fde21b01fea13ac7b64feceef920afbd2b3c612d4f3f13296", func := "pentaglot/pentaglotlaw28.SatUnknown", spec := "satUnknown", unfollowed := true, recurses := true, apart := false }
def SatUnknownSaid : Prop := satUnknownRow.holds Try.pinned (OpenSpec.ofChange satUnknownSpec)

/-- ITS FALSE NEIGHBOUR: 'it returns false'. Refute it at one input. -/
def satUnknownWrong : ChangeSpec := { name := "satUnknown", fn := fun _ => fun
  | [d1, d2, d3] => { results := [.lit (.bool false)], args := [d1, d2, d3] }
  | _ => none }
def SatUnknownWrongFalsely : Prop := satUnknownRow.holds Try.pinned (OpenSpec.ofChange satUnknownWrong)

/-- 'pentaglotlaw28.SatFirst': WHATEVER THE INPUT: true; the input reads as it did. -/
def satFirstSpec : ChangeSpec := { name := "satFirst", fn := fun _ => fun
  | [d1, d2, d3] => { results := [.lit (.bool true)], args := [d1, d2, d3] }
  | _ => none }
def satFirstRow : OpenClaim := { program := "ytflknolnclnhfaa", sum := "7a3c62c142190c3fde21b01fea13ac7b64feceef920afbd2b3c612d4f3f13296", func := "pentaglot/pentaglotlaw28.SatFirst", spec := "satFirst", unfollowed := true, recurses := true, apart := false }
def SatFirstSaid : Prop := satFirstRow.holds Try.pinned (OpenSpec.ofChange satFirstSpec)

/-- ITS FALSE NEIGHBOUR: 'it returns false'. Refute it at one input. -/
def satFirstWrong : ChangeSpec := { name := "satFirst", fn := fun _ => fun
  | [d1, d2, d3] => { results := [.lit (.bool false)], args := [d1, d2, d3] }
  | _ => none }
def SatFirstWrongFalsely : Prop := satFirstRow.holds Try.pinned (OpenSpec.ofChange satFirstWrong)

/-- 'pentaglotlaw28.SatBudget': WHATEVER THE INPUT: true; the input reads as it did. -/
def satBudgetSpec : ChangeSpec := { name := "satBudget", fn := fun _ => fun
  | [d1, d2, d3, d4] => { results := [.lit (.bool true)], args := [d1, d2, d3, d4] }
  | _ => none }
def satBudgetRow : OpenClaim := { program := "ytflknolnclnhfaa", sum := "7a3c62c142190c3fde21b01fea13ac7b64feceef920afbd2b3c612d4f3f13296", func := "pentaglot/pentaglotlaw28.SatBudget", spec := "satBudget", unfollowed := true, recurses := true, apart := false }
def SatBudgetSaid : Prop := satBudgetRow.holds Try.pinned (OpenSpec.ofChange satBudgetSpec)

/-- ITS FALSE NEIGHBOUR: 'it returns false'. Refute it at one input. -/
def satBudgetWrong : ChangeSpec := { name := "satBudget", fn := fun _ => fun
  | [d1, d2, d3, d4] => { results := [.lit (.bool false)], args := [d1, d2, d3, d4] }
  | _ => none }
def SatBudgetWrongFalsely : Prop := satBudgetRow.holds Try.pinned (OpenSpec.ofChange satBudgetWrong)

/-- 'pentaglotlaw28.SatSplits': WHATEVER THE INPUT: true; the input reads as it did. -/
def satSplitsSpec : ChangeSpec := { name := "satSplits", fn := fun _ => fun
  | [d] => { results := [.lit (.bool true)], args := [d] }
  | _ => none }
def satSplitsRow : OpenClaim := { program := "ytflknolnclnhfaa", sum := "7a3c62c142190c3fde21b01fea13ac7b64feceef920afbd2b3c612d4f3f13296", func := "pentaglot/pentaglotlaw28.SatSplits", spec := "satSplits", unfollowed := true, recurses := true, apart := false }
def SatSplitsSaid : Prop := satSplitsRow.holds Try.pinned (OpenSpec.ofChange satSplitsSpec)

/-- ITS FALSE NEIGHBOUR: 'it returns false'. Refute it at one input. -/
def satSplitsWrong : ChangeSpec := { name := "satSplits", fn := fun _ => fun
  | [d] => { results := [.lit (.bool false)], args := [d] }
  | _ => none }
def SatSplitsWrongFalsely : Prop := satSplitsRow.holds Try.pinned (OpenSpec.ofChange satSplitsWrong)

/-- 'pentaglotlaw28.SatStops': WHATEVER THE INPUT: true; the input reads as it did. -/
def satStopsSpec : ChangeSpec := { name := "satStops", fn := fun _ => fun
  | [d1, d2] => { results := [.lit (.bool true)], args := [d1, d2] }
  | _ => none }
def satStopsRow : OpenClaim := { program := "ytflknolnclnhfaa", sum := "7a3c62c142190c3fde21b01fea13ac7b64feceef920afbd2b3c612d4f3f13296", func := "pentaglot/pentaglotlaw28.SatStops", spec := "satStops", unfollowed := true, recurses := true, apart := false }
def SatStopsSaid : Prop := satStopsRow.holds Try.pinned (OpenSpec.ofChange satStopsSpec)

/-- ITS FALSE NEIGHBOUR: 'it returns false'. Refute it at one input. -/
def satStopsWrong : ChangeSpec := { name := "satStops", fn := fun _ => fun
  | [d1, d2] => { results := [.lit (.bool false)], args := [d1, d2] }
  | _ => none }
def SatStopsWrongFalsely : Prop := satStopsRow.holds Try.pinned (OpenSpec.ofChange satStopsWrong)

/-- 'pentaglotlaw28.SatIrrelevant': WHATEVER THE INPUT: true; the input reads as it did. -/
def satIrrelevantSpec : ChangeSpec := { name := "satIrrelevant", fn := fun _ => fun
  | [d1, d2, d3] => { results := [.lit (.bool true)], args := [d1, d2, d3] }
  | _ => none }
def satIrrelevantRow : OpenClaim := { program := "ytflknolnclnhfaa", sum := "7a3c62c142190c3fde21b01fea13ac7b64feceef920afbd2b3c612d4f3f13296", func := "pentaglot/pentaglotlaw28.SatIrrelevant", spec := "satIrrelevant", unfollowed := true, recurses := true, apart := false }
def SatIrrelevantSaid : Prop := satIrrelevantRow.holds Try.pinned (OpenSpec.ofChange satIrrelevantSpec)

/-- ITS FALSE NEIGHBOUR: 'it returns false'. Refute it at one input. -/
def satIrrelevantWrong : ChangeSpec := { name := "satIrrelevant", fn := fun _ => fun
  | [d1, d2, d3] => { results := [.lit (.bool false)], args := [d1, d2, d3] }
  | _ => none }
def SatIrrelevantWrongFalsely : Prop := satIrrelevantRow.holds Try.pinned (OpenSpec.ofChange satIrrelevantWrong)

/- THE SECOND FORM. 'bulk': how many values and letters a reading holds, each counted each time it is reached (what is shared counts as often as it is met; a slice's spare places count too). A statement '..UptoSaid' is the law's where the arguments, and the package variables that the reading takes, are together of bulk at most 1048576: NARROWER than '..Said'. Prove '..Said' where nothing that the law and all that it calls make is longer than what came in: it says more and counts as full. Else prove '..UptoSaid'. A law counts once. -/
mutual
def uptoBulk {H : Type} : DataW H → Nat
  | .lit (.string bytes) => bytes.length + 1
  | .lit _ => 1
  | .nil => 1
  | .ptr d => uptoBulk d + 1
  | .slice elems spare => uptoBulkAll elems + uptoBulkAll spare + 1
  | .agg parts => uptoBulkAll parts + 1
  | .iface _ d => uptoBulk d + 1
  | .map entries => uptoBulkEntries entries + 1
  | .held _ => 1
def uptoBulkAll {H : Type} : List (DataW H) → Nat
  | [] => 0
  | d :: r => uptoBulk d + uptoBulkAll r
def uptoBulkEntries {H : Type} : List (Lit × DataW H) → Nat
  | [] => 0
  | x :: r => uptoBulkEntry x + uptoBulkEntries r
def uptoBulkEntry {H : Type} : Lit × DataW H → Nat
  | (.string bytes, d) => bytes.length + uptoBulk d + 1
  | (_, d) => uptoBulk d + 1
 end
def uptoSmall : (H : Type) → List (DataW H) → Bool := fun _ ds => decide (uptoBulkAll ds ≤ 1048576)
def OpenSpec.upto (s : _root_.Go.ChangeSpec) : _root_.Go.OpenSpec := { _root_.Go.OpenSpec.ofChange s with cond := some uptoSmall }

/-- 'pentaglotlaw28.SatEval', WHERE WHAT IT READS IS OF BULK AT MOST 1048576: true; the input reads as it did. -/
def satEvalUptoRow : OpenClaim := { program := "ytflknolnclnhfaa", sum := "7a3c62c142190c3fde21b01fea13ac7b64feceef920afbd2b3c612d4f3f13296", func := "pentaglot/pentaglotlaw28.SatEval", spec := "satEval", unfollowed := true, recurses := true, apart := false, narrowed := true }
def SatEvalUptoSaid : Prop := satEvalUptoRow.holds Try.pinned (OpenSpec.upto satEvalSpec)

/-- 'pentaglotlaw28.SatThree', WHERE WHAT IT READS IS OF BULK AT MOST 1048576: true; the input reads as it did. -/
def satThreeUptoRow : OpenClaim := { program := "ytflknolnclnhfaa", sum := "7a3c62c142190c3fde21b01fea13ac7b64feceef920afbd2b3c612d4f3f13296", func := "pentaglot/pentaglotlaw28.SatThree", spec := "satThree", unfollowed := true, recurses := true, apart := false, narrowed := true }
def SatThreeUptoSaid : Prop := satThreeUptoRow.holds Try.pinned (OpenSpec.upto satThreeSpec)

/-- 'pentaglotlaw28.SatLeast', WHERE WHAT IT READS IS OF BULK AT MOST 1048576: true; the input reads as it did. -/
def satLeastUptoRow : OpenClaim := { program := "ytflknolnclnhfaa", sum := "7a3c62c142190c3fde21b01fea13ac7b64feceef920afbd2b3c612d4f3f13296", func := "pentaglot/pentaglotlaw28.SatLeast", spec := "satLeast", unfollowed := true, recurses := true, apart := false, narrowed := true }
def SatLeastUptoSaid : Prop := satLeastUptoRow.holds Try.pinned (OpenSpec.upto satLeastSpec)

/-- 'pentaglotlaw28.SatCount', WHERE WHAT IT READS IS OF BULK AT MOST 1048576: true; the input reads as it did. -/
def satCountUptoRow : OpenClaim := { program := "ytflknolnclnhfaa", sum := "7a3c62c142190c3fde21b01fea13ac7b64feceef920afbd2b3c612d4f3f13296", func := "pentaglot/pentaglotlaw28.SatCount", spec := "satCount", unfollowed := true, recurses := true, apart := false, narrowed := true }
def SatCountUptoSaid : Prop := satCountUptoRow.holds Try.pinned (OpenSpec.upto satCountSpec)

/-- 'pentaglotlaw28.SatUnknown', WHERE WHAT IT READS IS OF BULK AT MOST 1048576: true; the input reads as it did. -/
def satUnknownUptoRow : OpenClaim := { program := "ytflknolnclnhfaa", sum := "7a3c62c142190c3fde21b01fea13ac7b64feceef920afbd2b3c612d4f3f13296", func := "pentaglot/pentaglotlaw28.SatUnknown", spec := "satUnknown", unfollowed := true, recurses := true, apart := false, narrowed := true }
def SatUnknownUptoSaid : Prop := satUnknownUptoRow.holds Try.pinned (OpenSpec.upto satUnknownSpec)

/-- 'pentaglotlaw28.SatFirst', WHERE WHAT IT READS IS OF BULK AT MOST 1048576: true; the input reads as it did. -/
def satFirstUptoRow : OpenClaim := { program := "ytflknolnclnhfaa", sum := "7a3c62c142190c3fde21b01fea13ac7b64feceef920afbd2b3c612d4f3f13296", func := "pentaglot/pentaglotlaw28.SatFirst", spec := "satFirst", unfollowed := true, recurses := true, apart := false, narrowed := true }
def SatFirstUptoSaid : Prop := satFirstUptoRow.holds Try.pinned (OpenSpec.upto satFirstSpec)

/-- 'pentaglotlaw28.SatBudget', WHERE WHAT IT READS IS OF BULK AT MOST 1048576: true; the input reads as it did. -/
def satBudgetUptoRow : OpenClaim := { program := "ytflknolnclnhfaa", sum := "7a3c62c142190c3fde21b01fea13ac7b64feceef920afbd2b3c612d4f3f13296", func := "pentaglot/pentaglotlaw28.SatBudget", spec := "satBudget", unfollowed := true, recurses := true, apart := false, narrowed := true }
def SatBudgetUptoSaid : Prop := satBudgetUptoRow.holds Try.pinned (OpenSpec.upto satBudgetSpec)

/-- 'pentaglotlaw28.SatSplits', WHERE WHAT IT READS IS OF BULK AT MOST 1048576: true; the input reads as it did. -/
def satSplitsUptoRow : OpenClaim := { program := "ytflknolnclnhfaa", sum := "7a3c62c142190c3fde21b01fea13ac7b64feceef920afbd2b3c612d4f3f13296", func := "pentaglot/pentaglotlaw28.SatSplits", spec := "satSplits", unfollowed := true, recurses := true, apart := false, narrowed := true }
def SatSplitsUptoSaid : Prop := satSplitsUptoRow.holds Try.pinned (OpenSpec.upto satSplitsSpec)

/-- 'pentaglotlaw28.SatStops', WHERE WHAT IT READS IS OF BULK AT MOST 1048576: true; the input reads as it did. -/
def satStopsUptoRow : OpenClaim := { program := "ytflknolnclnhfaa", sum := "7a3c62c142190c3fde21b01fea13ac7b64feceef920afbd2b3c612d4f3f13296", func := "pentaglot/pentaglotlaw28.SatStops", spec := "satStops", unfollowed := true, recurses := true, apart := false, narrowed := true }
def SatStopsUptoSaid : Prop := satStopsUptoRow.holds Try.pinned (OpenSpec.upto satStopsSpec)

/-- 'pentaglotlaw28.SatIrrelevant', WHERE WHAT IT READS IS OF BULK AT MOST 1048576: true; the input reads as it did. -/
def satIrrelevantUptoRow : OpenClaim := { program := "ytflknolnclnhfaa", sum := "7a3c62c142190c3fde21b01fea13ac7b64feceef920afbd2b3c612d4f3f13296", func := "pentaglot/pentaglotlaw28.SatIrrelevant", spec := "satIrrelevant", unfollowed := true, recurses := true, apart := false, narrowed := true }
def SatIrrelevantUptoSaid : Prop := satIrrelevantUptoRow.holds Try.pinned (OpenSpec.upto satIrrelevantSpec)

end Rows
end Go.Proofs.Ytflknolnclnhfaa
