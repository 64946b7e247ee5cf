/-
  NARROWER THAN 'FOR EVERY INPUT', by the rows' own cells (each row's printed sentence says how): EvaluateAt: loops, laid · EvaluateTrue: loops, laid · EvaluateMoments: laid · EvaluateConnectives: loops, laid · EvaluateDuals: loops, laid · EvaluateIntervals: loops, laid · EvaluateWitness: loops, laid · EvaluateIgnores: loops, laid · EvaluateLists: loops, laid.
  DERIVED. THE GIVEN ROWS OF THIS SEAT. 9 by the template 'for every input the law returns true; each argument reads behind the call as it read before'; 0 by the template 'total and deterministic' (their statements: YtolpckflofjfhaaDoorTotals.lean).
  GIVEN WITH THE SEED: the statements are not yours to turn. If you find one false, say at which input.
  Laid BY PROGRAM, IN A SANDBOX (cutbox-rows.mjs): the forced cells as the released guide's own fill.sh prints them over the translation 08a91cca11b4bf9e… (all of the seat's roots in one cut). By AI agents, Wed Nov 11 2026. No macro, syntax, notation, axiom, sorry.
-/
import Derived.Test.YtolpckflofjfhaaDoorChecked
import GoSem.Claim
import GoSem.ClaimJoined
import GoSem.ClaimMapViews
import Derived.JoinedTies
import Derived.KernelRfl
namespace Go.Proofs.YtolpckflofjfhaaDoor
/- THE CELL 'sum', in the pinned program and in every row, IS THE sha256 OF THE DUMP (.gsa) THAT YtolpckflofjfhaaDoorProg.lean LOADS. Nothing in Lean hashes anything: it is a label: what it is worth is what the hold of that sum in a sandbox is worth. -/
noncomputable def Tryd.pinned : Pinned := { name := "ytolpckflofjfhaadoor", sum := "08a91cca11b4bf9e4744eb3843e0da634dde97353c388ee6b893dcbf6516bfbe", checked := Tryd.checked }
namespace Rows
def none {H : Type} : Left H := { results := [], args := [] }

/- WHAT THE LISTED PACKAGE-LEVEL VARIABLES READ AS WHEN THE CALL BEGINS. Each datum BY PROGRAM (the guide's laid-datum.mjs) off the statement by which the dump's own 'gosem.cut.vars' lays the variable. In a bare row this is a premise. The card (YtolpckflofjfhaaDoorCards.lean) ties it to the program's text. -/
def laid_math_bits_deBruijn32tab {H : Type} : DataW H := .agg [.lit (.int .u8 0), .lit (.int .u8 1), .lit (.int .u8 28), .lit (.int .u8 2), .lit (.int .u8 29), .lit (.int .u8 14), .lit (.int .u8 24), .lit (.int .u8 3), .lit (.int .u8 30), .lit (.int .u8 22), .lit (.int .u8 20), .lit (.int .u8 15), .lit (.int .u8 25), .lit (.int .u8 17), .lit (.int .u8 4), .lit (.int .u8 8), .lit (.int .u8 31), .lit (.int .u8 27), .lit (.int .u8 13), .lit (.int .u8 23), .lit (.int .u8 21), .lit (.int .u8 19), .lit (.int .u8 16), .lit (.int .u8 7), .lit (.int .u8 26), .lit (.int .u8 12), .lit (.int .u8 18), .lit (.int .u8 6), .lit (.int .u8 11), .lit (.int .u8 5), .lit (.int .u8 10), .lit (.int .u8 9)]
def laid_math_bits_deBruijn64tab {H : Type} : DataW H := .agg [.lit (.int .u8 0), .lit (.int .u8 1), .lit (.int .u8 56), .lit (.int .u8 2), .lit (.int .u8 57), .lit (.int .u8 49), .lit (.int .u8 28), .lit (.int .u8 3), .lit (.int .u8 61), .lit (.int .u8 58), .lit (.int .u8 42), .lit (.int .u8 50), .lit (.int .u8 38), .lit (.int .u8 29), .lit (.int .u8 17), .lit (.int .u8 4), .lit (.int .u8 62), .lit (.int .u8 47), .lit (.int .u8 59), .lit (.int .u8 36), .lit (.int .u8 45), .lit (.int .u8 43), .lit (.int .u8 51), .lit (.int .u8 22), .lit (.int .u8 53), .lit (.int .u8 39), .lit (.int .u8 33), .lit (.int .u8 30), .lit (.int .u8 24), .lit (.int .u8 18), .lit (.int .u8 12), .lit (.int .u8 5), .lit (.int .u8 63), .lit (.int .u8 55), .lit (.int .u8 48), .lit (.int .u8 27), .lit (.int .u8 60), .lit (.int .u8 41), .lit (.int .u8 37), .lit (.int .u8 16), .lit (.int .u8 46), .lit (.int .u8 35), .lit (.int .u8 44), .lit (.int .u8 21), .lit (.int .u8 52), .lit (.int .u8 32), .lit (.int .u8 23), .lit (.int .u8 11), .lit (.int .u8 54), .lit (.int .u8 26), .lit (.int .u8 40), .lit (.int .u8 15), .lit (.int .u8 34), .lit (.int .u8 20), .lit (.int .u8 31), .lit (.int .u8 10), .lit (.int .u8 25), .lit (.int .u8 14), .lit (.int .u8 19), .lit (.int .u8 9), .lit (.int .u8 13), .lit (.int .u8 8), .lit (.int .u8 7), .lit (.int .u8 6)]
def laid_internal_strconv_uint64pow10 {H : Type} : DataW H := .agg [.lit (.int .u64 1), .lit (.int .u64 10), .lit (.int .u64 100), .lit (.int .u64 1000), .lit (.int .u64 10000), .lit (.int .u64 100000), .lit (.int .u64 1000000), .lit (.int .u64 10000000), .lit (.int .u64 100000000), .lit (.int .u64 1000000000), .lit (.int .u64 10000000000), .lit (.int .u64 100000000000), .lit (.int .u64 1000000000000), .lit (.int .u64 10000000000000), .lit (.int .u64 100000000000000), .lit (.int .u64 1000000000000000), .lit (.int .u64 10000000000000000), .lit (.int .u64 100000000000000000), .lit (.int .u64 1000000000000000000), .lit (.int .u64 10000000000000000000)]

/-- 'pentaglotlaw26.EvaluateAt': WHATEVER THE INPUT: true; the input reads as it did. -/
def evaluateAtSpec : ChangeSpec := { name := "evaluateAt", fn := fun _ => fun
  | [d1, d2, d3, d4] => { results := [.lit (.bool true)], args := [d1, d2, d3, d4] }
  | _ => none }
def evaluateAtRow : OpenClaim := { program := "ytolpckflofjfhaadoor", sum := "08a91cca11b4bf9e4744eb3843e0da634dde97353c388ee6b893dcbf6516bfbe", func := "pentaglot/pentaglotlaw26.EvaluateAt", spec := "evaluateAt", unfollowed := true, recurses := true, named := ["internal/strconv.uint64pow10", "math/bits.deBruijn32tab", "math/bits.deBruijn64tab"], loops := true, plainKeys := false, apart := false, laid := [("math/bits.deBruijn32tab", laid_math_bits_deBruijn32tab), ("math/bits.deBruijn64tab", laid_math_bits_deBruijn64tab), ("internal/strconv.uint64pow10", laid_internal_strconv_uint64pow10)] }
def EvaluateAtSaid : Prop := evaluateAtRow.holds Tryd.pinned (OpenSpec.ofChange evaluateAtSpec)

/-- ITS FALSE NEIGHBOUR: 'it returns false'. Refute it at one input. -/
def evaluateAtWrong : ChangeSpec := { name := "evaluateAt", fn := fun _ => fun
  | [d1, d2, d3, d4] => { results := [.lit (.bool false)], args := [d1, d2, d3, d4] }
  | _ => none }
def EvaluateAtWrongFalsely : Prop := evaluateAtRow.holds Tryd.pinned (OpenSpec.ofChange evaluateAtWrong)

/-- 'pentaglotlaw26.EvaluateTrue': WHATEVER THE INPUT: true; the input reads as it did. -/
def evaluateTrueSpec : ChangeSpec := { name := "evaluateTrue", fn := fun _ => fun
  | [d1, d2] => { results := [.lit (.bool true)], args := [d1, d2] }
  | _ => none }
def evaluateTrueRow : OpenClaim := { program := "ytolpckflofjfhaadoor", sum := "08a91cca11b4bf9e4744eb3843e0da634dde97353c388ee6b893dcbf6516bfbe", func := "pentaglot/pentaglotlaw26.EvaluateTrue", spec := "evaluateTrue", unfollowed := true, recurses := true, named := ["internal/strconv.uint64pow10", "math/bits.deBruijn32tab", "math/bits.deBruijn64tab"], loops := true, plainKeys := false, apart := false, laid := [("math/bits.deBruijn32tab", laid_math_bits_deBruijn32tab), ("math/bits.deBruijn64tab", laid_math_bits_deBruijn64tab), ("internal/strconv.uint64pow10", laid_internal_strconv_uint64pow10)] }
def EvaluateTrueSaid : Prop := evaluateTrueRow.holds Tryd.pinned (OpenSpec.ofChange evaluateTrueSpec)

/-- ITS FALSE NEIGHBOUR: 'it returns false'. Refute it at one input. -/
def evaluateTrueWrong : ChangeSpec := { name := "evaluateTrue", fn := fun _ => fun
  | [d1, d2] => { results := [.lit (.bool false)], args := [d1, d2] }
  | _ => none }
def EvaluateTrueWrongFalsely : Prop := evaluateTrueRow.holds Tryd.pinned (OpenSpec.ofChange evaluateTrueWrong)

/-- 'pentaglotlaw26.EvaluateMoments': WHATEVER THE INPUT: true; the input reads as it did. -/
def evaluateMomentsSpec : ChangeSpec := { name := "evaluateMoments", fn := fun _ => fun
  | [d1, d2, d3] => { results := [.lit (.bool true)], args := [d1, d2, d3] }
  | _ => none }
def evaluateMomentsRow : OpenClaim := { program := "ytolpckflofjfhaadoor", sum := "08a91cca11b4bf9e4744eb3843e0da634dde97353c388ee6b893dcbf6516bfbe", func := "pentaglot/pentaglotlaw26.EvaluateMoments", spec := "evaluateMoments", unfollowed := true, recurses := true, named := ["internal/strconv.uint64pow10", "math/bits.deBruijn32tab", "math/bits.deBruijn64tab"], plainKeys := false, apart := false, laid := [("math/bits.deBruijn32tab", laid_math_bits_deBruijn32tab), ("math/bits.deBruijn64tab", laid_math_bits_deBruijn64tab), ("internal/strconv.uint64pow10", laid_internal_strconv_uint64pow10)] }
def EvaluateMomentsSaid : Prop := evaluateMomentsRow.holds Tryd.pinned (OpenSpec.ofChange evaluateMomentsSpec)

/-- ITS FALSE NEIGHBOUR: 'it returns false'. Refute it at one input. -/
def evaluateMomentsWrong : ChangeSpec := { name := "evaluateMoments", fn := fun _ => fun
  | [d1, d2, d3] => { results := [.lit (.bool false)], args := [d1, d2, d3] }
  | _ => none }
def EvaluateMomentsWrongFalsely : Prop := evaluateMomentsRow.holds Tryd.pinned (OpenSpec.ofChange evaluateMomentsWrong)

/-- 'pentaglotlaw26.EvaluateConnectives': WHATEVER THE INPUT: true; the input reads as it did. -/
def evaluateConnectivesSpec : ChangeSpec := { name := "evaluateConnectives", fn := fun _ => fun
  | [d1, d2, d3, d4, d5] => { results := [.lit (.bool true)], args := [d1, d2, d3, d4, d5] }
  | _ => none }
def evaluateConnectivesRow : OpenClaim := { program := "ytolpckflofjfhaadoor", sum := "08a91cca11b4bf9e4744eb3843e0da634dde97353c388ee6b893dcbf6516bfbe", func := "pentaglot/pentaglotlaw26.EvaluateConnectives", spec := "evaluateConnectives", unfollowed := true, recurses := true, named := ["internal/strconv.uint64pow10", "math/bits.deBruijn32tab", "math/bits.deBruijn64tab"], loops := true, plainKeys := false, apart := false, laid := [("math/bits.deBruijn32tab", laid_math_bits_deBruijn32tab), ("math/bits.deBruijn64tab", laid_math_bits_deBruijn64tab), ("internal/strconv.uint64pow10", laid_internal_strconv_uint64pow10)] }
def EvaluateConnectivesSaid : Prop := evaluateConnectivesRow.holds Tryd.pinned (OpenSpec.ofChange evaluateConnectivesSpec)

/-- ITS FALSE NEIGHBOUR: 'it returns false'. Refute it at one input. -/
def evaluateConnectivesWrong : ChangeSpec := { name := "evaluateConnectives", fn := fun _ => fun
  | [d1, d2, d3, d4, d5] => { results := [.lit (.bool false)], args := [d1, d2, d3, d4, d5] }
  | _ => none }
def EvaluateConnectivesWrongFalsely : Prop := evaluateConnectivesRow.holds Tryd.pinned (OpenSpec.ofChange evaluateConnectivesWrong)

/-- 'pentaglotlaw26.EvaluateDuals': WHATEVER THE INPUT: true; the input reads as it did. -/
def evaluateDualsSpec : ChangeSpec := { name := "evaluateDuals", fn := fun _ => fun
  | [d1, d2, d3, d4] => { results := [.lit (.bool true)], args := [d1, d2, d3, d4] }
  | _ => none }
def evaluateDualsRow : OpenClaim := { program := "ytolpckflofjfhaadoor", sum := "08a91cca11b4bf9e4744eb3843e0da634dde97353c388ee6b893dcbf6516bfbe", func := "pentaglot/pentaglotlaw26.EvaluateDuals", spec := "evaluateDuals", unfollowed := true, recurses := true, named := ["internal/strconv.uint64pow10", "math/bits.deBruijn32tab", "math/bits.deBruijn64tab"], loops := true, plainKeys := false, apart := false, laid := [("math/bits.deBruijn32tab", laid_math_bits_deBruijn32tab), ("math/bits.deBruijn64tab", laid_math_bits_deBruijn64tab), ("internal/strconv.uint64pow10", laid_internal_strconv_uint64pow10)] }
def EvaluateDualsSaid : Prop := evaluateDualsRow.holds Tryd.pinned (OpenSpec.ofChange evaluateDualsSpec)

/-- ITS FALSE NEIGHBOUR: 'it returns false'. Refute it at one input. -/
def evaluateDualsWrong : ChangeSpec := { name := "evaluateDuals", fn := fun _ => fun
  | [d1, d2, d3, d4] => { results := [.lit (.bool false)], args := [d1, d2, d3, d4] }
  | _ => none }
def EvaluateDualsWrongFalsely : Prop := evaluateDualsRow.holds Tryd.pinned (OpenSpec.ofChange evaluateDualsWrong)

/-- 'pentaglotlaw26.EvaluateIntervals': WHATEVER THE INPUT: true; the input reads as it did. -/
def evaluateIntervalsSpec : ChangeSpec := { name := "evaluateIntervals", fn := fun _ => fun
  | [d1, d2, d3, d4, d5, d6] => { results := [.lit (.bool true)], args := [d1, d2, d3, d4, d5, d6] }
  | _ => none }
def evaluateIntervalsRow : OpenClaim := { program := "ytolpckflofjfhaadoor", sum := "08a91cca11b4bf9e4744eb3843e0da634dde97353c388ee6b893dcbf6516bfbe", func := "pentaglot/pentaglotlaw26.EvaluateIntervals", spec := "evaluateIntervals", unfollowed := true, recurses := true, named := ["internal/strconv.uint64pow10", "math/bits.deBruijn32tab", "math/bits.deBruijn64tab"], loops := true, plainKeys := false, apart := false, laid := [("math/bits.deBruijn32tab", laid_math_bits_deBruijn32tab), ("math/bits.deBruijn64tab", laid_math_bits_deBruijn64tab), ("internal/strconv.uint64pow10", laid_internal_strconv_uint64pow10)] }
def EvaluateIntervalsSaid : Prop := evaluateIntervalsRow.holds Tryd.pinned (OpenSpec.ofChange evaluateIntervalsSpec)

/-- ITS FALSE NEIGHBOUR: 'it returns false'. Refute it at one input. -/
def evaluateIntervalsWrong : ChangeSpec := { name := "evaluateIntervals", fn := fun _ => fun
  | [d1, d2, d3, d4, d5, d6] => { results := [.lit (.bool false)], args := [d1, d2, d3, d4, d5, d6] }
  | _ => none }
def EvaluateIntervalsWrongFalsely : Prop := evaluateIntervalsRow.holds Tryd.pinned (OpenSpec.ofChange evaluateIntervalsWrong)

/-- 'pentaglotlaw26.EvaluateWitness': WHATEVER THE INPUT: true; the input reads as it did. -/
def evaluateWitnessSpec : ChangeSpec := { name := "evaluateWitness", fn := fun _ => fun
  | [d1, d2, d3, d4] => { results := [.lit (.bool true)], args := [d1, d2, d3, d4] }
  | _ => none }
def evaluateWitnessRow : OpenClaim := { program := "ytolpckflofjfhaadoor", sum := "08a91cca11b4bf9e4744eb3843e0da634dde97353c388ee6b893dcbf6516bfbe", func := "pentaglot/pentaglotlaw26.EvaluateWitness", spec := "evaluateWitness", unfollowed := true, recurses := true, named := ["internal/strconv.uint64pow10", "math/bits.deBruijn32tab", "math/bits.deBruijn64tab"], loops := true, plainKeys := false, apart := false, laid := [("math/bits.deBruijn32tab", laid_math_bits_deBruijn32tab), ("math/bits.deBruijn64tab", laid_math_bits_deBruijn64tab), ("internal/strconv.uint64pow10", laid_internal_strconv_uint64pow10)] }
def EvaluateWitnessSaid : Prop := evaluateWitnessRow.holds Tryd.pinned (OpenSpec.ofChange evaluateWitnessSpec)

/-- ITS FALSE NEIGHBOUR: 'it returns false'. Refute it at one input. -/
def evaluateWitnessWrong : ChangeSpec := { name := "evaluateWitness", fn := fun _ => fun
  | [d1, d2, d3, d4] => { results := [.lit (.bool false)], args := [d1, d2, d3, d4] }
  | _ => none }
def EvaluateWitnessWrongFalsely : Prop := evaluateWitnessRow.holds Tryd.pinned (OpenSpec.ofChange evaluateWitnessWrong)

/-- 'pentaglotlaw26.EvaluateIgnores': WHATEVER THE INPUT: true; the input reads as it did. -/
def evaluateIgnoresSpec : ChangeSpec := { name := "evaluateIgnores", fn := fun _ => fun
  | [d1, d2, d3] => { results := [.lit (.bool true)], args := [d1, d2, d3] }
  | _ => none }
def evaluateIgnoresRow : OpenClaim := { program := "ytolpckflofjfhaadoor", sum := "08a91cca11b4bf9e4744eb3843e0da634dde97353c388ee6b893dcbf6516bfbe", func := "pentaglot/pentaglotlaw26.EvaluateIgnores", spec := "evaluateIgnores", unfollowed := true, recurses := true, named := ["internal/strconv.uint64pow10", "math/bits.deBruijn32tab", "math/bits.deBruijn64tab"], loops := true, plainKeys := false, apart := false, laid := [("math/bits.deBruijn32tab", laid_math_bits_deBruijn32tab), ("math/bits.deBruijn64tab", laid_math_bits_deBruijn64tab), ("internal/strconv.uint64pow10", laid_internal_strconv_uint64pow10)] }
def EvaluateIgnoresSaid : Prop := evaluateIgnoresRow.holds Tryd.pinned (OpenSpec.ofChange evaluateIgnoresSpec)

/-- ITS FALSE NEIGHBOUR: 'it returns false'. Refute it at one input. -/
def evaluateIgnoresWrong : ChangeSpec := { name := "evaluateIgnores", fn := fun _ => fun
  | [d1, d2, d3] => { results := [.lit (.bool false)], args := [d1, d2, d3] }
  | _ => none }
def EvaluateIgnoresWrongFalsely : Prop := evaluateIgnoresRow.holds Tryd.pinned (OpenSpec.ofChange evaluateIgnoresWrong)

/-- 'pentaglotlaw26.EvaluateLists': WHATEVER THE INPUT: true; the input reads as it did. -/
def evaluateListsSpec : ChangeSpec := { name := "evaluateLists", fn := fun _ => fun
  | [d1, d2] => { results := [.lit (.bool true)], args := [d1, d2] }
  | _ => none }
def evaluateListsRow : OpenClaim := { program := "ytolpckflofjfhaadoor", sum := "08a91cca11b4bf9e4744eb3843e0da634dde97353c388ee6b893dcbf6516bfbe", func := "pentaglot/pentaglotlaw26.EvaluateLists", spec := "evaluateLists", unfollowed := true, recurses := true, named := ["internal/strconv.uint64pow10", "math/bits.deBruijn32tab", "math/bits.deBruijn64tab"], loops := true, plainKeys := false, apart := false, laid := [("math/bits.deBruijn32tab", laid_math_bits_deBruijn32tab), ("math/bits.deBruijn64tab", laid_math_bits_deBruijn64tab), ("internal/strconv.uint64pow10", laid_internal_strconv_uint64pow10)] }
def EvaluateListsSaid : Prop := evaluateListsRow.holds Tryd.pinned (OpenSpec.ofChange evaluateListsSpec)

/-- ITS FALSE NEIGHBOUR: 'it returns false'. Refute it at one input. -/
def evaluateListsWrong : ChangeSpec := { name := "evaluateLists", fn := fun _ => fun
  | [d1, d2] => { results := [.lit (.bool false)], args := [d1, d2] }
  | _ => none }
def EvaluateListsWrongFalsely : Prop := evaluateListsRow.holds Tryd.pinned (OpenSpec.ofChange evaluateListsWrong)

/- THE SECOND FORM. 'bulk': how many values and letters a reading holds, each counted each time it is reached (what is shared counts as often as it is met; a slice's spare places count too). A statement '..UptoSaid' is the law's where the arguments, and the package variables that the reading takes, are together of bulk at most 1048576: NARROWER than '..Said'. Prove '..Said' where nothing that the law and all that it calls make is longer than what came in: it says more and counts as full. Else prove '..UptoSaid'. A law counts once. -/
mutual
def uptoBulk {H : Type} : DataW H → Nat
  | .lit (.string bytes) => bytes.length + 1
  | .lit _ => 1
  | .nil => 1
  | .ptr d => uptoBulk d + 1
  | .slice elems spare => uptoBulkAll elems + uptoBulkAll spare + 1
  | .agg parts => uptoBulkAll parts + 1
  | .iface _ d => uptoBulk d + 1
  | .map entries => uptoBulkEntries entries + 1
  | .held _ => 1
def uptoBulkAll {H : Type} : List (DataW H) → Nat
  | [] => 0
  | d :: r => uptoBulk d + uptoBulkAll r
def uptoBulkEntries {H : Type} : List (Lit × DataW H) → Nat
  | [] => 0
  | x :: r => uptoBulkEntry x + uptoBulkEntries r
def uptoBulkEntry {H : Type} : Lit × DataW H → Nat
  | (.string bytes, d) => bytes.length + uptoBulk d + 1
  | (_, d) => uptoBulk d + 1
 end
def uptoSmall : (H : Type) → List (DataW H) → Bool := fun _ ds => decide (uptoBulkAll ds ≤ 1048576)
def OpenSpec.upto (s : _root_.Go.ChangeSpec) : _root_.Go.OpenSpec := { _root_.Go.OpenSpec.ofChange s with cond := some uptoSmall }

/-- 'pentaglotlaw26.EvaluateAt', WHERE WHAT IT READS IS OF BULK AT MOST 1048576: true; the input reads as it did. -/
def evaluateAtUptoRow : OpenClaim := { program := "ytolpckflofjfhaadoor", sum := "08a91cca11b4bf9e4744eb3843e0da634dde97353c388ee6b893dcbf6516bfbe", func := "pentaglot/pentaglotlaw26.EvaluateAt", spec := "evaluateAt", unfollowed := true, recurses := true, named := ["internal/strconv.uint64pow10", "math/bits.deBruijn32tab", "math/bits.deBruijn64tab"], loops := true, plainKeys := false, apart := false, laid := [("math/bits.deBruijn32tab", laid_math_bits_deBruijn32tab), ("math/bits.deBruijn64tab", laid_math_bits_deBruijn64tab), ("internal/strconv.uint64pow10", laid_internal_strconv_uint64pow10)], narrowed := true }
def EvaluateAtUptoSaid : Prop := evaluateAtUptoRow.holds Tryd.pinned (OpenSpec.upto evaluateAtSpec)

/-- 'pentaglotlaw26.EvaluateTrue', WHERE WHAT IT READS IS OF BULK AT MOST 1048576: true; the input reads as it did. -/
def evaluateTrueUptoRow : OpenClaim := { program := "ytolpckflofjfhaadoor", sum := "08a91cca11b4bf9e4744eb3843e0da634dde97353c388ee6b893dcbf6516bfbe", func := "pentaglot/pentaglotlaw26.EvaluateTrue", spec := "evaluateTrue", unfollowed := true, recurses := true, named := ["internal/strconv.uint64pow10", "math/bits.deBruijn32tab", "math/bits.deBruijn64tab"], loops := true, plainKeys := false, apart := false, laid := [("math/bits.deBruijn32tab", laid_math_bits_deBruijn32tab), ("math/bits.deBruijn64tab", laid_math_bits_deBruijn64tab), ("internal/strconv.uint64pow10", laid_internal_strconv_uint64pow10)], narrowed := true }
def EvaluateTrueUptoSaid : Prop := evaluateTrueUptoRow.holds Tryd.pinned (OpenSpec.upto evaluateTrueSpec)

/-- 'pentaglotlaw26.EvaluateMoments', WHERE WHAT IT READS IS OF BULK AT MOST 1048576: true; the input reads as it did. -/
def evaluateMomentsUptoRow : OpenClaim := { program := "ytolpckflofjfhaadoor", sum := "08a91cca11b4bf9e4744eb3843e0da634dde97353c388ee6b893dcbf6516bfbe", func := "pentaglot/pentaglotlaw26.EvaluateMoments", spec := "evaluateMoments", unfollowed := true, recurses := true, named := ["internal/strconv.uint64pow10", "math/bits.deBruijn32tab", "math/bits.deBruijn64tab"], plainKeys := false, apart := false, laid := [("math/bits.deBruijn32tab", laid_math_bits_deBruijn32tab), ("math/bits.deBruijn64tab", laid_math_bits_deBruijn64tab), ("internal/strconv.uint64pow10", laid_internal_strconv_uint64pow10)], narrowed := true }
def EvaluateMomentsUptoSaid : Prop := evaluateMomentsUptoRow.holds Tryd.pinned (OpenSpec.upto evaluateMomentsSpec)

/-- 'pentaglotlaw26.EvaluateConnectives', WHERE WHAT IT READS IS OF BULK AT MOST 1048576: true; the input reads as it did. -/
def evaluateConnectivesUptoRow : OpenClaim := { program := "ytolpckflofjfhaadoor", sum := "08a91cca11b4bf9e4744eb3843e0da634dde97353c388ee6b893dcbf6516bfbe", func := "pentaglot/pentaglotlaw26.EvaluateConnectives", spec := "evaluateConnectives", unfollowed := true, recurses := true, named := ["internal/strconv.uint64pow10", "math/bits.deBruijn32tab", "math/bits.deBruijn64tab"], loops := true, plainKeys := false, apart := false, laid := [("math/bits.deBruijn32tab", laid_math_bits_deBruijn32tab), ("math/bits.deBruijn64tab", laid_math_bits_deBruijn64tab), ("internal/strconv.uint64pow10", laid_internal_strconv_uint64pow10)], narrowed := true }
def EvaluateConnectivesUptoSaid : Prop := evaluateConnectivesUptoRow.holds Tryd.pinned (OpenSpec.upto evaluateConnectivesSpec)

/-- 'pentaglotlaw26.EvaluateDuals', WHERE WHAT IT READS IS OF BULK AT MOST 1048576: true; the input reads as it did. -/
def evaluateDualsUptoRow : OpenClaim := { program := "ytolpckflofjfhaadoor", sum := "08a91cca11b4bf9e4744eb3843e0da634dde97353c388ee6b893dcbf6516bfbe", func := "pentaglot/pentaglotlaw26.EvaluateDuals", spec := "evaluateDuals", unfollowed := true, recurses := true, named := ["internal/strconv.uint64pow10", "math/bits.deBruijn32tab", "math/bits.deBruijn64tab"], loops := true, plainKeys := false, apart := false, laid := [("math/bits.deBruijn32tab", laid_math_bits_deBruijn32tab), ("math/bits.deBruijn64tab", laid_math_bits_deBruijn64tab), ("internal/strconv.uint64pow10", laid_internal_strconv_uint64pow10)], narrowed := true }
def EvaluateDualsUptoSaid : Prop := evaluateDualsUptoRow.holds Tryd.pinned (OpenSpec.upto evaluateDualsSpec)

/-- 'pentaglotlaw26.EvaluateIntervals', WHERE WHAT IT READS IS OF BULK AT MOST 1048576: true; the input reads as it did. -/
def evaluateIntervalsUptoRow : OpenClaim := { program := "ytolpckflofjfhaadoor", sum := "08a91cca11b4bf9e4744eb3843e0da634dde97353c388ee6b893dcbf6516bfbe", func := "pentaglot/pentaglotlaw26.EvaluateIntervals", spec := "evaluateIntervals", unfollowed := true, recurses := true, named := ["internal/strconv.uint64pow10", "math/bits.deBruijn32tab", "math/bits.deBruijn64tab"], loops := true, plainKeys := false, apart := false, laid := [("math/bits.deBruijn32tab", laid_math_bits_deBruijn32tab), ("math/bits.deBruijn64tab", laid_math_bits_deBruijn64tab), ("internal/strconv.uint64pow10", laid_internal_strconv_uint64pow10)], narrowed := true }
def EvaluateIntervalsUptoSaid : Prop := evaluateIntervalsUptoRow.holds Tryd.pinned (OpenSpec.upto evaluateIntervalsSpec)

/-- 'pentaglotlaw26.EvaluateWitness', WHERE WHAT IT READS IS OF BULK AT MOST 1048576: true; the input reads as it did. -/
def evaluateWitnessUptoRow : OpenClaim := { program := "ytolpckflofjfhaadoor", sum := "08a91cca11b4bf9e4744eb3843e0da634dde97353c388ee6b893dcbf6516bfbe", func := "pentaglot/pentaglotlaw26.EvaluateWitness", spec := "evaluateWitness", unfollowed := true, recurses := true, named := ["internal/strconv.uint64pow10", "math/bits.deBruijn32tab", "math/bits.deBruijn64tab"], loops := true, plainKeys := false, apart := false, laid := [("math/bits.deBruijn32tab", laid_math_bits_deBruijn32tab), ("math/bits.deBruijn64tab", laid_math_bits_deBruijn64tab), ("internal/strconv.uint64pow10", laid_internal_strconv_uint64pow10)], narrowed := true }
def EvaluateWitnessUptoSaid : Prop := evaluateWitnessUptoRow.holds Tryd.pinned (OpenSpec.upto evaluateWitnessSpec)

/-- 'pentaglotlaw26.EvaluateIgnores', WHERE WHAT IT READS IS OF BULK AT MOST 1048576: true; the input reads as it did. -/
def evaluateIgnoresUptoRow : OpenClaim := { program := "ytolpckflofjfhaadoor", sum := "08a91cca11b4bf9e4744eb3843e0da634dde97353c388ee6b893dcbf6516bfbe", func := "pentaglot/pentaglotlaw26.EvaluateIgnores", spec := "evaluateIgnores", unfollowed := true, recurses := true, named := ["internal/strconv.uint64pow10", "math/bits.deBruijn32tab", "math/bits.deBruijn64tab"], loops := true, plainKeys := false, apart := false, laid := [("math/bits.deBruijn32tab", laid_math_bits_deBruijn32tab), ("math/bits.deBruijn64tab", laid_math_bits_deBruijn64tab), ("internal/strconv.uint64pow10", laid_internal_strconv_uint64pow10)], narrowed := true }
def EvaluateIgnoresUptoSaid : Prop := evaluateIgnoresUptoRow.holds Tryd.pinned (OpenSpec.upto evaluateIgnoresSpec)

/-- 'pentaglotlaw26.EvaluateLists', WHERE WHAT IT READS IS OF BULK AT MOST 1048576: true; the input reads as it did. -/
def evaluateListsUptoRow : OpenClaim := { program := "ytolpckflofjfhaadoor", sum := "08a91cca11b4bf9e4744eb3843e0da634dde97353c388ee6b893dcbf6516bfbe", func := "pentaglot/pentaglotlaw26.EvaluateLists", spec := "evaluateLists", unfollowed := true, recurses := true, named := ["internal/strconv.uint64pow10", "math/bits.deBruijn32tab", "math/bits.deBruijn64tab"], loops := true, plainKeys := false, apart := false, laid := [("math/bits.deBruijn32tab", laid_math_bits_deBruijn32tab), ("math/bits.deBruijn64tab", laid_math_bits_deBruijn64tab), ("internal/strconv.uint64pow10", laid_internal_strconv_uint64pow10)], narrowed := true }
def EvaluateListsUptoSaid : Prop := evaluateListsUptoRow.holds Tryd.pinned (OpenSpec.upto evaluateListsSpec)

end Rows
end Go.Proofs.YtolpckflofjfhaaDoor
