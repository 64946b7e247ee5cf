/-
  No cell of these rows narrows 'for every input' (looked for: loops, veiled, ifaces, maps, wideKeys, modest, calm, conditions, laid).
  DERIVED. THE GIVEN ROWS OF THIS SEAT. 9 by the template 'for every input the law returns true; each argument reads behind the call as it read before'; 0 by the template 'total and deterministic' (their statements: YtnfdhfclibdbmaaTotals.lean).
  GIVEN WITH THE SEED: the statements are not yours to turn. If you find one false, say at which input.
  Laid BY PROGRAM, IN A SANDBOX (cutbox-rows.mjs): the forced cells as the released guide's own fill.sh prints them over the translation 827d550227c26f6d… (all of the seat's roots in one cut). By AI agents, Wed Nov 11 2026. No macro, syntax, notation, axiom, sorry.
-/
import Derived.Test.YtnfdhfclibdbmaaChecked
import GoSem.Claim
import GoSem.ClaimJoined
import GoSem.ClaimMapViews
import Derived.JoinedTies
import Derived.KernelRfl
namespace Go.Proofs.Ytnfdhfclibdbmaa
/- THE CELL 'sum', in the pinned program and in every row, IS THE sha256 OF THE DUMP (.gsa) THAT YtnfdhfclibdbmaaProg.lean LOADS. Nothing in Lean hashes anything: it is a label: what it is worth is what the hold of that sum in a sandbox is worth. -/
noncomputable def Try.pinned : Pinned := { name := "ytnfdhfclibdbmaa", sum := "827d550227c26f6ddde571d5b4909c1c93bec8663821a07a6b501005d1883037", checked := Try.checked }
namespace Rows
def none {H : Type} : Left H := { results := [], args := [] }

/-- 'pentaglotlaw02.FeatureUnify': WHATEVER THE INPUT: true; the input reads as it did. -/
def featureUnifySpec : ChangeSpec := { name := "featureUnify", fn := fun _ => fun
  | [d1, d2] => { results := [.lit (.bool true)], args := [d1, d2] }
  | _ => none }
def featureUnifyRow : OpenClaim := { program := "ytnfdhfclibdbmaa", sum := "827d550227c26f6ddde571d5b4909c1c93bec8663821a07a6b501005d1883037", func := "pentaglot/pentaglotlaw02.FeatureUnify", spec := "featureUnify", inPlace := ["internal/abi.NoEscape"], apart := false }
def FeatureUnifySaid : Prop := featureUnifyRow.holds Try.pinned (OpenSpec.ofChange featureUnifySpec)

/-- ITS FALSE NEIGHBOUR: 'it returns false'. Refute it at one input. -/
def featureUnifyWrong : ChangeSpec := { name := "featureUnify", fn := fun _ => fun
  | [d1, d2] => { results := [.lit (.bool false)], args := [d1, d2] }
  | _ => none }
def FeatureUnifyWrongFalsely : Prop := featureUnifyRow.holds Try.pinned (OpenSpec.ofChange featureUnifyWrong)

/-- 'pentaglotlaw02.FeatureSubsumes': WHATEVER THE INPUT: true; the input reads as it did. -/
def featureSubsumesSpec : ChangeSpec := { name := "featureSubsumes", fn := fun _ => fun
  | [d1, d2] => { results := [.lit (.bool true)], args := [d1, d2] }
  | _ => none }
def featureSubsumesRow : OpenClaim := { program := "ytnfdhfclibdbmaa", sum := "827d550227c26f6ddde571d5b4909c1c93bec8663821a07a6b501005d1883037", func := "pentaglot/pentaglotlaw02.FeatureSubsumes", spec := "featureSubsumes", inPlace := ["internal/abi.NoEscape"], apart := false }
def FeatureSubsumesSaid : Prop := featureSubsumesRow.holds Try.pinned (OpenSpec.ofChange featureSubsumesSpec)

/-- ITS FALSE NEIGHBOUR: 'it returns false'. Refute it at one input. -/
def featureSubsumesWrong : ChangeSpec := { name := "featureSubsumes", fn := fun _ => fun
  | [d1, d2] => { results := [.lit (.bool false)], args := [d1, d2] }
  | _ => none }
def FeatureSubsumesWrongFalsely : Prop := featureSubsumesRow.holds Try.pinned (OpenSpec.ofChange featureSubsumesWrong)

/-- 'pentaglotlaw02.FeatureAssociates': WHATEVER THE INPUT: true; the input reads as it did. -/
def featureAssociatesSpec : ChangeSpec := { name := "featureAssociates", fn := fun _ => fun
  | [d1, d2, d3] => { results := [.lit (.bool true)], args := [d1, d2, d3] }
  | _ => none }
def featureAssociatesRow : OpenClaim := { program := "ytnfdhfclibdbmaa", sum := "827d550227c26f6ddde571d5b4909c1c93bec8663821a07a6b501005d1883037", func := "pentaglot/pentaglotlaw02.FeatureAssociates", spec := "featureAssociates", inPlace := ["internal/abi.NoEscape"], apart := false }
def FeatureAssociatesSaid : Prop := featureAssociatesRow.holds Try.pinned (OpenSpec.ofChange featureAssociatesSpec)

/-- ITS FALSE NEIGHBOUR: 'it returns false'. Refute it at one input. -/
def featureAssociatesWrong : ChangeSpec := { name := "featureAssociates", fn := fun _ => fun
  | [d1, d2, d3] => { results := [.lit (.bool false)], args := [d1, d2, d3] }
  | _ => none }
def FeatureAssociatesWrongFalsely : Prop := featureAssociatesRow.holds Try.pinned (OpenSpec.ofChange featureAssociatesWrong)

/-- 'pentaglotlaw02.FeatureValid': WHATEVER THE INPUT: true; the input reads as it did. -/
def featureValidSpec : ChangeSpec := { name := "featureValid", fn := fun _ => fun
  | [d1, d2] => { results := [.lit (.bool true)], args := [d1, d2] }
  | _ => none }
def featureValidRow : OpenClaim := { program := "ytnfdhfclibdbmaa", sum := "827d550227c26f6ddde571d5b4909c1c93bec8663821a07a6b501005d1883037", func := "pentaglot/pentaglotlaw02.FeatureValid", spec := "featureValid", inPlace := ["internal/abi.NoEscape"], apart := false }
def FeatureValidSaid : Prop := featureValidRow.holds Try.pinned (OpenSpec.ofChange featureValidSpec)

/-- ITS FALSE NEIGHBOUR: 'it returns false'. Refute it at one input. -/
def featureValidWrong : ChangeSpec := { name := "featureValid", fn := fun _ => fun
  | [d1, d2] => { results := [.lit (.bool false)], args := [d1, d2] }
  | _ => none }
def FeatureValidWrongFalsely : Prop := featureValidRow.holds Try.pinned (OpenSpec.ofChange featureValidWrong)

/-- 'pentaglotlaw02.FeatureMeets': WHATEVER THE INPUT: true; the input reads as it did. -/
def featureMeetsSpec : ChangeSpec := { name := "featureMeets", fn := fun _ => fun
  | [d1, d2, d3] => { results := [.lit (.bool true)], args := [d1, d2, d3] }
  | _ => none }
def featureMeetsRow : OpenClaim := { program := "ytnfdhfclibdbmaa", sum := "827d550227c26f6ddde571d5b4909c1c93bec8663821a07a6b501005d1883037", func := "pentaglot/pentaglotlaw02.FeatureMeets", spec := "featureMeets", inPlace := ["internal/abi.NoEscape"], unfollowed := true, recurses := true, apart := false }
def FeatureMeetsSaid : Prop := featureMeetsRow.holds Try.pinned (OpenSpec.ofChange featureMeetsSpec)

/-- ITS FALSE NEIGHBOUR: 'it returns false'. Refute it at one input. -/
def featureMeetsWrong : ChangeSpec := { name := "featureMeets", fn := fun _ => fun
  | [d1, d2, d3] => { results := [.lit (.bool false)], args := [d1, d2, d3] }
  | _ => none }
def FeatureMeetsWrongFalsely : Prop := featureMeetsRow.holds Try.pinned (OpenSpec.ofChange featureMeetsWrong)

/-- 'pentaglotlaw02.FeatureProjects': WHATEVER THE INPUT: true; the input reads as it did. -/
def featureProjectsSpec : ChangeSpec := { name := "featureProjects", fn := fun _ => fun
  | [d1, d2] => { results := [.lit (.bool true)], args := [d1, d2] }
  | _ => none }
def featureProjectsRow : OpenClaim := { program := "ytnfdhfclibdbmaa", sum := "827d550227c26f6ddde571d5b4909c1c93bec8663821a07a6b501005d1883037", func := "pentaglot/pentaglotlaw02.FeatureProjects", spec := "featureProjects", inPlace := ["internal/abi.NoEscape"], unfollowed := true, recurses := true, apart := false }
def FeatureProjectsSaid : Prop := featureProjectsRow.holds Try.pinned (OpenSpec.ofChange featureProjectsSpec)

/-- ITS FALSE NEIGHBOUR: 'it returns false'. Refute it at one input. -/
def featureProjectsWrong : ChangeSpec := { name := "featureProjects", fn := fun _ => fun
  | [d1, d2] => { results := [.lit (.bool false)], args := [d1, d2] }
  | _ => none }
def FeatureProjectsWrongFalsely : Prop := featureProjectsRow.holds Try.pinned (OpenSpec.ofChange featureProjectsWrong)

/-- 'pentaglotlaw02.FeatureTables': WHATEVER THE INPUT: true; the input reads as it did. -/
def featureTablesSpec : ChangeSpec := { name := "featureTables", fn := fun _ => fun
  | [d1, d2] => { results := [.lit (.bool true)], args := [d1, d2] }
  | _ => none }
def featureTablesRow : OpenClaim := { program := "ytnfdhfclibdbmaa", sum := "827d550227c26f6ddde571d5b4909c1c93bec8663821a07a6b501005d1883037", func := "pentaglot/pentaglotlaw02.FeatureTables", spec := "featureTables", inPlace := ["internal/abi.NoEscape"], unfollowed := true, recurses := true, apart := false }
def FeatureTablesSaid : Prop := featureTablesRow.holds Try.pinned (OpenSpec.ofChange featureTablesSpec)

/-- ITS FALSE NEIGHBOUR: 'it returns false'. Refute it at one input. -/
def featureTablesWrong : ChangeSpec := { name := "featureTables", fn := fun _ => fun
  | [d1, d2] => { results := [.lit (.bool false)], args := [d1, d2] }
  | _ => none }
def FeatureTablesWrongFalsely : Prop := featureTablesRow.holds Try.pinned (OpenSpec.ofChange featureTablesWrong)

/-- 'pentaglotlaw02.FeatureCompares': WHATEVER THE INPUT: true; the input reads as it did. -/
def featureComparesSpec : ChangeSpec := { name := "featureCompares", fn := fun _ => fun
  | [d1, d2, d3] => { results := [.lit (.bool true)], args := [d1, d2, d3] }
  | _ => none }
def featureComparesRow : OpenClaim := { program := "ytnfdhfclibdbmaa", sum := "827d550227c26f6ddde571d5b4909c1c93bec8663821a07a6b501005d1883037", func := "pentaglot/pentaglotlaw02.FeatureCompares", spec := "featureCompares", inPlace := ["internal/abi.NoEscape"], unfollowed := true, recurses := true, apart := false }
def FeatureComparesSaid : Prop := featureComparesRow.holds Try.pinned (OpenSpec.ofChange featureComparesSpec)

/-- ITS FALSE NEIGHBOUR: 'it returns false'. Refute it at one input. -/
def featureComparesWrong : ChangeSpec := { name := "featureCompares", fn := fun _ => fun
  | [d1, d2, d3] => { results := [.lit (.bool false)], args := [d1, d2, d3] }
  | _ => none }
def FeatureComparesWrongFalsely : Prop := featureComparesRow.holds Try.pinned (OpenSpec.ofChange featureComparesWrong)

/-- 'pentaglotlaw02.FeatureAll': WHATEVER THE INPUT: true; the input reads as it did. -/
def featureAllSpec : ChangeSpec := { name := "featureAll", fn := fun _ => fun
  | [d1, d2] => { results := [.lit (.bool true)], args := [d1, d2] }
  | _ => none }
def featureAllRow : OpenClaim := { program := "ytnfdhfclibdbmaa", sum := "827d550227c26f6ddde571d5b4909c1c93bec8663821a07a6b501005d1883037", func := "pentaglot/pentaglotlaw02.FeatureAll", spec := "featureAll", inPlace := ["internal/abi.NoEscape"], unfollowed := true, recurses := true, apart := false }
def FeatureAllSaid : Prop := featureAllRow.holds Try.pinned (OpenSpec.ofChange featureAllSpec)

/-- ITS FALSE NEIGHBOUR: 'it returns false'. Refute it at one input. -/
def featureAllWrong : ChangeSpec := { name := "featureAll", fn := fun _ => fun
  | [d1, d2] => { results := [.lit (.bool false)], args := [d1, d2] }
  | _ => none }
def FeatureAllWrongFalsely : Prop := featureAllRow.holds Try.pinned (OpenSpec.ofChange featureAllWrong)

/- THE SECOND FORM. 'bulk': how many values and letters a reading holds, each counted each time it is reached (what is shared counts as often as it is met; a slice's spare places count too). A statement '..UptoSaid' is the law's where the arguments, and the package variables that the reading takes, are together of bulk at most 1048576: NARROWER than '..Said'. Prove '..Said' where nothing that the law and all that it calls make is longer than what came in: it says more and counts as full. Else prove '..UptoSaid'. A law counts once. -/
mutual
def uptoBulk {H : Type} : DataW H → Nat
  | .lit (.string bytes) => bytes.length + 1
  | .lit _ => 1
  | .nil => 1
  | .ptr d => uptoBulk d + 1
  | .slice elems spare => uptoBulkAll elems + uptoBulkAll spare + 1
  | .agg parts => uptoBulkAll parts + 1
  | .iface _ d => uptoBulk d + 1
  | .map entries => uptoBulkEntries entries + 1
  | .held _ => 1
def uptoBulkAll {H : Type} : List (DataW H) → Nat
  | [] => 0
  | d :: r => uptoBulk d + uptoBulkAll r
def uptoBulkEntries {H : Type} : List (Lit × DataW H) → Nat
  | [] => 0
  | x :: r => uptoBulkEntry x + uptoBulkEntries r
def uptoBulkEntry {H : Type} : Lit × DataW H → Nat
  | (.string bytes, d) => bytes.length + uptoBulk d + 1
  | (_, d) => uptoBulk d + 1
 end
def uptoSmall : (H : Type) → List (DataW H) → Bool := fun _ ds => decide (uptoBulkAll ds ≤ 1048576)
def OpenSpec.upto (s : _root_.Go.ChangeSpec) : _root_.Go.OpenSpec := { _root_.Go.OpenSpec.ofChange s with cond := some uptoSmall }

/-- 'pentaglotlaw02.FeatureUnify', WHERE WHAT IT READS IS OF BULK AT MOST 1048576: true; the input reads as it did. -/
def featureUnifyUptoRow : OpenClaim := { program := "ytnfdhfclibdbmaa", sum := "827d550227c26f6ddde571d5b4909c1c93bec8663821a07a6b501005d1883037", func := "pentaglot/pentaglotlaw02.FeatureUnify", spec := "featureUnify", inPlace := ["internal/abi.NoEscape"], apart := false, narrowed := true }
def FeatureUnifyUptoSaid : Prop := featureUnifyUptoRow.holds Try.pinned (OpenSpec.upto featureUnifySpec)

/-- 'pentaglotlaw02.FeatureSubsumes', WHERE WHAT IT READS IS OF BULK AT MOST 1048576: true; the input reads as it did. -/
def featureSubsumesUptoRow : OpenClaim := { program := "ytnfdhfclibdbmaa", sum := "827d550227c26f6ddde571d5b4909c1c93bec8663821a07a6b501005d1883037", func := "pentaglot/pentaglotlaw02.FeatureSubsumes", spec := "featureSubsumes", inPlace := ["internal/abi.NoEscape"], apart := false, narrowed := true }
def FeatureSubsumesUptoSaid : Prop := featureSubsumesUptoRow.holds Try.pinned (OpenSpec.upto featureSubsumesSpec)

/-- 'pentaglotlaw02.FeatureAssociates', WHERE WHAT IT READS IS OF BULK AT MOST 1048576: true; the input reads as it did. -/
def featureAssociatesUptoRow : OpenClaim := { program := "ytnfdhfclibdbmaa", sum := "827d550227c26f6ddde571d5b4909c1c93bec8663821a07a6b501005d1883037", func := "pentaglot/pentaglotlaw02.FeatureAssociates", spec := "featureAssociates", inPlace := ["internal/abi.NoEscape"], apart := false, narrowed := true }
def FeatureAssociatesUptoSaid : Prop := featureAssociatesUptoRow.holds Try.pinned (OpenSpec.upto featureAssociatesSpec)

/-- 'pentaglotlaw02.FeatureValid', WHERE WHAT IT READS IS OF BULK AT MOST 1048576: true; the input reads as it did. -/
def featureValidUptoRow : OpenClaim := { program := "ytnfdhfclibdbmaa", sum := "827d550227c26f6ddde571d5b4909c1c93bec8663821a07a6b501005d1883037", func := "pentaglot/pentaglotlaw02.FeatureValid", spec := "featureValid", inPlace := ["internal/abi.NoEscape"], apart := false, narrowed := true }
def FeatureValidUptoSaid : Prop := featureValidUptoRow.holds Try.pinned (OpenSpec.upto featureValidSpec)

/-- 'pentaglotlaw02.FeatureMeets', WHERE WHAT IT READS IS OF BULK AT MOST 1048576: true; the input reads as it did. -/
def featureMeetsUptoRow : OpenClaim := { program := "ytnfdhfclibdbmaa", sum := "827d550227c26f6ddde571d5b4909c1c93bec8663821a07a6b501005d1883037", func := "pentaglot/pentaglotlaw02.FeatureMeets", spec := "featureMeets", inPlace := ["internal/abi.NoEscape"], unfollowed := true, recurses := true, apart := false, narrowed := true }
def FeatureMeetsUptoSaid : Prop := featureMeetsUptoRow.holds Try.pinned (OpenSpec.upto featureMeetsSpec)

/-- 'pentaglotlaw02.FeatureProjects', WHERE WHAT IT READS IS OF BULK AT MOST 1048576: true; the input reads as it did. -/
def featureProjectsUptoRow : OpenClaim := { program := "ytnfdhfclibdbmaa", sum := "827d550227c26f6ddde571d5b4909c1c93bec8663821a07a6b501005d1883037", func := "pentaglot/pentaglotlaw02.FeatureProjects", spec := "featureProjects", inPlace := ["internal/abi.NoEscape"], unfollowed := true, recurses := true, apart := false, narrowed := true }
def FeatureProjectsUptoSaid : Prop := featureProjectsUptoRow.holds Try.pinned (OpenSpec.upto featureProjectsSpec)

/-- 'pentaglotlaw02.FeatureTables', WHERE WHAT IT READS IS OF BULK AT MOST 1048576: true; the input reads as it did. -/
def featureTablesUptoRow : OpenClaim := { program := "ytnfdhfclibdbmaa", sum := "827d550227c26f6ddde571d5b4909c1c93bec8663821a07a6b501005d1883037", func := "pentaglot/pentaglotlaw02.FeatureTables", spec := "featureTables", inPlace := ["internal/abi.NoEscape"], unfollowed := true, recurses := true, apart := false, narrowed := true }
def FeatureTablesUptoSaid : Prop := featureTablesUptoRow.holds Try.pinned (OpenSpec.upto featureTablesSpec)

/-- 'pentaglotlaw02.FeatureCompares', WHERE WHAT IT READS IS OF BULK AT MOST 1048576: true; the input reads as it did. -/
def featureComparesUptoRow : OpenClaim := { program := "ytnfdhfclibdbmaa", sum := "827d550227c26f6ddde571d5b4909c1c93bec8663821a07a6b501005d1883037", func := "pentaglot/pentaglotlaw02.FeatureCompares", spec := "featureCompares", inPlace := ["internal/abi.NoEscape"], unfollowed := true, recurses := true, apart := false, narrowed := true }
def FeatureComparesUptoSaid : Prop := featureComparesUptoRow.holds Try.pinned (OpenSpec.upto featureComparesSpec)

/-- 'pentaglotlaw02.FeatureAll', WHERE WHAT IT READS IS OF BULK AT MOST 1048576: true; the input reads as it did. -/
def featureAllUptoRow : OpenClaim := { program := "ytnfdhfclibdbmaa", sum := "827d550227c26f6ddde571d5b4909c1c93bec8663821a07a6b501005d1883037", func := "pentaglot/pentaglotlaw02.FeatureAll", spec := "featureAll", inPlace := ["internal/abi.NoEscape"], unfollowed := true, recurses := true, apart := false, narrowed := true }
def FeatureAllUptoSaid : Prop := featureAllUptoRow.holds Try.pinned (OpenSpec.upto featureAllSpec)

end Rows
end Go.Proofs.Ytnfdhfclibdbmaa
