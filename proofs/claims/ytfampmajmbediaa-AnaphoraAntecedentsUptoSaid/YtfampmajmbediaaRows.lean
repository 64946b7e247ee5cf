/-
  NARROWER THAN 'FOR EVERY INPUT', by the rows' own cells (each row's printed sentence says how): AnaphoraAntecedents: loops · AnaphoraResolves: loops · AnaphoraSettles: loops · AnaphoraIntroduces: loops · AnaphoraKeeps: loops · AnaphoraCounts: loops · AnaphoraPrefixes: loops · AnaphoraExpands: loops · AnaphoraStands: loops.
  DERIVED. THE GIVEN ROWS OF THIS SEAT. 9 by the template 'for every input the law returns true; each argument reads behind the call as it read before'; 0 by the template 'total and deterministic' (their statements: YtfampmajmbediaaTotals.lean).
  GIVEN WITH THE SEED: the statements are not yours to turn. If you find one false, say at which input.
  Laid BY PROGRAM, IN A SANDBOX (cutbox-rows.mjs): the forced cells as the released guide's own fill.sh prints them over the translation 4657d9fdf52fb2ce… (all of the seat's roots in one cut). By AI agents, Wed Nov 11 2026. No macro, syntax, notation, axiom, sorry.
-/
import Derived.Test.YtfampmajmbediaaChecked
import GoSem.Claim
import GoSem.ClaimJoined
import GoSem.ClaimMapViews
import Derived.JoinedTies
import Derived.KernelRfl
namespace Go.Proofs.Ytfampmajmbediaa
/- THE CELL 'sum', in the pinned program and in every row, IS THE sha256 OF THE DUMP (.gsa) THAT YtfampmajmbediaaProg.lean LOADS. Nothing in Lean hashes anything: it is a label: what it is worth is what the hold of that sum in a sandbox is worth. -/
noncomputable def Try.pinned : Pinned := { name := "ytfampmajmbediaa", sum := "4657d9fdf52fb2ce9ab4a94228d30e0690b8f85ce57851af54f8ec5a3783e616", checked := Try.checked }
namespace Rows
def none {H : Type} : Left H := { results := [], args := [] }

/-- 'pentaglotlaw46.AnaphoraAntecedents': WHATEVER THE INPUT: true; the input reads as it did. -/
def anaphoraAntecedentsSpec : ChangeSpec := { name := "anaphoraAntecedents", fn := fun _ => fun
  | [d1, d2] => { results := [.lit (.bool true)], args := [d1, d2] }
  | _ => none }
def anaphoraAntecedentsRow : OpenClaim := { program := "ytfampmajmbediaa", sum := "4657d9fdf52fb2ce9ab4a94228d30e0690b8f85ce57851af54f8ec5a3783e616", func := "pentaglot/pentaglotlaw46.AnaphoraAntecedents", spec := "anaphoraAntecedents", unfollowed := true, recurses := true, loops := true, apart := false }
def AnaphoraAntecedentsSaid : Prop := anaphoraAntecedentsRow.holds Try.pinned (OpenSpec.ofChange anaphoraAntecedentsSpec)

/-- ITS FALSE NEIGHBOUR: 'it returns false'. Refute it at one input. -/
def anaphoraAntecedentsWrong : ChangeSpec := { name := "anaphoraAntecedents", fn := fun _ => fun
  | [d1, d2] => { results := [.lit (.bool false)], args := [d1, d2] }
  | _ => none }
def AnaphoraAntecedentsWrongFalsely : Prop := anaphoraAntecedentsRow.holds Try.pinned (OpenSpec.ofChange anaphoraAntecedentsWrong)

/-- 'pentaglotlaw46.AnaphoraResolves': WHATEVER THE INPUT: true; the input reads as it did. -/
def anaphoraResolvesSpec : ChangeSpec := { name := "anaphoraResolves", fn := fun _ => fun
  | [d] => { results := [.lit (.bool true)], args := [d] }
  | _ => none }
def anaphoraResolvesRow : OpenClaim := { program := "ytfampmajmbediaa", sum := "4657d9fdf52fb2ce9ab4a94228d30e0690b8f85ce57851af54f8ec5a3783e616", func := "pentaglot/pentaglotlaw46.AnaphoraResolves", spec := "anaphoraResolves", unfollowed := true, recurses := true, loops := true, apart := false }
def AnaphoraResolvesSaid : Prop := anaphoraResolvesRow.holds Try.pinned (OpenSpec.ofChange anaphoraResolvesSpec)

/-- ITS FALSE NEIGHBOUR: 'it returns false'. Refute it at one input. -/
def anaphoraResolvesWrong : ChangeSpec := { name := "anaphoraResolves", fn := fun _ => fun
  | [d] => { results := [.lit (.bool false)], args := [d] }
  | _ => none }
def AnaphoraResolvesWrongFalsely : Prop := anaphoraResolvesRow.holds Try.pinned (OpenSpec.ofChange anaphoraResolvesWrong)

/-- 'pentaglotlaw46.AnaphoraSettles': WHATEVER THE INPUT: true; the input reads as it did. -/
def anaphoraSettlesSpec : ChangeSpec := { name := "anaphoraSettles", fn := fun _ => fun
  | [d] => { results := [.lit (.bool true)], args := [d] }
  | _ => none }
def anaphoraSettlesRow : OpenClaim := { program := "ytfampmajmbediaa", sum := "4657d9fdf52fb2ce9ab4a94228d30e0690b8f85ce57851af54f8ec5a3783e616", func := "pentaglot/pentaglotlaw46.AnaphoraSettles", spec := "anaphoraSettles", unfollowed := true, recurses := true, loops := true, apart := false }
def AnaphoraSettlesSaid : Prop := anaphoraSettlesRow.holds Try.pinned (OpenSpec.ofChange anaphoraSettlesSpec)

/-- ITS FALSE NEIGHBOUR: 'it returns false'. Refute it at one input. -/
def anaphoraSettlesWrong : ChangeSpec := { name := "anaphoraSettles", fn := fun _ => fun
  | [d] => { results := [.lit (.bool false)], args := [d] }
  | _ => none }
def AnaphoraSettlesWrongFalsely : Prop := anaphoraSettlesRow.holds Try.pinned (OpenSpec.ofChange anaphoraSettlesWrong)

/-- 'pentaglotlaw46.AnaphoraIntroduces': WHATEVER THE INPUT: true; the input reads as it did. -/
def anaphoraIntroducesSpec : ChangeSpec := { name := "anaphoraIntroduces", fn := fun _ => fun
  | [d] => { results := [.lit (.bool true)], args := [d] }
  | _ => none }
def anaphoraIntroducesRow : OpenClaim := { program := "ytfampmajmbediaa", sum := "4657d9fdf52fb2ce9ab4a94228d30e0690b8f85ce57851af54f8ec5a3783e616", func := "pentaglot/pentaglotlaw46.AnaphoraIntroduces", spec := "anaphoraIntroduces", unfollowed := true, recurses := true, loops := true, apart := false }
def AnaphoraIntroducesSaid : Prop := anaphoraIntroducesRow.holds Try.pinned (OpenSpec.ofChange anaphoraIntroducesSpec)

/-- ITS FALSE NEIGHBOUR: 'it returns false'. Refute it at one input. -/
def anaphoraIntroducesWrong : ChangeSpec := { name := "anaphoraIntroduces", fn := fun _ => fun
  | [d] => { results := [.lit (.bool false)], args := [d] }
  | _ => none }
def AnaphoraIntroducesWrongFalsely : Prop := anaphoraIntroducesRow.holds Try.pinned (OpenSpec.ofChange anaphoraIntroducesWrong)

/-- 'pentaglotlaw46.AnaphoraKeeps': WHATEVER THE INPUT: true; the input reads as it did. -/
def anaphoraKeepsSpec : ChangeSpec := { name := "anaphoraKeeps", fn := fun _ => fun
  | [d] => { results := [.lit (.bool true)], args := [d] }
  | _ => none }
def anaphoraKeepsRow : OpenClaim := { program := "ytfampmajmbediaa", sum := "4657d9fdf52fb2ce9ab4a94228d30e0690b8f85ce57851af54f8ec5a3783e616", func := "pentaglot/pentaglotlaw46.AnaphoraKeeps", spec := "anaphoraKeeps", unfollowed := true, recurses := true, loops := true, apart := false }
def AnaphoraKeepsSaid : Prop := anaphoraKeepsRow.holds Try.pinned (OpenSpec.ofChange anaphoraKeepsSpec)

/-- ITS FALSE NEIGHBOUR: 'it returns false'. Refute it at one input. -/
def anaphoraKeepsWrong : ChangeSpec := { name := "anaphoraKeeps", fn := fun _ => fun
  | [d] => { results := [.lit (.bool false)], args := [d] }
  | _ => none }
def AnaphoraKeepsWrongFalsely : Prop := anaphoraKeepsRow.holds Try.pinned (OpenSpec.ofChange anaphoraKeepsWrong)

/-- 'pentaglotlaw46.AnaphoraCounts': WHATEVER THE INPUT: true; the input reads as it did. -/
def anaphoraCountsSpec : ChangeSpec := { name := "anaphoraCounts", fn := fun _ => fun
  | [d] => { results := [.lit (.bool true)], args := [d] }
  | _ => none }
def anaphoraCountsRow : OpenClaim := { program := "ytfampmajmbediaa", sum := "4657d9fdf52fb2ce9ab4a94228d30e0690b8f85ce57851af54f8ec5a3783e616", func := "pentaglot/pentaglotlaw46.AnaphoraCounts", spec := "anaphoraCounts", unfollowed := true, recurses := true, loops := true, apart := false }
def AnaphoraCountsSaid : Prop := anaphoraCountsRow.holds Try.pinned (OpenSpec.ofChange anaphoraCountsSpec)

/-- ITS FALSE NEIGHBOUR: 'it returns false'. Refute it at one input. -/
def anaphoraCountsWrong : ChangeSpec := { name := "anaphoraCounts", fn := fun _ => fun
  | [d] => { results := [.lit (.bool false)], args := [d] }
  | _ => none }
def AnaphoraCountsWrongFalsely : Prop := anaphoraCountsRow.holds Try.pinned (OpenSpec.ofChange anaphoraCountsWrong)

/-- 'pentaglotlaw46.AnaphoraPrefixes': WHATEVER THE INPUT: true; the input reads as it did. -/
def anaphoraPrefixesSpec : ChangeSpec := { name := "anaphoraPrefixes", fn := fun _ => fun
  | [d1, d2] => { results := [.lit (.bool true)], args := [d1, d2] }
  | _ => none }
def anaphoraPrefixesRow : OpenClaim := { program := "ytfampmajmbediaa", sum := "4657d9fdf52fb2ce9ab4a94228d30e0690b8f85ce57851af54f8ec5a3783e616", func := "pentaglot/pentaglotlaw46.AnaphoraPrefixes", spec := "anaphoraPrefixes", unfollowed := true, recurses := true, loops := true, apart := false }
def AnaphoraPrefixesSaid : Prop := anaphoraPrefixesRow.holds Try.pinned (OpenSpec.ofChange anaphoraPrefixesSpec)

/-- ITS FALSE NEIGHBOUR: 'it returns false'. Refute it at one input. -/
def anaphoraPrefixesWrong : ChangeSpec := { name := "anaphoraPrefixes", fn := fun _ => fun
  | [d1, d2] => { results := [.lit (.bool false)], args := [d1, d2] }
  | _ => none }
def AnaphoraPrefixesWrongFalsely : Prop := anaphoraPrefixesRow.holds Try.pinned (OpenSpec.ofChange anaphoraPrefixesWrong)

/-- 'pentaglotlaw46.AnaphoraExpands': WHATEVER THE INPUT: true; the input reads as it did. -/
def anaphoraExpandsSpec : ChangeSpec := { name := "anaphoraExpands", fn := fun _ => fun
  | [d] => { results := [.lit (.bool true)], args := [d] }
  | _ => none }
def anaphoraExpandsRow : OpenClaim := { program := "ytfampmajmbediaa", sum := "4657d9fdf52fb2ce9ab4a94228d30e0690b8f85ce57851af54f8ec5a3783e616", func := "pentaglot/pentaglotlaw46.AnaphoraExpands", spec := "anaphoraExpands", unfollowed := true, recurses := true, loops := true, apart := false }
def AnaphoraExpandsSaid : Prop := anaphoraExpandsRow.holds Try.pinned (OpenSpec.ofChange anaphoraExpandsSpec)

/-- ITS FALSE NEIGHBOUR: 'it returns false'. Refute it at one input. -/
def anaphoraExpandsWrong : ChangeSpec := { name := "anaphoraExpands", fn := fun _ => fun
  | [d] => { results := [.lit (.bool false)], args := [d] }
  | _ => none }
def AnaphoraExpandsWrongFalsely : Prop := anaphoraExpandsRow.holds Try.pinned (OpenSpec.ofChange anaphoraExpandsWrong)

/-- 'pentaglotlaw46.AnaphoraStands': WHATEVER THE INPUT: true; the input reads as it did. -/
def anaphoraStandsSpec : ChangeSpec := { name := "anaphoraStands", fn := fun _ => fun
  | [d1, d2] => { results := [.lit (.bool true)], args := [d1, d2] }
  | _ => none }
def anaphoraStandsRow : OpenClaim := { program := "ytfampmajmbediaa", sum := "4657d9fdf52fb2ce9ab4a94228d30e0690b8f85ce57851af54f8ec5a3783e616", func := "pentaglot/pentaglotlaw46.AnaphoraStands", spec := "anaphoraStands", unfollowed := true, recurses := true, loops := true, apart := false }
def AnaphoraStandsSaid : Prop := anaphoraStandsRow.holds Try.pinned (OpenSpec.ofChange anaphoraStandsSpec)

/-- ITS FALSE NEIGHBOUR: 'it returns false'. Refute it at one input. -/
def anaphoraStandsWrong : ChangeSpec := { name := "anaphoraStands", fn := fun _ => fun
  | [d1, d2] => { results := [.lit (.bool false)], args := [d1, d2] }
  | _ => none }
def AnaphoraStandsWrongFalsely : Prop := anaphoraStandsRow.holds Try.pinned (OpenSpec.ofChange anaphoraStandsWrong)

/- THE SECOND FORM. 'bulk': how many values and letters a reading holds, each counted each time it is reached (what is shared counts as often as it is met; a slice's spare places count too). A statement '..UptoSaid' is the law's where the arguments, and the package variables that the reading takes, are together of bulk at most 1048576: NARROWER than '..Said'. Prove '..Said' where nothing that the law and all that it calls make is longer than what came in: it says more and counts as full. Else prove '..UptoSaid'. A law counts once. -/
mutual
def uptoBulk {H : Type} : DataW H → Nat
  | .lit (.string bytes) => bytes.length + 1
  | .lit _ => 1
  | .nil => 1
  | .ptr d => uptoBulk d + 1
  | .slice elems spare => uptoBulkAll elems + uptoBulkAll spare + 1
  | .agg parts => uptoBulkAll parts + 1
  | .iface _ d => uptoBulk d + 1
  | .map entries => uptoBulkEntries entries + 1
  | .held _ => 1
def uptoBulkAll {H : Type} : List (DataW H) → Nat
  | [] => 0
  | d :: r => uptoBulk d + uptoBulkAll r
def uptoBulkEntries {H : Type} : List (Lit × DataW H) → Nat
  | [] => 0
  | x :: r => uptoBulkEntry x + uptoBulkEntries r
def uptoBulkEntry {H : Type} : Lit × DataW H → Nat
  | (.string bytes, d) => bytes.length + uptoBulk d + 1
  | (_, d) => uptoBulk d + 1
 end
def uptoSmall : (H : Type) → List (DataW H) → Bool := fun _ ds => decide (uptoBulkAll ds ≤ 1048576)
def OpenSpec.upto (s : _root_.Go.ChangeSpec) : _root_.Go.OpenSpec := { _root_.Go.OpenSpec.ofChange s with cond := some uptoSmall }

/-- 'pentaglotlaw46.AnaphoraAntecedents', WHERE WHAT IT READS IS OF BULK AT MOST 1048576: true; the input reads as it did. -/
def anaphoraAntecedentsUptoRow : OpenClaim := { program := "ytfampmajmbediaa", sum := "4657d9fdf52fb2ce9ab4a94228d30e0690b8f85ce57851af54f8ec5a3783e616", func := "pentaglot/pentaglotlaw46.AnaphoraAntecedents", spec := "anaphoraAntecedents", unfollowed := true, recurses := true, loops := true, apart := false, narrowed := true }
def AnaphoraAntecedentsUptoSaid : Prop := anaphoraAntecedentsUptoRow.holds Try.pinned (OpenSpec.upto anaphoraAntecedentsSpec)

/-- 'pentaglotlaw46.AnaphoraResolves', WHERE WHAT IT READS IS OF BULK AT MOST 1048576: true; the input reads as it did. -/
def anaphoraResolvesUptoRow : OpenClaim := { program := "ytfampmajmbediaa", sum := "4657d9fdf52fb2ce9ab4a94228d30e0690b8f85ce57851af54f8ec5a3783e616", func := "pentaglot/pentaglotlaw46.AnaphoraResolves", spec := "anaphoraResolves", unfollowed := true, recurses := true, loops := true, apart := false, narrowed := true }
def AnaphoraResolvesUptoSaid : Prop := anaphoraResolvesUptoRow.holds Try.pinned (OpenSpec.upto anaphoraResolvesSpec)

/-- 'pentaglotlaw46.AnaphoraSettles', WHERE WHAT IT READS IS OF BULK AT MOST 1048576: true; the input reads as it did. -/
def anaphoraSettlesUptoRow : OpenClaim := { program := "ytfampmajmbediaa", sum := "4657d9fdf52fb2ce9ab4a94228d30e0690b8f85ce57851af54f8ec5a3783e616", func := "pentaglot/pentaglotlaw46.AnaphoraSettles", spec := "anaphoraSettles", unfollowed := true, recurses := true, loops := true, apart := false, narrowed := true }
def AnaphoraSettlesUptoSaid : Prop := anaphoraSettlesUptoRow.holds Try.pinned (OpenSpec.upto anaphoraSettlesSpec)

/-- 'pentaglotlaw46.AnaphoraIntroduces', WHERE WHAT IT READS IS OF BULK AT MOST 1048576: true; the input reads as it did. -/
def anaphoraIntroducesUptoRow : OpenClaim := { program := "ytfampmajmbediaa", sum := "4657d9fdf52fb2ce9ab4a94228d30e0690b8f85ce57851af54f8ec5a3783e616", func := "pentaglot/pentaglotlaw46.AnaphoraIntroduces", spec := "anaphoraIntroduces", unfollowed := true, recurses := true, loops := true, apart := false, narrowed := true }
def AnaphoraIntroducesUptoSaid : Prop := anaphoraIntroducesUptoRow.holds Try.pinned (OpenSpec.upto anaphoraIntroducesSpec)

/-- 'pentaglotlaw46.AnaphoraKeeps', WHERE WHAT IT READS IS OF BULK AT MOST 1048576: true; the input reads as it did. -/
def anaphoraKeepsUptoRow : OpenClaim := { program := "ytfampmajmbediaa", sum := "4657d9fdf52fb2ce9ab4a94228d30e0690b8f85ce57851af54f8ec5a3783e616", func := "pentaglot/pentaglotlaw46.AnaphoraKeeps", spec := "anaphoraKeeps", unfollowed := true, recurses := true, loops := true, apart := false, narrowed := true }
def AnaphoraKeepsUptoSaid : Prop := anaphoraKeepsUptoRow.holds Try.pinned (OpenSpec.upto anaphoraKeepsSpec)

/-- 'pentaglotlaw46.AnaphoraCounts', WHERE WHAT IT READS IS OF BULK AT MOST 1048576: true; the input reads as it did. -/
def anaphoraCountsUptoRow : OpenClaim := { program := "ytfampmajmbediaa", sum := "4657d9fdf52fb2ce9ab4a94228d30e0690b8f85ce57851af54f8ec5a3783e616", func := "pentaglot/pentaglotlaw46.AnaphoraCounts", spec := "anaphoraCounts", unfollowed := true, recurses := true, loops := true, apart := false, narrowed := true }
def AnaphoraCountsUptoSaid : Prop := anaphoraCountsUptoRow.holds Try.pinned (OpenSpec.upto anaphoraCountsSpec)

/-- 'pentaglotlaw46.AnaphoraPrefixes', WHERE WHAT IT READS IS OF BULK AT MOST 1048576: true; the input reads as it did. -/
def anaphoraPrefixesUptoRow : OpenClaim := { program := "ytfampmajmbediaa", sum := "4657d9fdf52fb2ce9ab4a94228d30e0690b8f85ce57851af54f8ec5a3783e616", func := "pentaglot/pentaglotlaw46.AnaphoraPrefixes", spec := "anaphoraPrefixes", unfollowed := true, recurses := true, loops := true, apart := false, narrowed := true }
def AnaphoraPrefixesUptoSaid : Prop := anaphoraPrefixesUptoRow.holds Try.pinned (OpenSpec.upto anaphoraPrefixesSpec)

/-- 'pentaglotlaw46.AnaphoraExpands', WHERE WHAT IT READS IS OF BULK AT MOST 1048576: true; the input reads as it did. -/
def anaphoraExpandsUptoRow : OpenClaim := { program := "ytfampmajmbediaa", sum := "4657d9fdf52fb2ce9ab4a94228d30e0690b8f85ce57851af54f8ec5a3783e616", func := "pentaglot/pentaglotlaw46.AnaphoraExpands", spec := "anaphoraExpands", unfollowed := true, recurses := true, loops := true, apart := false, narrowed := true }
def AnaphoraExpandsUptoSaid : Prop := anaphoraExpandsUptoRow.holds Try.pinned (OpenSpec.upto anaphoraExpandsSpec)

/-- 'pentaglotlaw46.AnaphoraStands', WHERE WHAT IT READS IS OF BULK AT MOST 1048576: true; the input reads as it did. -/
def anaphoraStandsUptoRow : OpenClaim := { program := "ytfampmajmbediaa", sum := "4657d9fdf52fb2ce9ab4a94228d30e0690b8f85ce57851af54f8ec5a3783e616", func := "pentaglot/pentaglotlaw46.AnaphoraStands", spec := "anaphoraStands", unfollowed := true, recurses := true, loops := true, apart := false, narrowed := true }
def AnaphoraStandsUptoSaid : Prop := anaphoraStandsUptoRow.holds Try.pinned (OpenSpec.upto anaphoraStandsSpec)

end Rows
end Go.Proofs.Ytfampmajmbediaa
