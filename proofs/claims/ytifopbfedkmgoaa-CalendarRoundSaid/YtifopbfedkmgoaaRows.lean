/-
  No cell of these rows narrows 'for every input' (looked for: loops, veiled, ifaces, maps, wideKeys, modest, calm, conditions, laid).
  DERIVED. THE GIVEN ROWS OF THIS SEAT. 14 by the template 'for every input the law returns true; each argument reads behind the call as it read before'; 0 by the template 'total and deterministic' (their statements: YtifopbfedkmgoaaTotals.lean).
  GIVEN WITH THE SEED: the statements are not yours to turn. If you find one false, say at which input.
  Laid BY PROGRAM, IN A SANDBOX (cutbox-rows.mjs): the forced cells as the released guide's own fill.sh prints them over the translation be8b559f393a3e5c… (all of the seat's roots in one cut). By AI agents, Wed Nov 11 2026. No macro, syntax, notation, axiom, sorry.
-/
import Derived.Test.YtifopbfedkmgoaaChecked
import GoSem.Claim
import GoSem.ClaimJoined
import GoSem.ClaimMapViews
import Derived.JoinedTies
import Derived.KernelRfl
namespace Go.Proofs.Ytifopbfedkmgoaa
/- THE CELL 'sum', in the pinned program and in every row, IS THE sha256 OF THE DUMP (.gsa) THAT YtifopbfedkmgoaaProg.lean LOADS. Nothing in Lean hashes anything: it is a label: what it is worth is what the hold of that sum in a sandbox is worth. -/
noncomputable def Try.pinned : Pinned := { name := "ytifopbfedkmgoaa", sum := "be8b559f393a3e5c632eae2ba8f2eccefcbe37dbfa99b92dd8bdce76c028e36a", checked := Try.checked }
namespace Rows
def none {H : Type} : Left H := { results := [], args := [] }

/-- 'pentaglotlaw17.CalendarMonths': WHATEVER THE INPUT: true; the input reads as it did. -/
def calendarMonthsSpec : ChangeSpec := { name := "calendarMonths", fn := fun _ => fun
  | [d1, d2] => { results := [.lit (.bool true)], args := [d1, d2] }
  | _ => none }
def calendarMonthsRow : OpenClaim := { program := "ytifopbfedkmgoaa", sum := "be8b559f393a3e5c632eae2ba8f2eccefcbe37dbfa99b92dd8bdce76c028e36a", func := "pentaglot/pentaglotlaw17.CalendarMonths", spec := "calendarMonths", apart := false }
def CalendarMonthsSaid : Prop := calendarMonthsRow.holds Try.pinned (OpenSpec.ofChange calendarMonthsSpec)

/-- ITS FALSE NEIGHBOUR: 'it returns false'. Refute it at one input. -/
def calendarMonthsWrong : ChangeSpec := { name := "calendarMonths", fn := fun _ => fun
  | [d1, d2] => { results := [.lit (.bool false)], args := [d1, d2] }
  | _ => none }
def CalendarMonthsWrongFalsely : Prop := calendarMonthsRow.holds Try.pinned (OpenSpec.ofChange calendarMonthsWrong)

/-- 'pentaglotlaw17.CalendarYears': WHATEVER THE INPUT: true; the input reads as it did. -/
def calendarYearsSpec : ChangeSpec := { name := "calendarYears", fn := fun _ => fun
  | [d] => { results := [.lit (.bool true)], args := [d] }
  | _ => none }
def calendarYearsRow : OpenClaim := { program := "ytifopbfedkmgoaa", sum := "be8b559f393a3e5c632eae2ba8f2eccefcbe37dbfa99b92dd8bdce76c028e36a", func := "pentaglot/pentaglotlaw17.CalendarYears", spec := "calendarYears", apart := false }
def CalendarYearsSaid : Prop := calendarYearsRow.holds Try.pinned (OpenSpec.ofChange calendarYearsSpec)

/-- ITS FALSE NEIGHBOUR: 'it returns false'. Refute it at one input. -/
def calendarYearsWrong : ChangeSpec := { name := "calendarYears", fn := fun _ => fun
  | [d] => { results := [.lit (.bool false)], args := [d] }
  | _ => none }
def CalendarYearsWrongFalsely : Prop := calendarYearsRow.holds Try.pinned (OpenSpec.ofChange calendarYearsWrong)

/-- 'pentaglotlaw17.CalendarLeaps': WHATEVER THE INPUT: true; the input reads as it did. -/
def calendarLeapsSpec : ChangeSpec := { name := "calendarLeaps", fn := fun _ => fun
  | [d] => { results := [.lit (.bool true)], args := [d] }
  | _ => none }
def calendarLeapsRow : OpenClaim := { program := "ytifopbfedkmgoaa", sum := "be8b559f393a3e5c632eae2ba8f2eccefcbe37dbfa99b92dd8bdce76c028e36a", func := "pentaglot/pentaglotlaw17.CalendarLeaps", spec := "calendarLeaps", apart := false }
def CalendarLeapsSaid : Prop := calendarLeapsRow.holds Try.pinned (OpenSpec.ofChange calendarLeapsSpec)

/-- ITS FALSE NEIGHBOUR: 'it returns false'. Refute it at one input. -/
def calendarLeapsWrong : ChangeSpec := { name := "calendarLeaps", fn := fun _ => fun
  | [d] => { results := [.lit (.bool false)], args := [d] }
  | _ => none }
def CalendarLeapsWrongFalsely : Prop := calendarLeapsRow.holds Try.pinned (OpenSpec.ofChange calendarLeapsWrong)

/-- 'pentaglotlaw17.CalendarStart': WHATEVER THE INPUT: true; the input reads as it did. -/
def calendarStartSpec : ChangeSpec := { name := "calendarStart", fn := fun _ => fun
  | [d] => { results := [.lit (.bool true)], args := [d] }
  | _ => none }
def calendarStartRow : OpenClaim := { program := "ytifopbfedkmgoaa", sum := "be8b559f393a3e5c632eae2ba8f2eccefcbe37dbfa99b92dd8bdce76c028e36a", func := "pentaglot/pentaglotlaw17.CalendarStart", spec := "calendarStart", apart := false }
def CalendarStartSaid : Prop := calendarStartRow.holds Try.pinned (OpenSpec.ofChange calendarStartSpec)

/-- ITS FALSE NEIGHBOUR: 'it returns false'. Refute it at one input. -/
def calendarStartWrong : ChangeSpec := { name := "calendarStart", fn := fun _ => fun
  | [d] => { results := [.lit (.bool false)], args := [d] }
  | _ => none }
def CalendarStartWrongFalsely : Prop := calendarStartRow.holds Try.pinned (OpenSpec.ofChange calendarStartWrong)

/-- 'pentaglotlaw17.CalendarSolar': WHATEVER THE INPUT: true; the input reads as it did. -/
def calendarSolarSpec : ChangeSpec := { name := "calendarSolar", fn := fun _ => fun
  | [d] => { results := [.lit (.bool true)], args := [d] }
  | _ => none }
def calendarSolarRow : OpenClaim := { program := "ytifopbfedkmgoaa", sum := "be8b559f393a3e5c632eae2ba8f2eccefcbe37dbfa99b92dd8bdce76c028e36a", func := "pentaglot/pentaglotlaw17.CalendarSolar", spec := "calendarSolar", apart := false }
def CalendarSolarSaid : Prop := calendarSolarRow.holds Try.pinned (OpenSpec.ofChange calendarSolarSpec)

/-- ITS FALSE NEIGHBOUR: 'it returns false'. Refute it at one input. -/
def calendarSolarWrong : ChangeSpec := { name := "calendarSolar", fn := fun _ => fun
  | [d] => { results := [.lit (.bool false)], args := [d] }
  | _ => none }
def CalendarSolarWrongFalsely : Prop := calendarSolarRow.holds Try.pinned (OpenSpec.ofChange calendarSolarWrong)

/-- 'pentaglotlaw17.CalendarNext': WHATEVER THE INPUT: true; the input reads as it did. -/
def calendarNextSpec : ChangeSpec := { name := "calendarNext", fn := fun _ => fun
  | [d] => { results := [.lit (.bool true)], args := [d] }
  | _ => none }
def calendarNextRow : OpenClaim := { program := "ytifopbfedkmgoaa", sum := "be8b559f393a3e5c632eae2ba8f2eccefcbe37dbfa99b92dd8bdce76c028e36a", func := "pentaglot/pentaglotlaw17.CalendarNext", spec := "calendarNext", apart := false }
def CalendarNextSaid : Prop := calendarNextRow.holds Try.pinned (OpenSpec.ofChange calendarNextSpec)

/-- ITS FALSE NEIGHBOUR: 'it returns false'. Refute it at one input. -/
def calendarNextWrong : ChangeSpec := { name := "calendarNext", fn := fun _ => fun
  | [d] => { results := [.lit (.bool false)], args := [d] }
  | _ => none }
def CalendarNextWrongFalsely : Prop := calendarNextRow.holds Try.pinned (OpenSpec.ofChange calendarNextWrong)

/-- 'pentaglotlaw17.CalendarCycle': WHATEVER THE INPUT: true; the input reads as it did. -/
def calendarCycleSpec : ChangeSpec := { name := "calendarCycle", fn := fun _ => fun
  | [d] => { results := [.lit (.bool true)], args := [d] }
  | _ => none }
def calendarCycleRow : OpenClaim := { program := "ytifopbfedkmgoaa", sum := "be8b559f393a3e5c632eae2ba8f2eccefcbe37dbfa99b92dd8bdce76c028e36a", func := "pentaglot/pentaglotlaw17.CalendarCycle", spec := "calendarCycle", apart := false }
def CalendarCycleSaid : Prop := calendarCycleRow.holds Try.pinned (OpenSpec.ofChange calendarCycleSpec)

/-- ITS FALSE NEIGHBOUR: 'it returns false'. Refute it at one input. -/
def calendarCycleWrong : ChangeSpec := { name := "calendarCycle", fn := fun _ => fun
  | [d] => { results := [.lit (.bool false)], args := [d] }
  | _ => none }
def CalendarCycleWrongFalsely : Prop := calendarCycleRow.holds Try.pinned (OpenSpec.ofChange calendarCycleWrong)

/-- 'pentaglotlaw17.CalendarTurns': WHATEVER THE INPUT: true; the input reads as it did. -/
def calendarTurnsSpec : ChangeSpec := { name := "calendarTurns", fn := fun _ => fun
  | [d1, d2] => { results := [.lit (.bool true)], args := [d1, d2] }
  | _ => none }
def calendarTurnsRow : OpenClaim := { program := "ytifopbfedkmgoaa", sum := "be8b559f393a3e5c632eae2ba8f2eccefcbe37dbfa99b92dd8bdce76c028e36a", func := "pentaglot/pentaglotlaw17.CalendarTurns", spec := "calendarTurns", apart := false }
def CalendarTurnsSaid : Prop := calendarTurnsRow.holds Try.pinned (OpenSpec.ofChange calendarTurnsSpec)

/-- ITS FALSE NEIGHBOUR: 'it returns false'. Refute it at one input. -/
def calendarTurnsWrong : ChangeSpec := { name := "calendarTurns", fn := fun _ => fun
  | [d1, d2] => { results := [.lit (.bool false)], args := [d1, d2] }
  | _ => none }
def CalendarTurnsWrongFalsely : Prop := calendarTurnsRow.holds Try.pinned (OpenSpec.ofChange calendarTurnsWrong)

/-- 'pentaglotlaw17.CalendarWeek': WHATEVER THE INPUT: true; the input reads as it did. -/
def calendarWeekSpec : ChangeSpec := { name := "calendarWeek", fn := fun _ => fun
  | [d] => { results := [.lit (.bool true)], args := [d] }
  | _ => none }
def calendarWeekRow : OpenClaim := { program := "ytifopbfedkmgoaa", sum := "be8b559f393a3e5c632eae2ba8f2eccefcbe37dbfa99b92dd8bdce76c028e36a", func := "pentaglot/pentaglotlaw17.CalendarWeek", spec := "calendarWeek", apart := false }
def CalendarWeekSaid : Prop := calendarWeekRow.holds Try.pinned (OpenSpec.ofChange calendarWeekSpec)

/-- ITS FALSE NEIGHBOUR: 'it returns false'. Refute it at one input. -/
def calendarWeekWrong : ChangeSpec := { name := "calendarWeek", fn := fun _ => fun
  | [d] => { results := [.lit (.bool false)], args := [d] }
  | _ => none }
def CalendarWeekWrongFalsely : Prop := calendarWeekRow.holds Try.pinned (OpenSpec.ofChange calendarWeekWrong)

/-- 'pentaglotlaw17.CalendarDay': WHATEVER THE INPUT: true; the input reads as it did. -/
def calendarDaySpec : ChangeSpec := { name := "calendarDay", fn := fun _ => fun
  | [d] => { results := [.lit (.bool true)], args := [d] }
  | _ => none }
def calendarDayRow : OpenClaim := { program := "ytifopbfedkmgoaa", sum := "be8b559f393a3e5c632eae2ba8f2eccefcbe37dbfa99b92dd8bdce76c028e36a", func := "pentaglot/pentaglotlaw17.CalendarDay", spec := "calendarDay", apart := false }
def CalendarDaySaid : Prop := calendarDayRow.holds Try.pinned (OpenSpec.ofChange calendarDaySpec)

/-- ITS FALSE NEIGHBOUR: 'it returns false'. Refute it at one input. -/
def calendarDayWrong : ChangeSpec := { name := "calendarDay", fn := fun _ => fun
  | [d] => { results := [.lit (.bool false)], args := [d] }
  | _ => none }
def CalendarDayWrongFalsely : Prop := calendarDayRow.holds Try.pinned (OpenSpec.ofChange calendarDayWrong)

/-- 'pentaglotlaw17.CalendarInverts': WHATEVER THE INPUT: true; the input reads as it did. -/
def calendarInvertsSpec : ChangeSpec := { name := "calendarInverts", fn := fun _ => fun
  | [d1, d2] => { results := [.lit (.bool true)], args := [d1, d2] }
  | _ => none }
def calendarInvertsRow : OpenClaim := { program := "ytifopbfedkmgoaa", sum := "be8b559f393a3e5c632eae2ba8f2eccefcbe37dbfa99b92dd8bdce76c028e36a", func := "pentaglot/pentaglotlaw17.CalendarInverts", spec := "calendarInverts", apart := false }
def CalendarInvertsSaid : Prop := calendarInvertsRow.holds Try.pinned (OpenSpec.ofChange calendarInvertsSpec)

/-- ITS FALSE NEIGHBOUR: 'it returns false'. Refute it at one input. -/
def calendarInvertsWrong : ChangeSpec := { name := "calendarInverts", fn := fun _ => fun
  | [d1, d2] => { results := [.lit (.bool false)], args := [d1, d2] }
  | _ => none }
def CalendarInvertsWrongFalsely : Prop := calendarInvertsRow.holds Try.pinned (OpenSpec.ofChange calendarInvertsWrong)

/-- 'pentaglotlaw17.CalendarSearch': WHATEVER THE INPUT: true; the input reads as it did. -/
def calendarSearchSpec : ChangeSpec := { name := "calendarSearch", fn := fun _ => fun
  | [d1, d2, d3] => { results := [.lit (.bool true)], args := [d1, d2, d3] }
  | _ => none }
def calendarSearchRow : OpenClaim := { program := "ytifopbfedkmgoaa", sum := "be8b559f393a3e5c632eae2ba8f2eccefcbe37dbfa99b92dd8bdce76c028e36a", func := "pentaglot/pentaglotlaw17.CalendarSearch", spec := "calendarSearch", apart := false }
def CalendarSearchSaid : Prop := calendarSearchRow.holds Try.pinned (OpenSpec.ofChange calendarSearchSpec)

/-- ITS FALSE NEIGHBOUR: 'it returns false'. Refute it at one input. -/
def calendarSearchWrong : ChangeSpec := { name := "calendarSearch", fn := fun _ => fun
  | [d1, d2, d3] => { results := [.lit (.bool false)], args := [d1, d2, d3] }
  | _ => none }
def CalendarSearchWrongFalsely : Prop := calendarSearchRow.holds Try.pinned (OpenSpec.ofChange calendarSearchWrong)

/-- 'pentaglotlaw17.CalendarFirst': WHATEVER THE INPUT: true; the input reads as it did. -/
def calendarFirstSpec : ChangeSpec := { name := "calendarFirst", fn := fun _ => fun
  | [d1, d2, d3] => { results := [.lit (.bool true)], args := [d1, d2, d3] }
  | _ => none }
def calendarFirstRow : OpenClaim := { program := "ytifopbfedkmgoaa", sum := "be8b559f393a3e5c632eae2ba8f2eccefcbe37dbfa99b92dd8bdce76c028e36a", func := "pentaglot/pentaglotlaw17.CalendarFirst", spec := "calendarFirst", apart := false }
def CalendarFirstSaid : Prop := calendarFirstRow.holds Try.pinned (OpenSpec.ofChange calendarFirstSpec)

/-- ITS FALSE NEIGHBOUR: 'it returns false'. Refute it at one input. -/
def calendarFirstWrong : ChangeSpec := { name := "calendarFirst", fn := fun _ => fun
  | [d1, d2, d3] => { results := [.lit (.bool false)], args := [d1, d2, d3] }
  | _ => none }
def CalendarFirstWrongFalsely : Prop := calendarFirstRow.holds Try.pinned (OpenSpec.ofChange calendarFirstWrong)

/-- 'pentaglotlaw17.CalendarRound': WHATEVER THE INPUT: true; the input reads as it did. -/
def calendarRoundSpec : ChangeSpec := { name := "calendarRound", fn := fun _ => fun
  | [d] => { results := [.lit (.bool true)], args := [d] }
  | _ => none }
def calendarRoundRow : OpenClaim := { program := "ytifopbfedkmgoaa", sum := "be8b559f393a3e5c632eae2ba8f2eccefcbe37dbfa99b92dd8bdce76c028e36a", func := "pentaglot/pentaglotlaw17.CalendarRound", spec := "calendarRound", apart := false }
def CalendarRoundSaid : Prop := calendarRoundRow.holds Try.pinned (OpenSpec.ofChange calendarRoundSpec)

/-- ITS FALSE NEIGHBOUR: 'it returns false'. Refute it at one input. -/
def calendarRoundWrong : ChangeSpec := { name := "calendarRound", fn := fun _ => fun
  | [d] => { results := [.lit (.bool false)], args := [d] }
  | _ => none }
def CalendarRoundWrongFalsely : Prop := calendarRoundRow.holds Try.pinned (OpenSpec.ofChange calendarRoundWrong)

/- THE SECOND FORM. 'bulk': how many values and letters a reading holds, each counted each time it is reached (what is shared counts as often as it is met; a slice's spare places count too). A statement '..UptoSaid' is the law's where the arguments, and the package variables that the reading takes, are together of bulk at most 1048576: NARROWER than '..Said'. Prove '..Said' where nothing that the law and all that it calls make is longer than what came in: it says more and counts as full. Else prove '..UptoSaid'. A law counts once. -/
mutual
def uptoBulk {H : Type} : DataW H → Nat
  | .lit (.string bytes) => bytes.length + 1
  | .lit _ => 1
  | .nil => 1
  | .ptr d => uptoBulk d + 1
  | .slice elems spare => uptoBulkAll elems + uptoBulkAll spare + 1
  | .agg parts => uptoBulkAll parts + 1
  | .iface _ d => uptoBulk d + 1
  | .map entries => uptoBulkEntries entries + 1
  | .held _ => 1
def uptoBulkAll {H : Type} : List (DataW H) → Nat
  | [] => 0
  | d :: r => uptoBulk d + uptoBulkAll r
def uptoBulkEntries {H : Type} : List (Lit × DataW H) → Nat
  | [] => 0
  | x :: r => uptoBulkEntry x + uptoBulkEntries r
def uptoBulkEntry {H : Type} : Lit × DataW H → Nat
  | (.string bytes, d) => bytes.length + uptoBulk d + 1
  | (_, d) => uptoBulk d + 1
 end
def uptoSmall : (H : Type) → List (DataW H) → Bool := fun _ ds => decide (uptoBulkAll ds ≤ 1048576)
def OpenSpec.upto (s : _root_.Go.ChangeSpec) : _root_.Go.OpenSpec := { _root_.Go.OpenSpec.ofChange s with cond := some uptoSmall }

/-- 'pentaglotlaw17.CalendarMonths', WHERE WHAT IT READS IS OF BULK AT MOST 1048576: true; the input reads as it did. -/
def calendarMonthsUptoRow : OpenClaim := { program := "ytifopbfedkmgoaa", sum := "be8b559f393a3e5c632eae2ba8f2eccefcbe37dbfa99b92dd8bdce76c028e36a", func := "pentaglot/pentaglotlaw17.CalendarMonths", spec := "calendarMonths", apart := false, narrowed := true }
def CalendarMonthsUptoSaid : Prop := calendarMonthsUptoRow.holds Try.pinned (OpenSpec.upto calendarMonthsSpec)

/-- 'pentaglotlaw17.CalendarYears', WHERE WHAT IT READS IS OF BULK AT MOST 1048576: true; the input reads as it did. -/
def calendarYearsUptoRow : OpenClaim := { program := "ytifopbfedkmgoaa", sum := "be8b559f393a3e5c632eae2ba8f2eccefcbe37dbfa99b92dd8bdce76c028e36a", func := "pentaglot/pentaglotlaw17.CalendarYears", spec := "calendarYears", apart := false, narrowed := true }
def CalendarYearsUptoSaid : Prop := calendarYearsUptoRow.holds Try.pinned (OpenSpec.upto calendarYearsSpec)

/-- 'pentaglotlaw17.CalendarLeaps', WHERE WHAT IT READS IS OF BULK AT MOST 1048576: true; the input reads as it did. -/
def calendarLeapsUptoRow : OpenClaim := { program := "ytifopbfedkmgoaa", sum := "be8b559f393a3e5c632eae2ba8f2eccefcbe37dbfa99b92dd8bdce76c028e36a", func := "pentaglot/pentaglotlaw17.CalendarLeaps", spec := "calendarLeaps", apart := false, narrowed := true }
def CalendarLeapsUptoSaid : Prop := calendarLeapsUptoRow.holds Try.pinned (OpenSpec.upto calendarLeapsSpec)

/-- 'pentaglotlaw17.CalendarStart', WHERE WHAT IT READS IS OF BULK AT MOST 1048576: true; the input reads as it did. -/
def calendarStartUptoRow : OpenClaim := { program := "ytifopbfedkmgoaa", sum := "be8b559f393a3e5c632eae2ba8f2eccefcbe37dbfa99b92dd8bdce76c028e36a", func := "pentaglot/pentaglotlaw17.CalendarStart", spec := "calendarStart", apart := false, narrowed := true }
def CalendarStartUptoSaid : Prop := calendarStartUptoRow.holds Try.pinned (OpenSpec.upto calendarStartSpec)

/-- 'pentaglotlaw17.CalendarSolar', WHERE WHAT IT READS IS OF BULK AT MOST 1048576: true; the input reads as it did. -/
def calendarSolarUptoRow : OpenClaim := { program := "ytifopbfedkmgoaa", sum := "be8b559f393a3e5c632eae2ba8f2eccefcbe37dbfa99b92dd8bdce76c028e36a", func := "pentaglot/pentaglotlaw17.CalendarSolar", spec := "calendarSolar", apart := false, narrowed := true }
def CalendarSolarUptoSaid : Prop := calendarSolarUptoRow.holds Try.pinned (OpenSpec.upto calendarSolarSpec)

/-- 'pentaglotlaw17.CalendarNext', WHERE WHAT IT READS IS OF BULK AT MOST 1048576: true; the input reads as it did. -/
def calendarNextUptoRow : OpenClaim := { program := "ytifopbfedkmgoaa", sum := "be8b559f393a3e5c632eae2ba8f2eccefcbe37dbfa99b92dd8bdce76c028e36a", func := "pentaglot/pentaglotlaw17.CalendarNext", spec := "calendarNext", apart := false, narrowed := true }
def CalendarNextUptoSaid : Prop := calendarNextUptoRow.holds Try.pinned (OpenSpec.upto calendarNextSpec)

/-- 'pentaglotlaw17.CalendarCycle', WHERE WHAT IT READS IS OF BULK AT MOST 1048576: true; the input reads as it did. -/
def calendarCycleUptoRow : OpenClaim := { program := "ytifopbfedkmgoaa", sum := "be8b559f393a3e5c632eae2ba8f2eccefcbe37dbfa99b92dd8bdce76c028e36a", func := "pentaglot/pentaglotlaw17.CalendarCycle", spec := "calendarCycle", apart := false, narrowed := true }
def CalendarCycleUptoSaid : Prop := calendarCycleUptoRow.holds Try.pinned (OpenSpec.upto calendarCycleSpec)

/-- 'pentaglotlaw17.CalendarTurns', WHERE WHAT IT READS IS OF BULK AT MOST 1048576: true; the input reads as it did. -/
def calendarTurnsUptoRow : OpenClaim := { program := "ytifopbfedkmgoaa", sum := "be8b559f393a3e5c632eae2ba8f2eccefcbe37dbfa99b92dd8bdce76c028e36a", func := "pentaglot/pentaglotlaw17.CalendarTurns", spec := "calendarTurns", apart := false, narrowed := true }
def CalendarTurnsUptoSaid : Prop := calendarTurnsUptoRow.holds Try.pinned (OpenSpec.upto calendarTurnsSpec)

/-- 'pentaglotlaw17.CalendarWeek', WHERE WHAT IT READS IS OF BULK AT MOST 1048576: true; the input reads as it did. -/
def calendarWeekUptoRow : OpenClaim := { program := "ytifopbfedkmgoaa", sum := "be8b559f393a3e5c632eae2ba8f2eccefcbe37dbfa99b92dd8bdce76c028e36a", func := "pentaglot/pentaglotlaw17.CalendarWeek", spec := "calendarWeek", apart := false, narrowed := true }
def CalendarWeekUptoSaid : Prop := calendarWeekUptoRow.holds Try.pinned (OpenSpec.upto calendarWeekSpec)

/-- 'pentaglotlaw17.CalendarDay', WHERE WHAT IT READS IS OF BULK AT MOST 1048576: true; the input reads as it did. -/
def calendarDayUptoRow : OpenClaim := { program := "ytifopbfedkmgoaa", sum := "be8b559f393a3e5c632eae2ba8f2eccefcbe37dbfa99b92dd8bdce76c028e36a", func := "pentaglot/pentaglotlaw17.CalendarDay", spec := "calendarDay", apart := false, narrowed := true }
def CalendarDayUptoSaid : Prop := calendarDayUptoRow.holds Try.pinned (OpenSpec.upto calendarDaySpec)

/-- 'pentaglotlaw17.CalendarInverts', WHERE WHAT IT READS IS OF BULK AT MOST 1048576: true; the input reads as it did. -/
def calendarInvertsUptoRow : OpenClaim := { program := "ytifopbfedkmgoaa", sum := "be8b559f393a3e5c632eae2ba8f2eccefcbe37dbfa99b92dd8bdce76c028e36a", func := "pentaglot/pentaglotlaw17.CalendarInverts", spec := "calendarInverts", apart := false, narrowed := true }
def CalendarInvertsUptoSaid : Prop := calendarInvertsUptoRow.holds Try.pinned (OpenSpec.upto calendarInvertsSpec)

/-- 'pentaglotlaw17.CalendarSearch', WHERE WHAT IT READS IS OF BULK AT MOST 1048576: true; the input reads as it did. -/
def calendarSearchUptoRow : OpenClaim := { program := "ytifopbfedkmgoaa", sum := "be8b559f393a3e5c632eae2ba8f2eccefcbe37dbfa99b92dd8bdce76c028e36a", func := "pentaglot/pentaglotlaw17.CalendarSearch", spec := "calendarSearch", apart := false, narrowed := true }
def CalendarSearchUptoSaid : Prop := calendarSearchUptoRow.holds Try.pinned (OpenSpec.upto calendarSearchSpec)

/-- 'pentaglotlaw17.CalendarFirst', WHERE WHAT IT READS IS OF BULK AT MOST 1048576: true; the input reads as it did. -/
def calendarFirstUptoRow : OpenClaim := { program := "ytifopbfedkmgoaa", sum := "be8b559f393a3e5c632eae2ba8f2eccefcbe37dbfa99b92dd8bdce76c028e36a", func := "pentaglot/pentaglotlaw17.CalendarFirst", spec := "calendarFirst", apart := false, narrowed := true }
def CalendarFirstUptoSaid : Prop := calendarFirstUptoRow.holds Try.pinned (OpenSpec.upto calendarFirstSpec)

/-- 'pentaglotlaw17.CalendarRound', WHERE WHAT IT READS IS OF BULK AT MOST 1048576: true; the input reads as it did. -/
def calendarRoundUptoRow : OpenClaim := { program := "ytifopbfedkmgoaa", sum := "be8b559f393a3e5c632eae2ba8f2eccefcbe37dbfa99b92dd8bdce76c028e36a", func := "pentaglot/pentaglotlaw17.CalendarRound", spec := "calendarRound", apart := false, narrowed := true }
def CalendarRoundUptoSaid : Prop := calendarRoundUptoRow.holds Try.pinned (OpenSpec.upto calendarRoundSpec)

end Rows
end Go.Proofs.Ytifopbfedkmgoaa
