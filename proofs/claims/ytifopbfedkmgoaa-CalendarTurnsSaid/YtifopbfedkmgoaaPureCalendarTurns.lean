/- Plain law: number and name both advance each day, and the same pair returns after 260 days and not before. No condition: for every input. -/
import Derived.Test.YtifopbfedkmgoaaPx6
import Derived.Test.YtifopbfedkmgoaaCal
namespace Go.Proofs.Ytifopbfedkmgoaa.Pure
set_option linter.unusedVariables false
set_option linter.unusedSimpArgs false
open Go.RowKit Go.Proofs.Ytifopbfedkmgoaa.P Go.Proofs.Ytifopbfedkmgoaa.Cal Go.Proofs.YtifopbfedkmgoaaW.PrintWords Go.Proofs.YtifopbfedkmgoaaW.PrintLast
theorem cycleDate (d : Int) (h0 : 0 ≤ d) (h1 : d ≤ 999999) : calendar_CycleDate.f d = some (3, d / 260, d % 13 + 1, d % 20, false, 0) := by
  unfold calendar_CycleDate.f
  rw [check, if_neg (by omega), if_neg (by omega), td h0, tm h0, tm h0, w64 (by omega) (by omega), w64 (by omega) (by omega)]
  rfl
theorem CalendarTurns : pentaglotlaw17_CalendarTurns.Pure := by
  intro day x _ _
  apply Ev.rounds
  refine Ev.bind (f := fun k t => if t = true then (if day < 0 then (pentaglotlaw17_CalendarTurns.j0 k day x true) else (if day > 999738 then (pentaglotlaw17_CalendarTurns.j0 k day x true) else (if x < 1 then (pentaglotlaw17_CalendarTurns.j0 k day x true) else (pentaglotlaw17_CalendarTurns.j0 k day x (decide (x > 260)))))) else (pentaglotlaw17_CalendarTurns.j0 k day x true)) awake ?_
  simp only [if_true]
  have jt : Ev (fun k => pentaglotlaw17_CalendarTurns.j0 k day x true) true := by
    refine Ev.step (f := fun k => (pentaglotlaw17_awake.f k).bind fun t => some t) (fun k => rfl) ?_
    exact Ev.bind (f := fun _ t => some t) awake (Ev.now _)
  by_cases h0 : day < 0
  · simp only [h0, if_true]; exact jt
  · simp only [h0, if_false]
    by_cases h1 : day > 999738
    · simp only [h1, if_true]; exact jt
    · simp only [h1, if_false]
      by_cases h2 : x < 1
      · simp only [h2, if_true]; exact jt
      · simp only [h2, if_false]
        by_cases h3 : x > 260
        · simp only [h3, decide_true]; exact jt
        · simp only [h3, decide_false]
          refine Ev.step (f := fun _ => some true) (fun k => ?_) (Ev.now _)
          simp only [pentaglotlaw17_CalendarTurns.j0]
          rw [if_neg (by decide), w64 (x := day + 1) (by omega) (by omega), w64 (x := day + x) (by omega) (by omega), cycleDate day (by omega) (by omega), cycleDate (day + 1) (by omega) (by omega), cycleDate (day + x) (by omega) (by omega)]
          simp only [Option.bind_some, if_true]
          rw [tm (by omega), w64 (x := day % 20 + 1) (by omega) (by omega), tm (by omega), w64 (by omega) (by omega), if_pos (by omega), if_pos (by omega)]
          by_cases c : (day + x) % 13 + 1 = day % 13 + 1
          · rw [if_pos c]
            congr 1
            by_cases c2 : x = 260
            · subst c2
              have : (day + 260) % 20 = day % 20 := by omega
              simp [this]
            · have : ¬ (day + x) % 20 = day % 20 := by omega
              rw [beq_eq_false_iff_ne.mpr this, beq_eq_false_iff_ne.mpr c2]
              rfl
          · rw [if_neg c]
            have : ¬ x = 260 := by omega
            simp [this]
end Go.Proofs.Ytifopbfedkmgoaa.Pure
