/- Plain law: Leap and MonthDays follow the rules of the solar calendar. No condition: for every input. -/
import Derived.Test.YtifopbfedkmgoaaCalRef

namespace Go.Proofs.Ytifopbfedkmgoaa.Pure
set_option linter.unusedVariables false
set_option linter.unusedSimpArgs false
open Go.RowKit Go.Proofs.Ytifopbfedkmgoaa.P Go.Proofs.Ytifopbfedkmgoaa.Cal Go.Proofs.YtifopbfedkmgoaaW.PrintWords Go.Proofs.YtifopbfedkmgoaaW.PrintLast
theorem CalendarMonths : pentaglotlaw17_CalendarMonths.Pure := by
  intro y m _ _
  obtain ⟨K1, h1⟩ := awake
  obtain ⟨K2, h2⟩ := rmonthDays y m
  have h1 := h1 (max K1 K2) (by omega)
  have h2 := h2 (max K1 K2) (by omega)
  refine ⟨max K1 K2, ?_⟩
  unfold pentaglotlaw17_CalendarMonths.f
  simp only [h1, h2, leap, rleap, monthDays, Option.bind_some, if_true, beq_self_eq_true]
end Go.Proofs.Ytifopbfedkmgoaa.Pure
