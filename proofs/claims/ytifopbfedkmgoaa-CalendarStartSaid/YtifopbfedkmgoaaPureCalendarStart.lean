/- Plain law: YearStart returns the first day of a year, or its error. No condition: for every input. -/
import Derived.Test.YtifopbfedkmgoaaCalRef

namespace Go.Proofs.Ytifopbfedkmgoaa.Pure
set_option linter.unusedVariables false
set_option linter.unusedSimpArgs false
open Go.RowKit Go.Proofs.Ytifopbfedkmgoaa.P Go.Proofs.Ytifopbfedkmgoaa.Cal Go.Proofs.YtifopbfedkmgoaaW.PrintWords Go.Proofs.YtifopbfedkmgoaaW.PrintLast
theorem CalendarStart : pentaglotlaw17_CalendarStart.Pure := by
  intro y hy
  have hw := wf_lo hy
  have key : ∃ r, calendar_YearStart.f y = some r ∧ Ev (fun k => pentaglotref17_YearStart.f k y) r := by
    by_cases h0 : y < 0
    · exact ⟨_, yearStart_neg y h0, ⟨0, fun k _ => ryearStart_neg y h0 k⟩⟩
    · exact ⟨_, yearStart y (by omega), ryearStart y (by omega) (by omega)⟩
  obtain ⟨r, hr, K2, h2⟩ := key
  obtain ⟨K1, h1⟩ := awake
  have h1 := h1 (max K1 K2) (by omega)
  have h2 := h2 (max K1 K2) (by omega)
  refine ⟨max K1 K2, ?_⟩
  unfold pentaglotlaw17_CalendarStart.f
  simp only [h1, h2, hr, Option.bind_some, if_true, beq_self_eq_true]
end Go.Proofs.Ytifopbfedkmgoaa.Pure
