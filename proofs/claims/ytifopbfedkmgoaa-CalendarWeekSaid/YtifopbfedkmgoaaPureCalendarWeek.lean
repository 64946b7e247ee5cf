/- Plain law: Weekday counts days modulo 6, and returns -1 for numbers that are not days. No condition: for every input. -/
import Derived.Test.YtifopbfedkmgoaaPx6
import Derived.Test.YtifopbfedkmgoaaCal
namespace Go.Proofs.Ytifopbfedkmgoaa.Pure
set_option linter.unusedVariables false
set_option linter.unusedSimpArgs false
open Go.RowKit Go.Proofs.Ytifopbfedkmgoaa.P Go.Proofs.Ytifopbfedkmgoaa.Cal Go.Proofs.YtifopbfedkmgoaaW.PrintWords Go.Proofs.YtifopbfedkmgoaaW.PrintLast
theorem CalendarWeek : pentaglotlaw17_CalendarWeek.Pure := by
  intro day _
  have key : ∃ r, calendar_Weekday.f day = some r ∧ pentaglotref17_Weekday.f day = some r := by
    unfold calendar_Weekday.f pentaglotref17_Weekday.f
    rw [check]
    simp only [Option.bind_some]
    by_cases h0 : day < 0
    · rw [if_pos h0, if_pos h0]; exact ⟨_, rfl, rfl⟩
    · rw [if_neg h0, if_neg h0]
      by_cases h1 : day > 999999
      · rw [if_pos h1, if_pos h1]; exact ⟨_, rfl, rfl⟩
      · rw [if_neg h1, if_neg h1]; exact ⟨_, rfl, rfl⟩
  obtain ⟨r, h2, h3⟩ := key
  obtain ⟨K, h1⟩ := awake
  have h1 := h1 K (by omega)
  refine ⟨K, ?_⟩
  unfold pentaglotlaw17_CalendarWeek.f
  simp only [h1, h2, h3, Option.bind_some, if_true, beq_self_eq_true]
end Go.Proofs.Ytifopbfedkmgoaa.Pure
