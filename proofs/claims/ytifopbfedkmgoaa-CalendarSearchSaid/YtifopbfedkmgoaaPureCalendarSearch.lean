/- Plain law: Next returns the first later day with a number and a name, or its error. No condition: for every input. -/
import Derived.Test.YtifopbfedkmgoaaCalNext

namespace Go.Proofs.Ytifopbfedkmgoaa.Pure
set_option linter.unusedVariables false
set_option linter.unusedSimpArgs false
open Go.RowKit Go.Proofs.Ytifopbfedkmgoaa.P Go.Proofs.Ytifopbfedkmgoaa.Cal Go.Proofs.YtifopbfedkmgoaaW.PrintWords Go.Proofs.YtifopbfedkmgoaaW.PrintLast
theorem CalendarSearch : pentaglotlaw17_CalendarSearch.Pure := by
  intro a b after _ _ _
  obtain ⟨K1, h1⟩ := awake
  obtain ⟨K2, h2⟩ := next a b after
  obtain ⟨K3, h3⟩ := rnext a b after
  have h1 := h1 (max K1 (max K2 K3)) (by omega)
  have h2 := h2 (max K1 (max K2 K3)) (by omega)
  have h3 := h3 (max K1 (max K2 K3)) (by omega)
  refine ⟨max K1 (max K2 K3), ?_⟩
  unfold pentaglotlaw17_CalendarSearch.f
  simp only [h1, h2, h3, Option.bind_some, if_true, beq_self_eq_true]
end Go.Proofs.Ytifopbfedkmgoaa.Pure
