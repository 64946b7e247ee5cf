/- Plain law: SolarDay returns the day of a solar date, or its error. No condition: for every input. -/
import Derived.Test.YtifopbfedkmgoaaCalDay

namespace Go.Proofs.Ytifopbfedkmgoaa.Pure
set_option linter.unusedVariables false
set_option linter.unusedSimpArgs false
open Go.RowKit Go.Proofs.Ytifopbfedkmgoaa.P Go.Proofs.Ytifopbfedkmgoaa.Cal Go.Proofs.YtifopbfedkmgoaaW.PrintWords Go.Proofs.YtifopbfedkmgoaaW.PrintLast
theorem CalendarDay : pentaglotlaw17_CalendarDay.Pure := by
  intro p hp
  have hy := wf_lo hp.2.1
  obtain ⟨K1, h1⟩ := awake
  obtain ⟨K2, h2⟩ := solarDay p.f0 p.f1 p.f2 p.f3 p.f4
  obtain ⟨K3, h3⟩ := rsolarDay p.f0 p.f1 p.f2 p.f3 p.f4 hy.2
  have h1 := h1 (max K1 (max K2 K3)) (by omega)
  have h2 := h2 (max K1 (max K2 K3)) (by omega)
  have h3 := h3 (max K1 (max K2 K3)) (by omega)
  refine ⟨max K1 (max K2 K3), ?_⟩
  unfold pentaglotlaw17_CalendarDay.f
  simp only [h1, h2, h3, Option.bind_some, if_true, beq_self_eq_true]
end Go.Proofs.Ytifopbfedkmgoaa.Pure
