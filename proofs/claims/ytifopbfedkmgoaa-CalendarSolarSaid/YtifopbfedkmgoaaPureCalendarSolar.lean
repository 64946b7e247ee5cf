/- Plain law: SolarDate returns the solar date of a day, or its error. No condition: for every input. -/
import Derived.Test.YtifopbfedkmgoaaCalRef

namespace Go.Proofs.Ytifopbfedkmgoaa.Pure
set_option linter.unusedVariables false
set_option linter.unusedSimpArgs false
open Go.RowKit Go.Proofs.Ytifopbfedkmgoaa.P Go.Proofs.Ytifopbfedkmgoaa.Cal Go.Proofs.YtifopbfedkmgoaaW.PrintWords Go.Proofs.YtifopbfedkmgoaaW.PrintLast
theorem CalendarSolar : pentaglotlaw17_CalendarSolar.Pure := by
  intro day _
  have key : ∃ r, Ev (fun k => calendar_SolarDate.f k day) r ∧ Ev (fun k => pentaglotref17_SolarDate.f k day) r := by
    by_cases h0 : day < 0
    · exact ⟨_, ⟨0, fun k _ => solarDate_neg day h0 k⟩, ⟨0, fun k _ => by show pentaglotref17_SolarDate.f k day = _; unfold pentaglotref17_SolarDate.f; rw [if_pos h0]⟩⟩
    · by_cases h1 : day > 999999
      · exact ⟨_, ⟨0, fun k _ => solarDate_big day h1 k⟩, ⟨0, fun k _ => by show pentaglotref17_SolarDate.f k day = _; unfold pentaglotref17_SolarDate.f; rw [if_neg h0, if_pos h1]⟩⟩
      · obtain ⟨y, m, d, a1, a2, a3, a4, a5, a6, a7, a8⟩ := solarDate day (by omega) (by omega)
        obtain ⟨y', m', d', b1, b2, b3, b4, b5, b6, b7, b8⟩ := rsolarDate day (by omega) (by omega)
        obtain ⟨rfl, rfl, rfl⟩ := date_unique y m d y' m' d' a1 b1 a3 a4 a5 a6 b3 b4 b5 b6 (by omega)
        exact ⟨_, a8, b8⟩
  obtain ⟨r, ⟨K3, h3⟩, K2, h2⟩ := key
  obtain ⟨K1, h1⟩ := awake
  have h1 := h1 (max K1 (max K2 K3)) (by omega)
  have h2 := h2 (max K1 (max K2 K3)) (by omega)
  have h3 := h3 (max K1 (max K2 K3)) (by omega)
  refine ⟨max K1 (max K2 K3), ?_⟩
  unfold pentaglotlaw17_CalendarSolar.f
  simp only [h1, h2, h3, Option.bind_some, if_true, beq_self_eq_true, Bool.and_self]
end Go.Proofs.Ytifopbfedkmgoaa.Pure
