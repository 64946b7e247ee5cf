/- Plain law: the day of the solar date of a day is that day, and the date of the day of a date is that date. No condition: for every input. -/
import Derived.Test.YtifopbfedkmgoaaCalDay

namespace Go.Proofs.Ytifopbfedkmgoaa.Pure
set_option linter.unusedVariables false
set_option linter.unusedSimpArgs false
open Go.RowKit Go.Proofs.Ytifopbfedkmgoaa.P Go.Proofs.Ytifopbfedkmgoaa.Cal Go.Proofs.YtifopbfedkmgoaaW.PrintWords Go.Proofs.YtifopbfedkmgoaaW.PrintLast
theorem CalendarInverts : pentaglotlaw17_CalendarInverts.Pure := by
  intro day p _ hp
  apply Ev.rounds
  refine Ev.bind (f := fun k t => if t = true then ((calendar_SolarDate.f k day).bind fun bt254 => (if bt254.2.2.2.2.2 = 0 then ((calendar_SolarDay.f k bt254.1 bt254.2.1 bt254.2.2.1 bt254.2.2.2.1 bt254.2.2.2.2.1).bind fun bt261 => (if bt261.1 = day then (if bt261.2 = 0 then (pentaglotlaw17_CalendarInverts.j0 k p.f0 p.f1 p.f2 p.f3 p.f4) else (some false)) else (some false))) else (pentaglotlaw17_CalendarInverts.j0 k p.f0 p.f1 p.f2 p.f3 p.f4))) else (some false)) awake ?_
  simp only [if_true]
  have second : Ev (fun k => pentaglotlaw17_CalendarInverts.j0 k p.f0 p.f1 p.f2 p.f3 p.f4) true := by
    refine Ev.step (f := fun k => (calendar_SolarDay.f k p.f0 p.f1 p.f2 p.f3 p.f4).bind fun bt263 => (if bt263.2 = 0 then ((calendar_SolarDate.f k bt263.1).bind fun bt265 => (if (bt265.1 == p.f0 && (bt265.2.1 == p.f1 && (bt265.2.2.1 == p.f2 && (bt265.2.2.2.1 == p.f3 && (bt265.2.2.2.2.1 == p.f4))))) = true then (some (bt265.2.2.2.2.2 == 0)) else (some false))) else (some (bt263.1 == 0)))) (fun k => rfl) ?_
    refine Ev.bind (solarDay p.f0 p.f1 p.f2 p.f3 p.f4) ?_
    unfold sd
    by_cases h : p.f0 = 1 ∧ p.f4 = false ∧ 1 ≤ p.f3 ∧ p.f3 ≤ md p.f1 p.f2
    · rw [if_pos h]
      obtain ⟨e0, e4, h1, h2⟩ := h
      obtain ⟨g0, g1, g2⟩ := md_ok p.f1 p.f2 p.f3 h1 h2
      have hsb := st_bd p.f1 g0
      have hc := cum_bd p.f2 g1 g2
      by_cases hs : st p.f1 ≤ 999999 ∧ st p.f1 + cum p.f2 + (p.f3 - 1) ≤ 999999
      · rw [if_pos hs]
        simp only [if_true]
        obtain ⟨y, m, d, a1, a2, a3, a4, a5, a6, a7, a8⟩ := solarDate (st p.f1 + cum p.f2 + (p.f3 - 1)) (by omega) (by omega)
        obtain ⟨e1, e2, e3⟩ := date_unique y m d p.f1 p.f2 (p.f3 - 1) a1 g0 a3 a4 a5 a6 g1 g2 (by omega) (by omega) (by omega)
        refine Ev.bind a8 ?_
        simp only
        rw [e0, e1, e2, e3, e4]
        simp only [show p.f3 - 1 + 1 = p.f3 by omega, beq_self_eq_true, Bool.and_self, if_true]
        exact Ev.now _
      · rw [if_neg hs]
        exact Ev.now _
    · rw [if_neg h]
      exact Ev.now _
  by_cases h0 : day < 0
  · refine Ev.bind (g := fun k => calendar_SolarDate.f k day) ⟨0, fun k _ => solarDate_neg day h0 k⟩ ?_
    exact Ev.congr (fun k => if_neg (by decide)) second
  · by_cases h1 : day > 999999
    · refine Ev.bind (g := fun k => calendar_SolarDate.f k day) ⟨0, fun k _ => solarDate_big day h1 k⟩ ?_
      exact Ev.congr (fun k => if_neg (by decide)) second
    · obtain ⟨y, m, d, a1, a2, a3, a4, a5, a6, a7, a8⟩ := solarDate day (by omega) (by omega)
      have hsb := st_bd y a1
      have hc := cum_bd m a3 a4
      refine Ev.bind a8 ?_
      simp only [if_true]
      refine Ev.bind (solarDay 1 y m (d + 1) false) ?_
      unfold sd
      rw [if_pos ⟨rfl, rfl, by omega, by omega⟩, if_pos ⟨by omega, by omega⟩]
      simp only [if_true]
      exact Ev.congr (fun k => if_pos (by omega)) second
end Go.Proofs.Ytifopbfedkmgoaa.Pure
