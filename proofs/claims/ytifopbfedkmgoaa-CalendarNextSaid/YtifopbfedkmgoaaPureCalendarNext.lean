/- Plain law: the solar date of the next day is the next day of the month, or the first day of the next month, or of the next year. No condition: for every input. -/
import Derived.Test.YtifopbfedkmgoaaPx5
import Derived.Test.YtifopbfedkmgoaaCal
namespace Go.Proofs.Ytifopbfedkmgoaa.Pure
set_option linter.unusedVariables false
set_option linter.unusedSimpArgs false
open Go.RowKit Go.Proofs.Ytifopbfedkmgoaa.P Go.Proofs.Ytifopbfedkmgoaa.Cal Go.Proofs.YtifopbfedkmgoaaW.PrintWords Go.Proofs.YtifopbfedkmgoaaW.PrintLast
theorem CalendarNext : pentaglotlaw17_CalendarNext.Pure := by
  intro day _
  apply Ev.rounds
  refine Ev.bind (f := fun k t => if t = true then (if day < 0 then (pentaglotlaw17_CalendarNext.j0 k day true) else (pentaglotlaw17_CalendarNext.j0 k day (decide (day ≥ 999999)))) else (pentaglotlaw17_CalendarNext.j0 k day true)) awake ?_
  simp only [if_true]
  have jt : Ev (fun k => pentaglotlaw17_CalendarNext.j0 k day true) true := by
    refine Ev.step (f := fun k => (pentaglotlaw17_awake.f k).bind fun t => some t) (fun k => rfl) ?_
    exact Ev.bind (f := fun _ t => some t) awake (Ev.now _)
  by_cases h0 : day < 0
  · simp only [h0, if_true]; exact jt
  · simp only [h0, if_false]
    by_cases h1 : day ≥ 999999
    · simp only [h1, decide_true]; exact jt
    · simp only [h1, decide_false]
      obtain ⟨y, m, d, a1, a2, a3, a4, a5, a6, a7, a8⟩ := solarDate day (by omega) (by omega)
      obtain ⟨y', m', d', b1, b2, b3, b4, b5, b6, b7, b8⟩ := solarDate (day + 1) (by omega) (by omega)
      refine Ev.step (f := fun k => (calendar_SolarDate.f k day).bind fun bt178 => ((calendar_SolarDate.f k (wrap64 (day + 1))).bind fun bt185 => (if bt178.2.2.2.2.2 = 0 then (pentaglotlaw17_CalendarNext.j1 k (bt185.2.2.2.2.2 != 0) bt178.1 bt178.2.1 bt178.2.2.1 bt178.2.2.2.1 bt178.2.2.2.2.1 bt185.1 bt185.2.1 bt185.2.2.1 bt185.2.2.2.1 bt185.2.2.2.2.1) else (pentaglotlaw17_CalendarNext.j1 k true bt178.1 bt178.2.1 bt178.2.2.1 bt178.2.2.2.1 bt178.2.2.2.2.1 bt185.1 bt185.2.1 bt185.2.2.1 bt185.2.2.2.1 bt185.2.2.2.2.1)))) (fun k => rfl) ?_
      refine Ev.bind a8 ?_
      rw [w64 (x := day + 1) (by omega) (by omega)]
      refine Ev.bind b8 ?_
      simp only [if_true, bne_self_eq_false]
      refine Ev.step (f := fun _ => some true) (fun k => ?_) (Ev.now _)
      simp only [pentaglotlaw17_CalendarNext.j1, monthDays, Option.bind_some]
      have hb := md_bd y m
      rw [if_neg (by decide)]
      by_cases c1 : d + 1 = md y m
      · rw [if_pos c1]
        by_cases c2 : m = 12
        · subst c2
          rw [if_pos (by rw [w64 (by omega) (by omega)]; omega), w64 (x := y + 1) (by omega) (by omega)]
          have hp := md_pos (y + 1) 1 (by omega) (by omega) (by omega)
          have h12 := cum_12 y a1
          have hs := st_succ y a1
          obtain ⟨rfl, rfl, rfl⟩ := date_unique y' m' d' (y + 1) 1 0 b1 (by omega) b3 b4 b5 b6 (by omega) (by omega) (by omega) (by omega) (by rw [cum_one]; omega)
          simp
        · rw [w64 (x := m + 1) (by omega) (by omega), if_neg (by omega)]
          have hp := md_pos y (m + 1) (by omega) (by omega) (by omega)
          have hs := cum_succ y m a1 a3 (by omega)
          obtain ⟨rfl, rfl, rfl⟩ := date_unique y' m' d' y (m + 1) 0 b1 (by omega) b3 b4 b5 b6 (by omega) (by omega) (by omega) (by omega) (by omega)
          simp
      · rw [if_neg c1, if_neg (by omega)]
        obtain ⟨rfl, rfl, rfl⟩ := date_unique y' m' d' y m (d + 1) b1 (by omega) b3 b4 b5 b6 (by omega) (by omega) (by omega) (by omega) (by omega)
        rw [w64 (x := d + 1 + 1) (by omega) (by omega)]
        simp
end Go.Proofs.Ytifopbfedkmgoaa.Pure
