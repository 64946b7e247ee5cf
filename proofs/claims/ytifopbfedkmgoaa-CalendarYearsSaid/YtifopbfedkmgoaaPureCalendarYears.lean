/- Plain law: the months of a year have 365 days together, or 366 in a leap year, and the next year begins that many days later. No condition: for every input. -/
import Derived.Test.YtifopbfedkmgoaaPx3
import Derived.Test.YtifopbfedkmgoaaCal
namespace Go.Proofs.Ytifopbfedkmgoaa.Pure
set_option linter.unusedVariables false
set_option linter.unusedSimpArgs false
open Go.RowKit Go.Proofs.Ytifopbfedkmgoaa.P Go.Proofs.Ytifopbfedkmgoaa.Cal Go.Proofs.YtifopbfedkmgoaaW.PrintWords Go.Proofs.YtifopbfedkmgoaaW.PrintLast
theorem sum_loop (y : Int) (h0 : 0 ≤ y) (R : Bool) (hR : Ev (fun k => pentaglotlaw17_CalendarYears.l0 k y (yd y) 13) R) (n : Nat) : ∀ (m s : Int), 1 ≤ m → m ≤ 13 → (13 - m).toNat = n → s = (if m = 13 then yd y else cum m) →
    Ev (fun k => pentaglotlaw17_CalendarYears.l0 k y s m) R := by
  induction n with
  | zero =>
    intro m s h1 h2 hn hs
    obtain rfl : m = 13 := by omega
    rw [if_pos rfl] at hs
    subst hs
    exact hR
  | succ n ih =>
    intro m s h1 h2 hn hs
    have hm : m ≤ 12 := by omega
    rw [if_neg (by omega)] at hs
    subst hs
    have hb := md_bd y m
    have hc := cum_bd m h1 hm
    have hn' : cum m + md y m = if m + 1 = 13 then yd y else cum (m + 1) := by
      by_cases e : m = 12
      · subst e; rw [if_pos (by omega)]; exact cum_12 y h0
      · rw [if_neg (by omega)]; exact (cum_succ y m h0 h1 (by omega)).symm
    have := ih (m + 1) (cum m + md y m) (by omega) (by omega) (by omega) hn'
    refine Ev.step (f := fun k => pentaglotlaw17_CalendarYears.l0 k y (cum m + md y m) (m + 1)) (fun k => ?_) this
    simp only [pentaglotlaw17_CalendarYears.l0]
    rw [if_pos hm, monthDays]
    simp only [Option.bind_some]
    rw [w64 (x := cum m + md y m) (by omega) (by omega), w64 (x := m + 1) (by omega) (by omega)]
theorem CalendarYears : pentaglotlaw17_CalendarYears.Pure := by
  intro y _
  apply Ev.rounds
  refine Ev.bind (f := fun k t => if t = true then (if y < 0 then (pentaglotlaw17_CalendarYears.j0 k y true) else (pentaglotlaw17_CalendarYears.j0 k y (decide (y > 10000)))) else (pentaglotlaw17_CalendarYears.j0 k y true)) awake ?_
  simp only [if_true]
  have jt : Ev (fun k => pentaglotlaw17_CalendarYears.j0 k y true) true := by
    refine Ev.step (f := fun k => (pentaglotlaw17_awake.f k).bind fun t => some t) (fun k => rfl) ?_
    exact Ev.bind (f := fun _ t => some t) awake (Ev.now _)
  by_cases h0 : y < 0
  · simp only [h0, if_true]; exact jt
  · simp only [h0, if_false]
    by_cases h1 : y > 10000
    · simp only [h1, decide_true]; exact jt
    · simp only [h1, decide_false]
      refine Ev.step (f := fun k => pentaglotlaw17_CalendarYears.l0 k y 0 1) (fun k => rfl) ?_
      refine sum_loop y (by omega) true ?_ 12 1 0 (by omega) (by omega) (by omega) (by rw [if_neg (by omega), cum_one])
      have hs := st_succ y (by omega)
      have hb := st_bd y (by omega)
      have hyd := yd_bd y
      refine Ev.step (f := fun k => pentaglotlaw17_CalendarYears.j2 k y (yd y) false) (fun k => ?_) ?_
      · simp only [pentaglotlaw17_CalendarYears.l0]
        rw [if_neg (by omega), leap]
        simp only [Option.bind_some]
        cases hl : lp y with
        | true => simp [yd, hl]
        | false => simp [yd, hl]
      · refine Ev.step (f := fun _ => some true) (fun k => ?_) (Ev.now _)
        simp only [pentaglotlaw17_CalendarYears.j2]
        rw [if_neg (by decide), yearStart y (by omega), w64 (x := y + 1) (by omega) (by omega), yearStart (y + 1) (by omega)]
        simp only [Option.bind_some]
        by_cases c1 : y ≤ 999999 ∧ st y ≤ 999999
        · rw [if_pos c1]
          by_cases c2 : y + 1 ≤ 999999 ∧ st (y + 1) ≤ 999999
          · rw [if_pos c2, if_pos rfl, if_pos rfl, w64 (by omega) (by omega), hs]
            congr 1
            rw [beq_iff_eq]; omega
          · rw [if_neg c2, if_pos rfl, if_neg (by decide)]
        · rw [if_neg c1, if_neg (by decide)]
end Go.Proofs.Ytifopbfedkmgoaa.Pure
