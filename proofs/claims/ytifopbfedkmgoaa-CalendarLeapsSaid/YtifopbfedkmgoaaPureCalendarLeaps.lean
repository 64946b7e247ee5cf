/- Plain law: of 128 consecutive years exactly 31 are leap years. No condition: for every input. -/
import Derived.Test.YtifopbfedkmgoaaPx3
import Derived.Test.YtifopbfedkmgoaaCal
namespace Go.Proofs.Ytifopbfedkmgoaa.Pure
set_option linter.unusedVariables false
set_option linter.unusedSimpArgs false
open Go.RowKit Go.Proofs.Ytifopbfedkmgoaa.P Go.Proofs.Ytifopbfedkmgoaa.Cal Go.Proofs.YtifopbfedkmgoaaW.PrintWords Go.Proofs.YtifopbfedkmgoaaW.PrintLast
theorem count_loop (y : Int) (h0 : 0 ≤ y) (h1 : y ≤ 1073741824) (n : Nat) : ∀ (i c : Int), 0 ≤ i → i ≤ 128 → (128 - i).toNat = n → c = st (y + i) - st y - 365 * i → 0 ≤ c → c ≤ i →
    Ev (fun k => pentaglotlaw17_CalendarLeaps.l0 k y c i) true := by
  induction n with
  | zero =>
    intro i c h2 h3 hn hc hc0 hc1
    obtain rfl : i = 128 := by omega
    refine Ev.step (f := fun _ => some true) (fun k => ?_) (Ev.now _)
    simp only [pentaglotlaw17_CalendarLeaps.l0]
    rw [if_neg (by omega)]
    congr 1
    rw [beq_iff_eq]
    unfold st at hc
    omega
  | succ n ih =>
    intro i c h2 h3 hn hc hc0 hc1
    have hs := st_succ (y + i) (by omega)
    rw [show y + i + 1 = y + (i + 1) by omega] at hs
    by_cases hl : lp (y + i) = true
    · have hy : yd (y + i) = 366 := by unfold yd; rw [if_pos hl]
      have := ih (i + 1) (c + 1) (by omega) (by omega) (by omega) (by omega) (by omega) (by omega)
      refine Ev.step (f := fun k => pentaglotlaw17_CalendarLeaps.l0 k y (c + 1) (i + 1)) (fun k => ?_) this
      simp only [pentaglotlaw17_CalendarLeaps.l0]
      rw [if_pos (by omega), w64 (x := y + i) (by omega) (by omega), leap]
      simp only [Option.bind_some]
      rw [if_pos hl, w64 (x := c + 1) (by omega) (by omega), w64 (x := i + 1) (by omega) (by omega)]
    · have hy : yd (y + i) = 365 := by unfold yd; rw [if_neg hl]
      have := ih (i + 1) c (by omega) (by omega) (by omega) (by omega) (by omega) (by omega)
      refine Ev.step (f := fun k => pentaglotlaw17_CalendarLeaps.l0 k y c (i + 1)) (fun k => ?_) this
      simp only [pentaglotlaw17_CalendarLeaps.l0]
      rw [if_pos (by omega), w64 (x := y + i) (by omega) (by omega), leap]
      simp only [Option.bind_some]
      rw [if_neg hl, w64 (x := i + 1) (by omega) (by omega)]
theorem CalendarLeaps : pentaglotlaw17_CalendarLeaps.Pure := by
  intro y _
  apply Ev.rounds
  refine Ev.bind (f := fun k t => if t = true then (if y < 0 then (pentaglotlaw17_CalendarLeaps.j0 k y true) else (pentaglotlaw17_CalendarLeaps.j0 k y (decide (y > 1073741824)))) else (pentaglotlaw17_CalendarLeaps.j0 k y true)) awake ?_
  simp only [if_true]
  have jt : Ev (fun k => pentaglotlaw17_CalendarLeaps.j0 k y true) true := by
    refine Ev.step (f := fun k => (pentaglotlaw17_awake.f k).bind fun t => some t) (fun k => rfl) ?_
    exact Ev.bind (f := fun _ t => some t) awake (Ev.now _)
  by_cases h0 : y < 0
  · simp only [h0, if_true]; exact jt
  · simp only [h0, if_false]
    by_cases h1 : y > 1073741824
    · simp only [h1, decide_true]; exact jt
    · simp only [h1, decide_false]
      refine Ev.step (f := fun k => pentaglotlaw17_CalendarLeaps.l0 k y 0 0) (fun k => rfl) ?_
      exact count_loop y (by omega) (by omega) 128 0 0 (by omega) (by omega) (by omega) (by rw [Int.add_zero]; omega) (by omega) (by omega)
end Go.Proofs.Ytifopbfedkmgoaa.Pure
