/- Plain law: the day that Next returns has the number and the name, and is at most 260 days later; asking again from that day gives the same 260 days later. No condition: for every input. -/
import Derived.Test.YtifopbfedkmgoaaCalNext

namespace Go.Proofs.Ytifopbfedkmgoaa.Pure
set_option linter.unusedVariables false
set_option linter.unusedSimpArgs false
open Go.RowKit Go.Proofs.Ytifopbfedkmgoaa.P Go.Proofs.Ytifopbfedkmgoaa.Cal Go.Proofs.YtifopbfedkmgoaaW.PrintWords Go.Proofs.YtifopbfedkmgoaaW.PrintLast
theorem cycleDate (d : Int) (h0 : 0 ≤ d) (h1 : d ≤ 999999) : calendar_CycleDate.f d = some (3, d / 260, d % 13 + 1, d % 20, false, 0) := by
  unfold calendar_CycleDate.f
  rw [check, if_neg (by omega), if_neg (by omega), td h0, tm h0, tm h0, w64 (by omega) (by omega), w64 (by omega) (by omega)]
  rfl
theorem CalendarFirst : pentaglotlaw17_CalendarFirst.Pure := by
  intro a b after _ _ _
  apply Ev.rounds
  refine Ev.bind (f := fun k r => (pentaglotlaw17_awake.f k).bind fun t => (if t = true then (pentaglotlaw17_CalendarFirst.j0 k a b after r.1 (r.2 != 0)) else (pentaglotlaw17_CalendarFirst.j0 k a b after r.1 true))) (next a b after) ?_
  refine Ev.bind (f := fun k t => (if t = true then (pentaglotlaw17_CalendarFirst.j0 k a b after (nxt a b after).1 ((nxt a b after).2 != 0)) else (pentaglotlaw17_CalendarFirst.j0 k a b after (nxt a b after).1 true))) awake ?_
  simp only [if_true]
  by_cases h : (nxt a b after).2 = 0
  · obtain ⟨g1, g2, g3, g4, g5, g6, g7, g8⟩ := nxt_ok a b after h
    rw [h, g8]
    obtain ⟨f1, f2, f3, f4⟩ := fst_has a b (after + 1) g1 g2 g3 (by omega)
    generalize fst a b (after + 1) = n at *
    refine Ev.step (f := fun k => (calendar_CycleDate.f n).bind fun bt282 => ((calendar_Next.f k a b n).bind fun bt289 => (if bt282.2.2.2.2.2 = 0 then (if bt282.2.2.1 = a then (if bt282.2.2.2.1 = b then (if n > after then (if (wrap64 (n - after)) ≤ 260 then (if bt289.2 = 0 then (if bt289.1 = (wrap64 (n + 260)) then (some true) else (if bt289.2 = 2 then (some (decide (n > 999739))) else (some false))) else (if bt289.2 = 2 then (some (decide (n > 999739))) else (some false))) else (some false)) else (some false)) else (some false)) else (some false)) else (some false)))) (fun k => rfl) ?_
    rw [cycleDate n (by omega) g7]
    simp only [Option.bind_some, if_true]
    refine Ev.bind (next a b n) ?_
    rw [if_pos (by omega), if_pos f2, if_pos (by omega), w64 (x := n - after) (by omega) (by omega), if_pos (by omega)]
    have e : nxt a b n = if n + 260 ≤ 999999 then (n + 260, 0) else (0, 2) := by
      unfold nxt
      rw [if_pos ⟨g1, g2, g3, g4, by omega⟩]
      have hfst : fst a b (n + 1) = n + 260 := by unfold fst; omega
      by_cases c : n ≥ 999999
      · rw [if_pos c, if_neg (by omega)]
      · rw [if_neg c]; unfold found; rw [hfst]
    rw [e]
    by_cases c : n + 260 ≤ 999999
    · rw [if_pos c, if_pos rfl, w64 (by omega) (by omega), if_pos rfl]; exact Ev.now _
    · rw [if_neg c, if_neg (by decide), if_pos rfl, decide_eq_true (by omega)]; exact Ev.now _
  · have h0 := nxt_err a b after h
    have hb : ((nxt a b after).2 != 0) = true := bne_iff_ne.mpr h
    rw [hb, h0]
    refine Ev.step (f := fun k => (pentaglotlaw17_awake.f k).bind fun t281 => (if t281 = true then (some ((0 : Int) == 0)) else (some false))) (fun k => rfl) ?_
    exact Ev.bind (f := fun _ t281 => (if t281 = true then (some ((0 : Int) == 0)) else (some false))) awake (Ev.now _)
end Go.Proofs.Ytifopbfedkmgoaa.Pure
