/- Plain law: CycleDay returns the day of a cycle date, or its error, and inverts CycleDate. No condition: for every input. -/
import Derived.Test.YtifopbfedkmgoaaPx10
import Derived.Test.YtifopbfedkmgoaaCalNext
namespace Go.Proofs.Ytifopbfedkmgoaa.Pure
set_option linter.unusedVariables false
set_option linter.unusedSimpArgs false
open Go.RowKit Go.Proofs.Ytifopbfedkmgoaa.P Go.Proofs.Ytifopbfedkmgoaa.Cal Go.Proofs.YtifopbfedkmgoaaW.PrintWords Go.Proofs.YtifopbfedkmgoaaW.PrintLast
theorem cycleDate (d : Int) (h0 : 0 ≤ d) (h1 : d ≤ 999999) : calendar_CycleDate.f d = some (3, d / 260, d % 13 + 1, d % 20, false, 0) := by
  unfold calendar_CycleDate.f
  rw [check, if_neg (by omega), if_neg (by omega), td h0, tm h0, tm h0, w64 (by omega) (by omega), w64 (by omega) (by omega)]
  rfl
theorem cycleDate_any (d : Int) : ∃ r, calendar_CycleDate.f d = some r := by
  unfold calendar_CycleDate.f
  rw [check]
  simp only [Option.bind_some]
  by_cases h0 : (if d < 0 then (1 : Int) else if d > 999999 then 2 else 0) = 0
  · rw [if_pos h0]; exact ⟨_, rfl⟩
  · rw [if_neg h0]; exact ⟨_, rfl⟩
/-- The day of a cycle date, or its error. -/
def cd (c r a b : Int) (leap : Bool) : Int × Int :=
  if c = 3 ∧ leap = false ∧ 0 ≤ r ∧ 1 ≤ a ∧ a ≤ 13 ∧ 0 ≤ b ∧ b < 20 then (if r > 3846 then (0, 2) else nxt a b (r * 260 - 1)) else (0, 1)
theorem cycleDay (c r a b : Int) (leap : Bool) : Ev (fun k => calendar_CycleDay.f k c r a b leap) (cd c r a b leap) := by
  have jt : Ev (fun k => calendar_CycleDay.j0 k true c r a b leap) (0, 1) := Ev.step (f := fun _ => some (0, 1)) (fun k => rfl) (Ev.now _)
  unfold cd
  by_cases h : c = 3 ∧ leap = false ∧ 0 ≤ r ∧ 1 ≤ a ∧ a ≤ 13 ∧ 0 ≤ b ∧ b < 20
  · rw [if_pos h]
    obtain ⟨rfl, rfl, h1, h2⟩ := h
    refine Ev.congr (f := fun k => calendar_CycleDay.j0 k false 3 r a b false) (fun k => ?_) ?_
    · unfold calendar_CycleDay.f
      rw [if_neg (by decide), if_neg (by omega), pair, decide_eq_true h2]
      rfl
    · by_cases hr : r > 3846
      · rw [if_pos hr]
        refine Ev.step (f := fun _ => some (0, 2)) (fun k => ?_) (Ev.now _)
        simp only [calendar_CycleDay.j0]
        rw [if_neg (by decide), if_pos hr]
      · rw [if_neg hr]
        refine Ev.step (f := fun k => (calendar_Next.f k a b (r * 260 - 1)).bind fun z => some (z.1, z.2)) (fun k => ?_) ?_
        · simp only [calendar_CycleDay.j0]
          rw [if_neg (by decide), if_neg hr, w64 (x := r * 260) (by omega) (by omega), w64 (x := r * 260 - 1) (by omega) (by omega)]
        · exact Ev.bind (f := fun _ z => some (z.1, z.2)) (next a b (r * 260 - 1)) (Ev.now _)
  · rw [if_neg h]
    refine Ev.congr (f := fun k => calendar_CycleDay.j0 k true c r a b leap) (fun k => ?_) jt
    unfold calendar_CycleDay.f
    by_cases c1 : (!(c == 3) || leap) = true
    · rw [if_pos c1]
    · rw [if_neg c1]
      by_cases c2 : r < 0
      · rw [if_pos c2]
      · rw [if_neg c2, pair]
        simp only [Option.bind_some]
        simp only [Bool.or_eq_true, Bool.not_eq_true', beq_eq_false_iff_ne, not_or] at c1
        have e1 : c = 3 := Classical.byContradiction fun hh => c1.1 hh
        have e2 : leap = false := by simpa using c1.2
        rw [decide_eq_false (fun hh => h ⟨e1, e2, by omega, hh⟩)]
        rfl
theorem rcycleDay (c r a b : Int) (leap : Bool) : Ev (fun k => pentaglotref17_CycleDay.f k c r a b leap) (cd c r a b leap) := by
  have jt : Ev (fun k => pentaglotref17_CycleDay.j0 k true c r a b leap) (0, 1) := Ev.step (f := fun _ => some (0, 1)) (fun k => rfl) (Ev.now _)
  unfold cd
  by_cases h : c = 3 ∧ leap = false ∧ 0 ≤ r ∧ 1 ≤ a ∧ a ≤ 13 ∧ 0 ≤ b ∧ b < 20
  · rw [if_pos h]
    obtain ⟨rfl, rfl, h1, h2⟩ := h
    refine Ev.congr (f := fun k => pentaglotref17_CycleDay.j0 k false 3 r a b false) (fun k => ?_) ?_
    · unfold pentaglotref17_CycleDay.f
      rw [if_pos rfl, if_neg (by decide), if_neg (by omega), if_neg (by omega), if_neg (by omega), if_neg (by omega), decide_eq_false (by omega)]
    · by_cases hr : r > 3846
      · rw [if_pos hr]
        refine Ev.step (f := fun _ => some (0, 2)) (fun k => ?_) (Ev.now _)
        simp only [pentaglotref17_CycleDay.j0]
        rw [if_neg (by decide), if_pos hr]
      · rw [if_neg hr]
        refine Ev.step (f := fun k => (pentaglotref17_Next.f k a b (r * 260 - 1)).bind fun z => some (z.1, z.2)) (fun k => ?_) ?_
        · simp only [pentaglotref17_CycleDay.j0]
          rw [if_neg (by decide), if_neg hr, w64 (x := 260 * r) (by omega) (by omega), w64 (x := 260 * r - 1) (by omega) (by omega), Int.mul_comm]
        · exact Ev.bind (f := fun _ z => some (z.1, z.2)) (rnext a b (r * 260 - 1)) (Ev.now _)
  · rw [if_neg h]
    refine Ev.congr (f := fun k => pentaglotref17_CycleDay.j0 k true c r a b leap) (fun k => ?_) jt
    unfold pentaglotref17_CycleDay.f
    by_cases c1 : c = 3
    · rw [if_pos c1]
      by_cases c2 : leap = true
      · rw [if_pos c2]
      · rw [if_neg c2]
        have e2 : leap = false := by simpa using c2
        by_cases c3 : r < 0
        · rw [if_pos c3]
        · rw [if_neg c3]
          by_cases c4 : a < 1
          · rw [if_pos c4]
          · rw [if_neg c4]
            by_cases c5 : a > 13
            · rw [if_pos c5]
            · rw [if_neg c5]
              by_cases c6 : b < 0
              · rw [if_pos c6]
              · rw [if_neg c6, decide_eq_true]
                exact Classical.byContradiction fun hh => h ⟨c1, e2, by omega, by omega, by omega, by omega, by omega⟩
    · rw [if_neg c1]
theorem CalendarRound : pentaglotlaw17_CalendarRound.Pure := by
  intro p hp
  apply Ev.rounds
  refine Ev.bind (f := fun k bt299 => (pentaglotref17_CycleDay.f k p.f0 p.f1 p.f2 p.f3 p.f4).bind fun bt301 => ((pentaglotlaw17_awake.f k).bind fun t303 => (if t303 = true then (if bt299.1 = bt301.1 then (if bt299.2 = bt301.2 then ((calendar_CycleDate.f bt299.1).bind fun bt304 => (if bt299.2 = 0 then (if (bt304.1 == p.f0 && (bt304.2.1 == p.f1 && (bt304.2.2.1 == p.f2 && (bt304.2.2.2.1 == p.f3 && (bt304.2.2.2.2.1 == p.f4))))) = true then (some (bt304.2.2.2.2.2 == 0)) else (some false)) else (some true))) else (some false)) else (some false)) else (some false)))) (cycleDay p.f0 p.f1 p.f2 p.f3 p.f4) ?_
  refine Ev.bind (rcycleDay p.f0 p.f1 p.f2 p.f3 p.f4) ?_
  refine Ev.bind awake ?_
  simp only [if_true]
  by_cases h : (cd p.f0 p.f1 p.f2 p.f3 p.f4).2 = 0
  · have key : p.f0 = 3 ∧ p.f4 = false ∧ 0 ≤ p.f1 ∧ (cd p.f0 p.f1 p.f2 p.f3 p.f4) = nxt p.f2 p.f3 (p.f1 * 260 - 1) := by
      unfold cd at h ⊢
      by_cases c1 : p.f0 = 3 ∧ p.f4 = false ∧ 0 ≤ p.f1 ∧ 1 ≤ p.f2 ∧ p.f2 ≤ 13 ∧ 0 ≤ p.f3 ∧ p.f3 < 20
      · rw [if_pos c1] at h ⊢
        by_cases c2 : p.f1 > 3846
        · rw [if_pos c2] at h; simp at h
        · rw [if_neg c2]; exact ⟨c1.1, c1.2.1, c1.2.2.1, rfl⟩
      · rw [if_neg c1] at h; simp at h
    obtain ⟨e0, e4, e1, e⟩ := key
    rw [e] at h ⊢
    obtain ⟨g1, g2, g3, g4, g5, g6, g7, g8⟩ := nxt_ok _ _ _ h
    obtain ⟨f1, f2, f3, f4⟩ := fst_has p.f2 p.f3 (p.f1 * 260 - 1 + 1) g1 g2 g3 (by omega)
    rw [g8, h]
    generalize fst p.f2 p.f3 (p.f1 * 260 - 1 + 1) = n at *
    rw [cycleDate n (by omega) g7]
    simp only [Option.bind_some, if_true]
    rw [e0, e4, f1, f2, show n / 260 = p.f1 by omega, show p.f2 - 1 + 1 = p.f2 by omega]
    simp only [beq_self_eq_true, Bool.and_self, if_true]
    exact Ev.now _
  · obtain ⟨r, hr⟩ := cycleDate_any (cd p.f0 p.f1 p.f2 p.f3 p.f4).1
    rw [hr]
    simp only [Option.bind_some]
    rw [if_neg h]
    exact Ev.now _
end Go.Proofs.Ytifopbfedkmgoaa.Pure
