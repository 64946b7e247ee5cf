/- Plain law: for all circuits with at most 60 gates and 12 inputs the budget of Least is exact: its result needs as many partial assignments as the count says, and a greater budget does not change it. Condition: the list of fixed inputs has a length that an int holds. -/
import Derived.Test.YtflknolnclnhfaaPx3
import Derived.Test.YtflknolnclnhfaaPx13
import Derived.Test.YtflknolnclnhfaaSvE
namespace Go.Proofs.Ytflknolnclnhfaa.Pure
set_option linter.unusedVariables false
set_option linter.unusedSimpArgs false
open Go.RowKit Go.Proofs.Ytflknolnclnhfaa.P Go.Proofs.Ytflknolnclnhfaa.Sv Go.Proofs.YtflknolnclnhfaaW.PrintWords Go.Proofs.YtflknolnclnhfaaW.PrintLast
theorem leastR_some (n : Nat) (b : List Int) : leastR (n : Int) (some b) n = (b.map (fun b => b == 1), (n : Int), 0) := by unfold leastR; rw [if_pos (Int.le_refl _)]
theorem leastR_none (n : Nat) : leastR (n : Int) none n = ([], 0, 4) := by unfold leastR; rw [if_pos (Int.le_refl _)]
theorem SatBudget : pentaglotlaw28_SatBudget.Pure := by
  intro c fixed budget more _ _ wb wm hlen
  apply Ev.rounds
  unfold pentaglotlaw28_SatBudget.f
  refine Ev.bind awake ?_
  simp only [if_true]
  have done : ∀ x, x = true → Ev (fun k => pentaglotlaw28_SatBudget.j0 k fixed budget more x c.f0 c.f1 c.f2) true := fun x hx => by
    subst hx
    exact Ev.step (f := fun _ => some true) (fun k => by simp only [pentaglotlaw28_SatBudget.j0, if_true]) (Ev.now _)
  have done1 : ∀ a n e, Ev (fun k => pentaglotlaw28_SatBudget.j1 k fixed budget more a n e true c.f0 c.f1 c.f2) true := fun a n e =>
    Ev.step (f := fun _ => some true) (fun k => by simp only [pentaglotlaw28_SatBudget.j1, if_true]) (Ev.now _)
  obtain ⟨b, hb, hs⟩ := large c.f0 c.f1 c.f2
  refine Ev.bind hb ?_
  cases b with
  | true => simp only [if_true]; exact done _ rfl
  | false =>
    simp only [Bool.false_eq_true, if_false]
    have hs := hs rfl
    by_cases q1 : c.f0 > 12
    · simp only [if_pos q1]; exact done _ rfl
    by_cases q2 : budget > 5000
    · simp only [if_neg q1, if_pos q2]; exact done _ rfl
    by_cases q3 : more < 0
    · simp only [if_neg q1, if_neg q2, if_pos q3]; exact done _ rfl
    by_cases q4 : more > 5000
    · simp only [if_neg q1, if_neg q2, if_neg q3]; exact done _ (decide_eq_true q4)
    simp only [if_neg q1, if_neg q2, if_neg q3, decide_eq_false q4]
    have wb' : -9223372036854775808 ≤ budget := (wf64 wb).1
    by_cases hok : okP c.f0 c.f1 c.f2 fixed = true ∧ 1 ≤ budget
    case neg =>
      refine Ev.step (fun k => by simp only [pentaglotlaw28_SatBudget.j0, Bool.false_eq_true, if_false]; rfl) (Ev.bind (least_no c.f0 c.f1 c.f2 hs fixed hlen budget ?_) ?_)
      · by_cases h : okP c.f0 c.f1 c.f2 fixed = true
        · exact .inr (.inl (by
            rcases Int.lt_or_le budget 1 with h1 | h1
            · exact h1
            · exact absurd ⟨h, h1⟩ hok))
        · exact .inl (by simpa using h)
      · simp only [if_true]
        exact done1 _ _ _
    obtain ⟨hp, h1⟩ := hok
    obtain ⟨ht, hc, hl⟩ := okP_iff.1 hp
    obtain ⟨r, n, hr⟩ := srch_ex hc hs _ fixed (Nat.le_refl _) ht hl
    have hn := hr.pos
    refine Ev.step (fun k => by simp only [pentaglotlaw28_SatBudget.j0, Bool.false_eq_true, if_false]; rfl) (Ev.bind (least_of hs hp h1 (by omega) hr) ?_)
    by_cases hq : (n : Int) ≤ budget
    case neg =>
      unfold leastR
      rw [if_neg hq]
      simp only [if_neg (by decide : ¬ (7 : Int) = 1), beq_self_eq_true]
      exact done1 _ _ _
    have e1 : leastR budget r n = leastR (n : Int) r n := by unfold leastR; rw [if_pos hq, if_pos (Int.le_refl _)]
    have e2 : leastR (wrap64 (budget + more)) r n = leastR (n : Int) r n := by rw [w64 (by omega) (by omega)]; unfold leastR; rw [if_pos (by omega), if_pos (Int.le_refl _)]
    have m2 : Ev (fun k => sat_Least.f k c.f0 c.f1 c.f2 fixed (wrap64 (budget + more))) (leastR (n : Int) r n) := by
      rw [← e2, w64 (by omega) (by omega)]
      exact least_of hs hp (by omega) (by omega) hr
    rw [e1]
    have hle : (leastR (n : Int) r n).1.length ≤ 1000000 := by
      unfold leastR
      rw [if_pos (Int.le_refl _)]
      cases r with
      | none => simp
      | some b =>
        obtain ⟨_, hb, _⟩ := hr.found hc ht hl b rfl
        simp
        omega
    have hsame := rsame (leastR (n : Int) r n).1 (leastR (n : Int) r n).1 hle
    rw [beq_self_eq_true] at hsame
    have fin : ∀ x, x = false → Ev (fun k => pentaglotlaw28_SatBudget.j1 k fixed budget more (leastR (n : Int) r n).1 (leastR (n : Int) r n).2.1 (leastR (n : Int) r n).2.2 x c.f0 c.f1 c.f2) true := by
      rintro x rfl
      refine Ev.step (fun k => by simp only [pentaglotlaw28_SatBudget.j1, Bool.false_eq_true, if_false]; rfl) (Ev.bind m2 ?_)
      simp only [if_true]
      refine Ev.bind hsame ?_
      cases r with
      | none =>
        rw [leastR_none n]
        exact Ev.step (f := fun _ => some true) (fun k => by simp only [pentaglotlaw28_SatBudget.j2, Bool.not_true, Bool.false_eq_true, if_false]; rfl) (Ev.now _)
      | some b =>
        have hz := leastR_some n b
        rw [hz] at hsame ⊢
        have m3 : Ev (fun k => sat_Least.f k c.f0 c.f1 c.f2 fixed (n : Int)) (b.map (fun b => b == 1), (n : Int), 0) := by
          have := least_of hs hp (by omega : (1 : Int) ≤ (n : Int)) (by omega) hr
          rwa [hz] at this
        refine Ev.step (fun k => by simp only [pentaglotlaw28_SatBudget.j2, Bool.not_true, Bool.false_eq_true, if_false, if_true]; rfl) (Ev.bind m3 ?_)
        rw [w64 (by omega) (by omega)]
        by_cases hn1 : n = 1
        · subst hn1
          refine Ev.bind (least_no c.f0 c.f1 c.f2 hs fixed hlen _ (.inr (.inl (by decide)))) ?_
          simp only [if_true]
          refine Ev.bind hsame ?_
          simp only [if_true]
          exact Ev.now _
        · refine Ev.bind (least_of hs hp (by omega : (1 : Int) ≤ (n : Int) - 1) (by omega) hr) ?_
          have hz2 : leastR ((n : Int) - 1) (some b) n = ([], 0, 7) := by unfold leastR; rw [if_neg (by omega)]
          rw [hz2]
          simp only [if_true]
          refine Ev.bind hsame ?_
          simp only [if_true, if_neg (by omega : ¬ (n : Int) = 1), if_pos (by omega : (n : Int) > 1), beq_self_eq_true]
          exact Ev.now _
    have hz : (leastR (n : Int) r n).2.2 = 0 ∨ (leastR (n : Int) r n).2.2 = 4 := by
      unfold leastR
      rw [if_pos (Int.le_refl _)]
      cases r <;> simp
    simp only [if_neg (by omega : ¬ (leastR (n : Int) r n).2.2 = 1)]
    exact fin _ (by rw [beq_eq_false_iff_ne]; omega)
end Go.Proofs.Ytflknolnclnhfaa.Pure
