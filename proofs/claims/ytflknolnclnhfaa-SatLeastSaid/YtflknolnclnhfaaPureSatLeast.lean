/- Plain law: for all circuits with at most 60 gates the search answers as the reference's search, its count and its error with it. Condition: the list of fixed inputs has a length that an int holds. -/
import Derived.Test.YtflknolnclnhfaaPx3
import Derived.Test.YtflknolnclnhfaaPx12
import Derived.Test.YtflknolnclnhfaaPx18
import Derived.Test.YtflknolnclnhfaaSvG
namespace Go.Proofs.Ytflknolnclnhfaa.Pure
set_option linter.unusedVariables false
set_option linter.unusedSimpArgs false
open Go.RowKit Go.Proofs.Ytflknolnclnhfaa.P Go.Proofs.Ytflknolnclnhfaa.Sv Go.Proofs.YtflknolnclnhfaaW.PrintWords Go.Proofs.YtflknolnclnhfaaW.PrintLast
theorem SatLeast : pentaglotlaw28_SatLeast.Pure := by
  intro c fixed budget _ _ wb hlen
  apply Ev.rounds
  unfold pentaglotlaw28_SatLeast.f
  refine Ev.bind awake ?_
  simp only [if_true]
  have done : ∀ x, x = true → Ev (fun k => pentaglotlaw28_SatLeast.j0 k fixed budget x c.f0 c.f1 c.f2) true := fun x hx => by
    subst hx
    exact Ev.step (f := fun _ => some true) (fun k => by simp only [pentaglotlaw28_SatLeast.j0, if_true]) (Ev.now _)
  obtain ⟨b, hb, hs⟩ := large c.f0 c.f1 c.f2
  refine Ev.bind hb ?_
  cases b with
  | true => simp only [if_true]; exact done _ rfl
  | false =>
    simp only [Bool.false_eq_true, if_false]
    have hs := hs rfl
    by_cases q1 : (fixed.length : Int) > 40
    · simp only [if_pos q1]; exact done _ rfl
    simp only [if_neg q1]
    have main : ∀ y : List Bool × Int × Int, y.1.length ≤ 1000000 → Ev (fun k => sat_Least.f k c.f0 c.f1 c.f2 fixed budget) y → Ev (fun k => pentaglotref28_Least.f k c.f0 c.f1 c.f2 fixed budget) y → Ev (fun k => pentaglotlaw28_SatLeast.j0 k fixed budget false c.f0 c.f1 c.f2) true := by
      intro y hy h1 h2
      have hsame := rsame y.1 y.1 hy
      rw [beq_self_eq_true] at hsame
      refine Ev.step (fun k => by simp only [pentaglotlaw28_SatLeast.j0, Bool.false_eq_true, if_false]; rfl) (Ev.bind h1 (Ev.bind h2 (Ev.bind hsame ?_)))
      simp only [if_true, beq_self_eq_true]
      exact Ev.now _
    have base : Ev (fun k => pentaglotlaw28_SatLeast.j0 k fixed budget false c.f0 c.f1 c.f2) true := by
      by_cases hok : okP c.f0 c.f1 c.f2 fixed = true ∧ 1 ≤ budget ∧ budget ≤ 1048576
      case neg =>
        have hno : okP c.f0 c.f1 c.f2 fixed = false ∨ budget < 1 ∨ budget > 1048576 := by
          by_cases h : okP c.f0 c.f1 c.f2 fixed = true
          · right
            rcases Int.lt_or_le budget 1 with h1 | h1
            · exact .inl h1
            · rcases Int.lt_or_le 1048576 budget with h2 | h2
              · exact .inr h2
              · exact absurd ⟨h, h1, h2⟩ hok
          · exact .inl (by simpa using h)
        exact main _ (by simp) (least_no c.f0 c.f1 c.f2 hs fixed hlen budget hno) (rleast_no c.f0 c.f1 c.f2 hs fixed hlen budget hno)
      obtain ⟨hp, h1, h2⟩ := hok
      obtain ⟨ht, hc, hl⟩ := okP_iff.1 hp
      obtain ⟨r, n, hr⟩ := srch_ex hc hs _ fixed (Nat.le_refl _) ht hl
      refine main (leastR budget r n) ?_ (least_of hs hp h1 h2 hr) (rleast_of hs hp h1 h2 hr)
      unfold leastR
      by_cases hq : (n : Int) ≤ budget
      · rw [if_pos hq]
        cases r with
        | none => simp
        | some b =>
          obtain ⟨_, hb, _⟩ := hr.found hc ht hl b rfl
          simp
          omega
      · rw [if_neg hq]; simp
    by_cases q2 : c.f0 > 10
    · simp only [if_pos q2]
      by_cases q3 : budget > 2000
      · simp only [if_pos q3]
        by_cases q4 : budget ≤ 1048576
        · rw [decide_eq_true q4]; exact done _ rfl
        · rw [decide_eq_false q4]; exact base
      · simp only [if_neg q3]; exact base
    · simp only [if_neg q2]; exact base
end Go.Proofs.Ytflknolnclnhfaa.Pure
