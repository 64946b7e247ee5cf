/- Plain law: for all circuits with at most 60 gates (each with at most 50 kids) and partial assignments of at most 40 inputs, valid or not, Three answers the specified output, or its error. No condition beyond the law's own. -/
import Derived.Test.YtflknolnclnhfaaPx16
import Derived.Test.YtflknolnclnhfaaSvB
namespace Go.Proofs.Ytflknolnclnhfaa.Pure
set_option linter.unusedVariables false
open Go.RowKit Go.Proofs.Ytflknolnclnhfaa.P Go.Proofs.Ytflknolnclnhfaa.Sv Go.Proofs.YtflknolnclnhfaaW.PrintWords Go.Proofs.YtflknolnclnhfaaW.PrintLast
theorem SatThree : pentaglotlaw28_SatThree.Pure := by
  intro c bits _ _ _
  apply Ev.rounds
  unfold pentaglotlaw28_SatThree.f
  refine Ev.bind awake ?_
  simp only [if_true]
  have done : ∀ x, x = true → Ev (fun k => pentaglotlaw28_SatThree.j0 k bits x c.f0 c.f1 c.f2) true := fun x hx => by
    subst hx
    exact Ev.step (f := fun _ => some true) (fun k => by simp only [pentaglotlaw28_SatThree.j0, if_true]) (Ev.now _)
  obtain ⟨b, hb, hs⟩ := large c.f0 c.f1 c.f2
  refine Ev.bind hb ?_
  cases b with
  | true => simp only [if_true]; exact done _ rfl
  | false =>
    simp only [Bool.false_eq_true, if_false]
    have hs := hs rfl
    by_cases hl : (bits.length : Int) > 40
    · exact done _ (decide_eq_true hl)
    · rw [decide_eq_false hl]
      refine Ev.step (fun k => by simp only [pentaglotlaw28_SatThree.j0, Bool.false_eq_true, if_false]; rfl) (Ev.bind (three c.f0 c.f1 c.f2 hs bits (by omega)) (Ev.bind (rpartial c.f0 c.f1 c.f2 hs bits (by omega)) ?_))
      cases h : okP c.f0 c.f1 c.f2 bits with
      | false => simp; exact Ev.now _
      | true =>
        obtain ⟨h1, h2, h3⟩ := okP_iff.1 h
        simp only [if_true]
        refine Ev.bind (rthree hs h2 h3 h1) ?_
        simp only [beq_self_eq_true]
        exact Ev.now _
end Go.Proofs.Ytflknolnclnhfaa.Pure
