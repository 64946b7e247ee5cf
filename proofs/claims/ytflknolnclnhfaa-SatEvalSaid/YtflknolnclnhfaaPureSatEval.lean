/- Plain law: for all circuits with at most 60 gates (each with at most 50 kids) and assignments of at most 40 inputs, valid or not, Check and Eval answer the specified results, or the error. No condition beyond the law's own. -/
import Derived.Test.YtflknolnclnhfaaPx14
import Derived.Test.YtflknolnclnhfaaSvC
namespace Go.Proofs.Ytflknolnclnhfaa.Pure
set_option linter.unusedVariables false
open Go.RowKit Go.Proofs.Ytflknolnclnhfaa.P Go.Proofs.Ytflknolnclnhfaa.Sv Go.Proofs.YtflknolnclnhfaaW.PrintWords Go.Proofs.YtflknolnclnhfaaW.PrintLast
theorem SatEval : pentaglotlaw28_SatEval.Pure := by
  intro c bits _ _ _
  apply Ev.rounds
  unfold pentaglotlaw28_SatEval.f
  refine Ev.bind awake ?_
  simp only [if_true]
  have done : ∀ x, x = true → Ev (fun k => pentaglotlaw28_SatEval.j0 k bits x c.f0 c.f1 c.f2) true := fun x hx => by
    subst hx
    exact Ev.step (f := fun _ => some true) (fun k => by simp only [pentaglotlaw28_SatEval.j0, if_true]) (Ev.now _)
  obtain ⟨b, hb, hs⟩ := large c.f0 c.f1 c.f2
  refine Ev.bind hb ?_
  cases b with
  | true => simp only [if_true]; exact done _ rfl
  | false =>
    simp only [Bool.false_eq_true, if_false]
    have hs := hs rfl
    by_cases hl : (bits.length : Int) > 40
    · exact done _ (decide_eq_true hl)
    · rw [decide_eq_false hl]
      refine Ev.step (fun k => by simp only [pentaglotlaw28_SatEval.j0, Bool.false_eq_true, if_false]; rfl) (Ev.bind (eval c.f0 c.f1 c.f2 hs bits (by omega)) (Ev.bind (valid c.f0 c.f1 c.f2 hs) (Ev.bind (check c.f0 c.f1 c.f2 hs) ?_)))
      simp only [bne_self_eq_false, Bool.false_eq_true, if_false]
      have key : okP c.f0 c.f1 c.f2 (bits.map b2i) = true ↔ okC c.f0 c.f1 c.f2 = true ∧ (bits.length : Int) = c.f0 := by
        rw [okP_iff, List.length_map]
        exact ⟨fun h => h.2, fun h => ⟨b2i_tri bits, h⟩⟩
      cases h : okC c.f0 c.f1 c.f2 with
      | false =>
        rw [if_neg (by rw [key, h]; simp)]
        simp
        exact Ev.now _
      | true =>
        simp only [if_true]
        by_cases hn : (bits.length : Int) = c.f0
        · rw [if_pos (key.2 ⟨h, hn⟩)]
          simp only [if_pos hn, if_true]
          refine Ev.bind (reval hs h hn) ?_
          rw [out3_b, b2i_one, beq_self_eq_true]
          exact Ev.now _
        · rw [if_neg (fun e => hn (key.1 e).2)]
          simp only [if_neg hn, if_true]
          exact Ev.now _
end Go.Proofs.Ytflknolnclnhfaa.Pure
