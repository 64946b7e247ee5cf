/- Plain law: for all circuits with at most 60 gates (and at most 8 inputs, or more than 16), valid or not, Count answers the specified number, or its error, and All the specified assignments. No condition beyond the law's own. -/
import Derived.Test.YtflknolnclnhfaaPx14
import Derived.Test.YtflknolnclnhfaaSvF
namespace Go.Proofs.Ytflknolnclnhfaa.Pure
set_option linter.unusedVariables false
set_option linter.unusedSimpArgs false
open Go.RowKit Go.Proofs.Ytflknolnclnhfaa.P Go.Proofs.Ytflknolnclnhfaa.Sv Go.Proofs.YtflknolnclnhfaaW.PrintWords Go.Proofs.YtflknolnclnhfaaW.PrintLast
theorem SatCount : pentaglotlaw28_SatCount.Pure := by
  intro c _
  apply Ev.rounds
  unfold pentaglotlaw28_SatCount.f
  refine Ev.when awake ?_
  obtain ⟨b, hb, hs⟩ := large c.f0 c.f1 c.f2
  refine Ev.bind hb ?_
  cases b with
  | true => simp only [if_true]; exact Ev.now _
  | false =>
    have hs := hs rfl
    simp only [Bool.false_eq_true, if_false]
    by_cases h8 : 8 < c.f0 ∧ c.f0 ≤ 16
    · simp only [if_pos h8]; exact Ev.now _
    simp only [if_neg h8]
    refine Ev.bind (valid c.f0 c.f1 c.f2 hs) (Ev.bind (count hs) (Ev.bind (seq_val hs) ?_))
    have hl := satA_length (n0 := c.f0) (gs := c.f1) (n2 := c.f2)
    simp only [if_pos (by omega : (satA c.f0 c.f1 c.f2).length ≤ 1000000)]
    cases h : okC c.f0 c.f1 c.f2 with
    | false =>
      have e : satA c.f0 c.f1 c.f2 = [] := by unfold satA; rw [if_neg (by rw [h]; decide)]
      simp only [Bool.false_eq_true, if_false, if_true, e, and_self]
      exact Ev.now _
    | true =>
      simp only [if_true, Bool.true_eq_false, if_false]
      by_cases h16 : 16 < c.f0
      · have e : satA c.f0 c.f1 c.f2 = [] := by unfold satA; rw [if_pos h, if_pos h16]
        simp only [if_pos h16, gt_iff_lt, e, and_self, if_true]
        exact Ev.now _
      · simp only [if_neg h16, gt_iff_lt]
        refine Ev.bind (rall_val hs h (by omega)) ?_
        obtain ⟨K, hK⟩ := same_all (satA c.f0 c.f1 c.f2) (fun x hx => by have := satA_mem hx; omega)
        refine ⟨K, fun k hk => ?_⟩
        dsimp only
        rw [if_pos ⟨rfl, rfl, hK k hk⟩]
end Go.Proofs.Ytflknolnclnhfaa.Pure
