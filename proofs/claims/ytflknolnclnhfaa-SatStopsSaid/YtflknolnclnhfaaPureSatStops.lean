/- Plain law: for all circuits with at most 60 gates and 8 inputs, an iteration over the satisfying assignments may be stopped: the assignments until then are the first ones. No condition beyond the law's own. -/
import Derived.Test.YtflknolnclnhfaaPx18
import Derived.Test.YtflknolnclnhfaaSvF
namespace Go.Proofs.Ytflknolnclnhfaa.Pure
set_option linter.unusedVariables false
set_option linter.unusedSimpArgs false
open Go.RowKit Go.Proofs.Ytflknolnclnhfaa.P Go.Proofs.Ytflknolnclnhfaa.Sv Go.Proofs.YtflknolnclnhfaaW.PrintWords Go.Proofs.YtflknolnclnhfaaW.PrintLast
theorem SatStops : pentaglotlaw28_SatStops.Pure := by
  intro c n _ _
  apply Ev.rounds
  unfold pentaglotlaw28_SatStops.f
  refine Ev.when awake ?_
  obtain ⟨b, hb, hs⟩ := large c.f0 c.f1 c.f2
  refine Ev.bind hb ?_
  cases b with
  | true => simp only [if_true]; exact Ev.now _
  | false =>
    have hs := hs rfl
    simp only [Bool.false_eq_true, if_false]
    by_cases h8 : 8 < c.f0
    · simp only [if_pos h8]; exact Ev.now _
    simp only [if_neg h8]
    refine Ev.bind (seq_val hs) ?_
    have hl := satA_length (n0 := c.f0) (gs := c.f1) (n2 := c.f2)
    obtain ⟨K, hK⟩ := same_all ((satA c.f0 c.f1 c.f2).take n.toNat) (fun x hx => by have := satA_mem (List.mem_of_mem_take hx); omega)
    refine ⟨K, fun k hk => ?_⟩
    dsimp only
    rw [if_pos ⟨by omega, hK k hk⟩]
end Go.Proofs.Ytflknolnclnhfaa.Pure
