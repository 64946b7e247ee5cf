/- Plain law: for all circuits with at most 60 gates and 8 inputs the result of the search is the first of the satisfying assignments that agrees with the fixed inputs. Condition: the list of fixed inputs has a length that an int holds. -/
import Derived.Test.YtflknolnclnhfaaPx16
import Derived.Test.YtflknolnclnhfaaSvH
namespace Go.Proofs.Ytflknolnclnhfaa.Pure
set_option linter.unusedVariables false
set_option linter.unusedSimpArgs false
open Go.RowKit Go.Proofs.Ytflknolnclnhfaa.P Go.Proofs.Ytflknolnclnhfaa.Sv Go.Proofs.YtflknolnclnhfaaW.PrintWords Go.Proofs.YtflknolnclnhfaaW.PrintLast
theorem SatFirst : pentaglotlaw28_SatFirst.Pure := by
  intro c fixed budget _ _ wb hlen
  apply Ev.rounds
  unfold pentaglotlaw28_SatFirst.f
  refine Ev.when awake ?_
  obtain ⟨b, hb, hs⟩ := large c.f0 c.f1 c.f2
  refine Ev.bind hb ?_
  cases b with
  | true => simp only [if_true]; exact Ev.now _
  | false =>
    have hs := hs rfl
    simp only [Bool.false_eq_true, if_false]
    by_cases h8 : 8 < c.f0
    · simp only [if_pos h8]; exact Ev.now _
    by_cases h9 : 8 < (fixed.length : Int)
    · simp only [if_neg h8, if_pos h9]; exact Ev.now _
    simp only [if_neg h8, if_neg h9]
    by_cases hok : okP c.f0 c.f1 c.f2 fixed = true ∧ 1 ≤ budget ∧ budget ≤ 1048576
    case neg =>
      have hno : okP c.f0 c.f1 c.f2 fixed = false ∨ budget < 1 ∨ budget > 1048576 := by
        by_cases h : okP c.f0 c.f1 c.f2 fixed = true
        · right
          rcases Int.lt_or_le budget 1 with h1 | h1
          · exact .inl h1
          · rcases Int.lt_or_le 1048576 budget with h2 | h2
            · exact .inr h2
            · exact absurd ⟨h, h1, h2⟩ hok
        · exact .inl (by simpa using h)
      refine Ev.bind (least_no c.f0 c.f1 c.f2 hs fixed hlen budget hno) ?_
      simp only [true_or, if_true, and_self]
      exact Ev.now _
    obtain ⟨hp, h1, h2⟩ := hok
    obtain ⟨ht, hc, hl⟩ := okP_iff.1 hp
    obtain ⟨r, n, hr⟩ := srch_ex hc hs _ fixed (Nat.le_refl _) ht hl
    have hf := least_first hc (by omega) ht hl hr
    have hn := hr.pos
    refine Ev.bind (least_of hs hp h1 h2 hr) ?_
    unfold leastR
    by_cases hq : (n : Int) ≤ budget
    · rw [if_pos hq]
      cases r with
      | none =>
        simp only [if_neg (by decide : ¬ ((4 : Int) = 1 ∨ (4 : Int) = 7))]
        refine Ev.bind (seq_val hs) (Ev.bind hf ?_)
        simp only [Option.map_none, and_self, if_true]
        exact Ev.now _
      | some b =>
        simp only [if_neg (by decide : ¬ ((0 : Int) = 1 ∨ (0 : Int) = 7))]
        refine Ev.bind (seq_val hs) (Ev.bind hf ?_)
        obtain ⟨_, hbl, _⟩ := hr.found hc ht hl b rfl
        obtain ⟨K, hK⟩ := rsame (toB b) (toB b) (by rw [toB_length]; omega)
        refine ⟨K, fun k hk => ?_⟩
        have := hK k hk
        rw [beq_self_eq_true] at this
        simp only [Option.map_some]
        exact if_pos ⟨trivial, by omega, hq, this⟩
    · rw [if_neg hq]
      simp only [or_true, if_true, and_self]
      exact Ev.now _
end Go.Proofs.Ytflknolnclnhfaa.Pure
