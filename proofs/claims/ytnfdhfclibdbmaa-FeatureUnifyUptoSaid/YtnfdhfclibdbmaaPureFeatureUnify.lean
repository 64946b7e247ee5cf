/- Plain law: for every two records, Unify returns the reference's union or false, in both orders. Condition: the sizes of the arguments sum to at most 1048576. -/
import Derived.Test.YtnfdhfclibdbmaaFtS
namespace Go.Proofs.Ytnfdhfclibdbmaa.Pure
set_option linter.unusedVariables false
set_option linter.unusedSimpArgs false
open Go.RowKit Go.Proofs.Ytnfdhfclibdbmaa.P Go.Proofs.Ytnfdhfclibdbmaa.Ft Go.Proofs.YtnfdhfclibdbmaaW.PrintWords Go.Proofs.YtnfdhfclibdbmaaW.PrintLast
theorem FeatureUnify : pentaglotlaw02_FeatureUnify.Pure := by
  intro a b _ _ hs
  have la := len_bulk a
  have lb := len_bulk b
  apply Ev.rounds
  unfold pentaglotlaw02_FeatureUnify.f
  obtain ⟨r1, h1, m1⟩ := record a (by omega)
  obtain ⟨r2, h2, m2⟩ := record b (by omega)
  refine Ev.bind awake ?_
  simp only [if_true]
  refine Ev.bind h1 ?_
  cases r1 with
  | false =>
    simp only [Bool.false_eq_true, if_false]
    refine Ev.step (f := fun _ => some true) (fun z => ?_) (Ev.now _)
    simp only [pentaglotlaw02_FeatureUnify.j0, if_true]
  | true =>
    simp only [if_true]
    refine Ev.bind h2 ?_
    cases r2 with
    | false =>
      refine Ev.step (f := fun _ => some true) (fun z => ?_) (Ev.now _)
      simp only [pentaglotlaw02_FeatureUnify.j0, Bool.not_false, if_true]
    | true =>
      have ha := m1.1 rfl
      have hb := m2.1 rfl
      obtain ⟨u, hu, mu⟩ := unify a b (by omega) ha hb
      obtain ⟨v, hv, mv⟩ := unify b a (by omega) hb ha
      obtain ⟨w, hw, mw⟩ := runify a b (by omega) ha hb
      refine Ev.step (fun z => by simp only [pentaglotlaw02_FeatureUnify.j0, Bool.not_true, Bool.false_eq_true, if_false]; rfl) (Ev.bind hu (Ev.bind hv (Ev.bind hw ?_)))
      have key : u.2 = w.2 ∧ v.2 = w.2 ∧ ims u.1 = ims w.1 ∧ ims v.1 = ims w.1 ∧ u.1.length ≤ 4000000000 ∧ v.1.length ≤ 4000000000 := by
        rcases mw with ⟨f1, m, rfl, um⟩ | ⟨f1, rfl⟩
        · rcases mu with ⟨f2, m2, rfl, um2, l2⟩ | ⟨f2, rfl⟩
          · rcases mv with ⟨f3, m3, rfl, um3, l3⟩ | ⟨f3, rfl⟩
            · exact ⟨rfl, rfl, isU_unique (by simpa using um2) um, isU_unique (isU_comm f2 (by simpa using um3)) um, by simp; omega, by simp; omega⟩
            · exact absurd (fit_symm f1) f3
          · exact absurd f1 f2
        · rcases mu with ⟨f2, m2, rfl, um2, l2⟩ | ⟨f2, rfl⟩
          · exact absurd f2 f1
          · rcases mv with ⟨f3, m3, rfl, um3, l3⟩ | ⟨f3, rfl⟩
            · exact absurd (fit_symm f3) f1
            · exact ⟨rfl, rfl, rfl, rfl, by simp, by simp⟩
      obtain ⟨k1, k2, k3, k4, l1, l2⟩ := key
      have s1 := same u.1 w.1 l1
      have s2 := same v.1 w.1 l2
      rw [decide_eq_true k3] at s1
      rw [decide_eq_true k4] at s2
      rw [k1, k2]
      simp only [beq_self_eq_true, if_true]
      refine Ev.bind s1 ?_
      simp only [if_true]
      exact Ev.bind s2 (Ev.now _)
end Go.Proofs.Ytnfdhfclibdbmaa.Pure
