/- Plain law: for every two records, Subsumes(a, b) holds if and only if Unify(a, b) is b; it is reflexive and antisymmetric, and the empty record is below all. Condition: the sizes of the arguments sum to at most 1048576. -/
import Derived.Test.YtnfdhfclibdbmaaFtS
import Derived.Test.YtnfdhfclibdbmaaPx6
namespace Go.Proofs.Ytnfdhfclibdbmaa.Pure
set_option linter.unusedVariables false
set_option linter.unusedSimpArgs false
open Go.RowKit Go.Proofs.Ytnfdhfclibdbmaa.P Go.Proofs.Ytnfdhfclibdbmaa.Ft Go.Proofs.YtnfdhfclibdbmaaW.PrintWords Go.Proofs.YtnfdhfclibdbmaaW.PrintLast
theorem FeatureSubsumes : pentaglotlaw02_FeatureSubsumes.Pure := by
  intro a b _ _ hs
  have la := len_bulk a
  have lb := len_bulk b
  apply Ev.rounds
  unfold pentaglotlaw02_FeatureSubsumes.f
  obtain ⟨r1, h1, m1⟩ := record a (by omega)
  obtain ⟨r2, h2, m2⟩ := record b (by omega)
  refine Ev.bind awake ?_
  simp only [if_true]
  refine Ev.bind h1 ?_
  cases r1 with
  | false =>
    simp only [Bool.false_eq_true, if_false]
    refine Ev.step (f := fun _ => some true) (fun z => ?_) (Ev.now _)
    simp only [pentaglotlaw02_FeatureSubsumes.j0, if_true]
  | true =>
    simp only [if_true]
    refine Ev.bind h2 ?_
    cases r2 with
    | false =>
      refine Ev.step (f := fun _ => some true) (fun z => ?_) (Ev.now _)
      simp only [pentaglotlaw02_FeatureSubsumes.j0, Bool.not_false, if_true]
    | true =>
      have ha := m1.1 rfl
      have hb := m2.1 rfl
      obtain ⟨u, hu, mu⟩ := unify a b (by omega) ha hb
      obtain ⟨v, hv, mv⟩ := subsumes a b (by omega) ha hb
      obtain ⟨w, hw, mw⟩ := subsumes b a (by omega) hb ha
      obtain ⟨p, hp, mp⟩ := subsumes a a (by omega) ha ha
      obtain ⟨q, hq, mq⟩ := subsumes [] a (by simp; omega) trivial ha
      have ep : p = true := mp.2 (sub_refl _)
      have eq : q = true := mq.2 (sub_nil _)
      subst ep eq
      have s2 := same a b (by omega)
      have eab : decide (ims a = ims b) = (v && w) := by
        rw [Bool.eq_iff_iff, decide_eq_true_eq, Bool.and_eq_true, mv, mw]
        exact ⟨fun h => by rw [h]; exact ⟨sub_refl _, sub_refl _⟩, fun h => sub_antisymm ha hb h.1 h.2⟩
      rw [eab] at s2
      refine Ev.step (fun z => by simp only [pentaglotlaw02_FeatureSubsumes.j0, Bool.not_true, Bool.false_eq_true, if_false]; rfl) (Ev.bind hu (Ev.bind hv (Ev.bind hw ?_)))
      rcases mu with ⟨f, m, rfl, um, l⟩ | ⟨f, rfl⟩
      · simp only [List.nil_append, if_true]
        have s1 := same m b (by omega)
        have e1 : decide (ims m = ims b) = v := by
          rw [Bool.eq_iff_iff, decide_eq_true_eq, mv, sub_iff_isU hb]
          exact ⟨fun h => ⟨f, h ▸ um⟩, fun h => isU_unique um h.2⟩
        rw [e1] at s1
        refine Ev.bind s1 ?_
        simp only [beq_self_eq_true, if_true]
        refine Ev.bind hp ?_
        simp only [if_true]
        refine Ev.bind hq ?_
        simp only [if_true]
        cases v with
        | false =>
          simp only [Bool.false_eq_true, if_false]
          refine Ev.bind s2 ?_
          simp only [Bool.false_and, beq_self_eq_true]
          exact Ev.now _
        | true =>
          simp only [if_true]
          refine Ev.bind s2 ?_
          simp only [Bool.true_and, beq_self_eq_true]
          exact Ev.now _
      · simp only [Bool.false_eq_true, if_false]
        have e1 : v = false := by
          cases v with
          | false => rfl
          | true => exact absurd (((sub_iff_isU hb).1 (mv.1 rfl)).1) f
        subst e1
        simp only [beq_self_eq_true, if_true]
        refine Ev.bind hp ?_
        simp only [if_true]
        refine Ev.bind hq ?_
        simp only [if_true, Bool.false_eq_true, if_false]
        refine Ev.bind s2 ?_
        simp only [Bool.false_and, beq_self_eq_true]
        exact Ev.now _
end Go.Proofs.Ytnfdhfclibdbmaa.Pure
