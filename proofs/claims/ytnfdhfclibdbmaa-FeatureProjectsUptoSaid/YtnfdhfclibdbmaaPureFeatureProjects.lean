/- Plain law: Project and Without return the specified parts of a record, whose unification is the record. Condition: the sizes of the arguments sum to at most 1048576. -/
import Derived.Test.YtnfdhfclibdbmaaFtM
namespace Go.Proofs.Ytnfdhfclibdbmaa.Pure
set_option linter.unusedVariables false
set_option linter.unusedSimpArgs false
open Go.RowKit Go.Proofs.Ytnfdhfclibdbmaa.P Go.Proofs.Ytnfdhfclibdbmaa.Ft Go.Proofs.YtnfdhfclibdbmaaW.PrintWords Go.Proofs.YtnfdhfclibdbmaaW.PrintLast
theorem FeatureProjects : pentaglotlaw02_FeatureProjects.Pure := by
  intro r ns _ _ hs
  have lr := len_bulk r
  have ln := len_bulkB ns
  apply Ev.rounds
  unfold pentaglotlaw02_FeatureProjects.f
  obtain ⟨r1, h1, m1⟩ := record r (by omega)
  refine Ev.bind awake ?_
  simp only [if_true]
  refine Ev.bind h1 ?_
  cases r1 with
  | false => simp only [Bool.false_eq_true, if_false]; exact Ev.now _
  | true =>
  simp only [if_true]
  have hr := m1.1 rfl
  have f1 := project r ns (by omega) (by omega)
  have f2 := without r ns (by omega) (by omega)
  have f3 := select r ns true (by omega) (by omega)
  have f4 := select r ns false (by omega) (by omega)
  have e1 : (fun x : Key × Key => inl ns x.1 == true) = (fun x => inl ns x.1) := by funext x; simp
  have e2 : (fun x : Key × Key => inl ns x.1 == false) = (fun x => !inl ns x.1) := by funext x; simp
  rw [e1] at f3
  rw [e2] at f4
  have p1 := pick_length (fun x => inl ns x.1) r
  have p2 := pick_length (fun x => !inl ns x.1) r
  have a1 : Asc (ims (pick (fun x => inl ns x.1) r)) := by rw [ims_pick]; exact asc_filter hr
  have a2 : Asc (ims (pick (fun x => !inl ns x.1) r)) := by rw [ims_pick]; exact asc_filter hr
  have g1 : ∀ k, get (ims (pick (fun x => inl ns x.1) r)) k = if inl ns k = true then get (ims r) k else none := fun k => by
    rw [ims_pick, get_filter hr]
    cases h : get (ims r) k <;> cases h' : inl ns k <;> simp [h']
  have g2 : ∀ k, get (ims (pick (fun x => !inl ns x.1) r)) k = if inl ns k = true then none else get (ims r) k := fun k => by
    rw [ims_pick, get_filter hr]
    cases h : get (ims r) k <;> cases h' : inl ns k <;> simp [h']
  generalize pick (fun x => inl ns x.1) r = p at f1 f3 p1 a1 g1
  generalize pick (fun x => !inl ns x.1) r = q at f2 f4 p2 a2 g2
  obtain ⟨u, hu, mu⟩ := unify p q (by omega) a1 a2
  have s1 := same p p (by omega)
  have s2 := same q q (by omega)
  rw [decide_eq_true rfl] at s1 s2
  have fit : Fit (ims p) (ims q) := fun k v w h1 h2 => by
    rw [g1] at h1
    rw [g2] at h2
    by_cases e : inl ns k = true
    · rw [if_pos e] at h2; cases h2
    · rw [if_neg e] at h1; cases h1
  refine Ev.bind f1 (Ev.bind f2 (Ev.bind hu (Ev.bind f3 (Ev.bind s1 ?_))))
  simp only [if_true]
  refine Ev.bind f4 (Ev.bind s2 ?_)
  simp only [if_true]
  rcases mu with ⟨_, m, rfl, um, l⟩ | ⟨f, _⟩
  · have : ims ([] ++ m) = ims r := by
      refine asc_ext um.1 hr (fun k => ?_)
      rw [List.nil_append, um.2, g1, g2]
      by_cases e : inl ns k = true
      · rw [if_pos e, if_pos e]; simp
      · rw [if_neg e, if_neg e]; rfl
    have s3 := same ([] ++ m) r (by simp; omega)
    rw [decide_eq_true this] at s3
    simp only [if_true]
    exact Ev.bind s3 (Ev.now _)
  · exact absurd fit f
end Go.Proofs.Ytnfdhfclibdbmaa.Pure
