/- Plain law: Unify is associative on records: both orders succeed or fail together, with the same result. Condition: the sizes of the arguments sum to at most 1048576. -/
import Derived.Test.YtnfdhfclibdbmaaFtS
import Derived.Test.YtnfdhfclibdbmaaPx6
namespace Go.Proofs.Ytnfdhfclibdbmaa.Pure
set_option linter.unusedVariables false
set_option linter.unusedSimpArgs false
open Go.RowKit Go.Proofs.Ytnfdhfclibdbmaa.P Go.Proofs.Ytnfdhfclibdbmaa.Ft Go.Proofs.YtnfdhfclibdbmaaW.PrintWords Go.Proofs.YtnfdhfclibdbmaaW.PrintLast
/-- What the two orders answer. -/
theorem assoc_plain {a b c ab bc : Rec} (h1 : IsU a b ab) (h2 : IsU b c bc) (f1 : Fit a b) (f2 : Fit b c) :
    (Fit ab c ↔ Fit a bc) ∧ (∀ m n, IsU ab c m → IsU a bc n → m = n) := by
  constructor
  · constructor
    · intro h k v w e1 e2
      rw [h2.2] at e2
      cases e : get b k with
      | some v' =>
        rw [e] at e2
        exact f1 k v w e1 (by rw [e]; exact e2)
      | none =>
        rw [e] at e2
        refine h k v w ?_ e2
        rw [h1.2, e1]; rfl
    · intro h k v w e1 e2
      rw [h1.2] at e1
      cases e : get a k with
      | some v' =>
        rw [e] at e1
        refine h k v w (by rw [e]; exact e1) ?_
        cases e' : get b k with
        | some w' => rw [h2.2, e', ← f2 k w' w e' e2]; rfl
        | none => rw [h2.2, e', e2]; rfl
      | none =>
        rw [e] at e1
        exact f2 k v w e1 e2
  · intro m n hm hn
    refine asc_ext hm.1 hn.1 (fun k => ?_)
    rw [hm.2, hn.2, h1.2, h2.2, Option.or_assoc]
theorem FeatureAssociates : pentaglotlaw02_FeatureAssociates.Pure := by
  intro a b c _ _ _ hs
  have la := len_bulk a
  have lb := len_bulk b
  have lc := len_bulk c
  apply Ev.rounds
  unfold pentaglotlaw02_FeatureAssociates.f
  obtain ⟨r1, h1, m1⟩ := record a (by omega)
  obtain ⟨r2, h2, m2⟩ := record b (by omega)
  obtain ⟨r3, h3, m3⟩ := record c (by omega)
  have out : Ev (fun z => pentaglotlaw02_FeatureAssociates.j0 z a b c true) true := by
    refine Ev.step (f := fun _ => some true) (fun z => ?_) (Ev.now _)
    simp only [pentaglotlaw02_FeatureAssociates.j0, if_true]
  refine Ev.bind awake ?_
  simp only [if_true]
  refine Ev.bind h1 ?_
  cases r1 with
  | false => simp only [Bool.false_eq_true, if_false]; exact out
  | true =>
  simp only [if_true]
  refine Ev.bind h2 ?_
  cases r2 with
  | false => simp only [Bool.false_eq_true, if_false]; exact out
  | true =>
  simp only [if_true]
  refine Ev.bind h3 ?_
  cases r3 with
  | false => exact out
  | true =>
  have ha := m1.1 rfl
  have hb := m2.1 rfl
  have hc := m3.1 rfl
  obtain ⟨u, hu, mu⟩ := unify a b (by omega) ha hb
  obtain ⟨v, hv, mv⟩ := unify b c (by omega) hb hc
  refine Ev.step (fun z => by simp only [pentaglotlaw02_FeatureAssociates.j0, Bool.not_true, Bool.false_eq_true, if_false]; rfl) (Ev.bind hu (Ev.bind hv ?_))
  rcases mu with ⟨f1, ab, rfl, u1, l1⟩ | ⟨f1, rfl⟩
  · simp only [List.nil_append, if_true]
    obtain ⟨p, hp, mp⟩ := unify ab c (by omega) u1.1 hc
    refine Ev.bind hp ?_
    rcases mv with ⟨f2, bc, rfl, u2, l2⟩ | ⟨f2, rfl⟩
    · obtain ⟨q, hq, mq⟩ := unify a bc (by omega) ha u2.1
      refine Ev.step (fun z => by simp only [pentaglotlaw02_FeatureAssociates.j1, List.nil_append, if_true]; rfl) (Ev.bind hq ?_)
      obtain ⟨hfit, huni⟩ := assoc_plain u1 u2 f1 f2
      rcases mp with ⟨f3, m, rfl, u3, l3⟩ | ⟨f3, rfl⟩
      · rcases mq with ⟨f4, n, rfl, u4, l4⟩ | ⟨f4, rfl⟩
        · have e := huni _ _ u3 u4
          have s1 := same m n (by omega)
          rw [decide_eq_true e] at s1
          obtain ⟨x, hx, mx⟩ := subsumes a m (by omega) ha u3.1
          obtain ⟨y, hy, my⟩ := subsumes b m (by omega) hb u3.1
          obtain ⟨z, hz, mz⟩ := subsumes c m (by omega) hc u3.1
          have ex : x = true := mx.2 (sub_trans (isU_sub u1) (isU_sub u3))
          have ey : y = true := my.2 (sub_trans (isU_sub' f1 u1) (isU_sub u3))
          have ez : z = true := mz.2 (isU_sub' f3 u3)
          subst ex ey ez
          refine Ev.step (fun z => by simp only [pentaglotlaw02_FeatureAssociates.j2, List.nil_append, beq_self_eq_true, if_true]; rfl) (Ev.bind s1 ?_)
          simp only [if_true]
          refine Ev.bind hx ?_
          simp only [if_true]
          refine Ev.bind hy ?_
          simp only [if_true]
          exact Ev.bind hz (Ev.now _)
        · exact absurd (hfit.1 f3) f4
      · rcases mq with ⟨f4, n, rfl, u4, l4⟩ | ⟨f4, rfl⟩
        · exact absurd (hfit.2 f4) f3
        · refine Ev.step (f := fun _ => some true) (fun z => ?_) (Ev.now _)
          simp only [pentaglotlaw02_FeatureAssociates.j2, beq_self_eq_true, if_true, Bool.false_eq_true, if_false]
    · rcases mp with ⟨f3, m, rfl, u3, l3⟩ | ⟨f3, rfl⟩
      · exfalso
        refine f2 (fun k v w e1 e2 => f3 k v w ?_ e2)
        rw [u1.2]
        cases e : get (ims a) k with
        | none => rw [e1]; rfl
        | some v' => rw [f1 k v' v e e1]; rfl
      · refine Ev.step (fun z => by simp only [pentaglotlaw02_FeatureAssociates.j1, Bool.false_eq_true, if_false]; rfl) (Ev.step (f := fun _ => some true) (fun z => ?_) (Ev.now _))
        simp only [pentaglotlaw02_FeatureAssociates.j2, beq_self_eq_true, if_true, Bool.false_eq_true, if_false]
  · simp only [Bool.false_eq_true, if_false]
    have fin : ∀ l : List S33, Ev (fun z => pentaglotlaw02_FeatureAssociates.j2 z a b c [] false l false) true := by
      intro l
      refine Ev.step (f := fun _ => some true) (fun z => ?_) (Ev.now _)
      simp only [pentaglotlaw02_FeatureAssociates.j2, beq_self_eq_true, if_true, Bool.false_eq_true, if_false]
    rcases mv with ⟨f2, bc, rfl, u2, l2⟩ | ⟨f2, rfl⟩
    · obtain ⟨q, hq, mq⟩ := unify a bc (by omega) ha u2.1
      refine Ev.step (fun z => by simp only [pentaglotlaw02_FeatureAssociates.j1, List.nil_append, if_true]; rfl) (Ev.bind hq ?_)
      rcases mq with ⟨f4, n, rfl, u4, l4⟩ | ⟨f4, rfl⟩
      · exfalso
        refine f1 (fun k v w e1 e2 => f4 k v w e1 ?_)
        rw [u2.2, e2]; rfl
      · exact fin _
    · refine Ev.step (fun z => by simp only [pentaglotlaw02_FeatureAssociates.j1, Bool.false_eq_true, if_false]; rfl) (fin _)
end Go.Proofs.Ytnfdhfclibdbmaa.Pure
