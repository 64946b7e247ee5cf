/- Plain law: Meet returns the specified record, the greatest that subsumes both. Condition: the sizes of the arguments sum to at most 1048576. -/
import Derived.Test.YtnfdhfclibdbmaaFtM
namespace Go.Proofs.Ytnfdhfclibdbmaa.Pure
set_option linter.unusedVariables false
set_option linter.unusedSimpArgs false
open Go.RowKit Go.Proofs.Ytnfdhfclibdbmaa.P Go.Proofs.Ytnfdhfclibdbmaa.Ft Go.Proofs.YtnfdhfclibdbmaaW.PrintWords Go.Proofs.YtnfdhfclibdbmaaW.PrintLast
theorem get_meet {a b : Rec} (ha : Asc a) (k v : Key) : get (a.filter (has b)) k = some v ↔ get a k = some v ∧ get b k = some v := by
  rw [get_filter ha, Option.filter_eq_some_iff]
  simp [has]
theorem FeatureMeets : pentaglotlaw02_FeatureMeets.Pure := by
  intro a b c _ _ _ hs
  have la := len_bulk a
  have lb := len_bulk b
  have lc := len_bulk c
  apply Ev.rounds
  unfold pentaglotlaw02_FeatureMeets.f
  obtain ⟨r1, h1, m1⟩ := record a (by omega)
  obtain ⟨r2, h2, m2⟩ := record b (by omega)
  obtain ⟨r3, h3, m3⟩ := record c (by omega)
  have out : Ev (fun z => pentaglotlaw02_FeatureMeets.j0 z a b c true) true := by
    refine Ev.step (f := fun _ => some true) (fun z => ?_) (Ev.now _)
    simp only [pentaglotlaw02_FeatureMeets.j0, if_true]
  refine Ev.bind awake ?_
  simp only [if_true]
  refine Ev.bind h1 ?_
  cases r1 with
  | false => simp only [Bool.false_eq_true, if_false]; exact out
  | true =>
  simp only [if_true]
  refine Ev.bind h2 ?_
  cases r2 with
  | false => simp only [Bool.false_eq_true, if_false]; exact out
  | true =>
  simp only [if_true]
  refine Ev.bind h3 ?_
  cases r3 with
  | false => exact out
  | true =>
  have ha := m1.1 rfl
  have hb := m2.1 rfl
  have hc := m3.1 rfl
  have f1 := meet a b (by omega)
  have f2 := rmeet a b (by omega)
  have f3 := meet b a (by omega)
  have pl := pick_length (has (ims b)) a
  have pl' := pick_length (has (ims a)) b
  have hm : Asc (ims (pick (has (ims b)) a)) := by rw [ims_pick]; exact asc_filter ha
  have hm' : Asc (ims (pick (has (ims a)) b)) := by rw [ims_pick]; exact asc_filter hb
  have gm : ∀ k v, get (ims (pick (has (ims b)) a)) k = some v ↔ get (ims a) k = some v ∧ get (ims b) k = some v := fun k v => by rw [ims_pick]; exact get_meet ha k v
  have gm' : ∀ k v, get (ims (pick (has (ims a)) b)) k = some v ↔ get (ims b) k = some v ∧ get (ims a) k = some v := fun k v => by rw [ims_pick]; exact get_meet hb k v
  have eq : ims (pick (has (ims a)) b) = ims (pick (has (ims b)) a) := sub_antisymm hm' hm (fun k v h => (gm k v).2 ((gm' k v).1 h).symm) (fun k v h => (gm' k v).2 ((gm k v).1 h).symm)
  generalize hM : pick (has (ims b)) a = m at f1 f2 pl hm gm eq
  generalize hN : pick (has (ims a)) b = n at f3 pl' hm' eq
  clear hM hN gm'
  have s1 := same m m (by omega)
  have s2 := same n m (by omega)
  rw [decide_eq_true rfl] at s1
  rw [decide_eq_true eq] at s2
  obtain ⟨t1, u1, v1⟩ := subsumes m a (by omega) hm ha
  obtain ⟨t2, u2, v2⟩ := subsumes m b (by omega) hm hb
  obtain ⟨t3, u3, v3⟩ := subsumes c a (by omega) hc ha
  obtain ⟨t4, u4, v4⟩ := subsumes c b (by omega) hc hb
  obtain ⟨t5, u5, v5⟩ := subsumes c m (by omega) hc hm
  have e1 : t1 = true := v1.2 (fun k v h => ((gm k v).1 h).1)
  have e2 : t2 = true := v2.2 (fun k v h => ((gm k v).1 h).2)
  have e5 : t5 = (t3 && t4) := by
    rw [Bool.eq_iff_iff, Bool.and_eq_true, v5, v3, v4]
    exact ⟨fun h => ⟨fun k v hh => ((gm k v).1 (h k v hh)).1, fun k v hh => ((gm k v).1 (h k v hh)).2⟩, fun h k v hh => (gm k v).2 ⟨h.1 k v hh, h.2 k v hh⟩⟩
  subst e1 e2 e5
  refine Ev.step (fun z => by simp only [pentaglotlaw02_FeatureMeets.j0, Bool.not_true, Bool.false_eq_true, if_false]; rfl) (Ev.bind f1 (Ev.bind f2 (Ev.bind s1 ?_)))
  simp only [if_true]
  refine Ev.bind f3 (Ev.bind s2 ?_)
  simp only [if_true]
  refine Ev.bind u1 ?_
  simp only [if_true]
  refine Ev.bind u2 ?_
  refine Ev.step (fun z => by simp only [pentaglotlaw02_FeatureMeets.j1, Bool.not_true, Bool.false_eq_true, if_false]; rfl) (Ev.bind u3 ?_)
  cases t3 with
  | false =>
    simp only [Bool.false_eq_true, if_false]
    refine Ev.bind u5 ?_
    simp only [Bool.false_and, beq_self_eq_true]
    exact Ev.now _
  | true =>
    simp only [if_true]
    refine Ev.bind u4 (Ev.bind u5 ?_)
    simp only [Bool.true_and, beq_self_eq_true]
    exact Ev.now _
end Go.Proofs.Ytnfdhfclibdbmaa.Pure
