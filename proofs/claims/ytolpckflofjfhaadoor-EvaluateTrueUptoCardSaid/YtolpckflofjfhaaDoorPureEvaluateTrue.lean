import Derived.Test.YtolpckflofjfhaaDoorPx0
import Derived.Test.YtolpckflofjfhaaDoorPx31
import Derived.Test.YtolpckflofjfhaaDoorEnH
namespace Go.Proofs.YtolpckflofjfhaaDoor.Pure
open Go.RowKit Go.Proofs.YtolpckflofjfhaaDoor.P Go.Proofs.YtolpckflofjfhaaDoorW.PrintWords Go.Proofs.YtolpckflofjfhaaDoorW.PrintLast
open Go.Proofs.YtolpckflofjfhaaDoor.En
set_option linter.unusedVariables false
set_option linter.unusedSectionVars false
def allT (tr : Int → Bool) : Nat → Int → Bool
  | 0, _ => true
  | n + 1, i => tr i && allT tr n (i + 1)
theorem ev_allT {p : Nat → Int → Option Bool} {tr : Int → Bool} : ∀ (N : Nat) (lo : Int), (∀ j, lo ≤ j → j < lo + N → Ev (fun k => p k j) (tr j)) → Ev (fun k => someL true (p k) N lo) (allT tr N lo)
  | 0, lo, h => by
    unfold someL allT
    exact Ev.now _
  | N + 1, lo, h => by
    unfold someL allT
    refine Ev.bind (h lo (by omega) (by omega)) ?_
    cases tr lo with
    | false => exact Ev.now _
    | true => exact ev_allT N (lo + 1) (fun j h0 h1 => h j (by omega) (by omega))
section world
variable (ds : List S73) (ts : List Int) (id : Int) (fs : List S62) (hw : ∀ d ∈ ds, wf73 d) (hd : ds.length < 4398046511104) (hdn : ∀ d ∈ ds, d.f1.length ≤ 1048576) (hl : ts.length ≤ 1048576) (hfw : ∀ x ∈ fs, wf62 x) (hfl : fs.length < 4398046511104)
include hw hd hdn hl hfw hfl
theorem tv_last : TotP (fun _ => pentaglotref26_Last.f ds ts id) (fun x => x = 2 * (ts.length : Int)) :=
  ⟨_, by unfold pentaglotref26_Last.f; rw [w64 (by omega) (by omega)]; exact Ev.now _, rfl⟩
theorem true_law (t : S32) (hb : bulk32 t ≤ 1048576) (hwt : wf32 t) : TotP (fun k => pentaglotlaw26_EvaluateTrue.f k ds ts id fs t.f0 t.f1 t.f2 t.f3 t.f4 t.f5) (fun v => v = true) := by
  obtain ⟨n, hn⟩ : ∃ n, n = 1048577 := ⟨_, rfl⟩
  have oki : ∀ i : Int, 0 ≤ i → i ≤ 2 * (ts.length : Int) → okI i = true := fun i h0 h1 => okI_b (by omega) (by omega)
  have hex : ∀ i : Int, ∃ b : Bool, FitP ds ts id n t → 0 ≤ i → i ≤ 2 * (ts.length : Int) → Ev (fun k => truthG ds ts id fs k t [] 0 i) b := fun i => by
    by_cases hh : FitP ds ts id n t ∧ 0 ≤ i ∧ i ≤ 2 * (ts.length : Int)
    · obtain ⟨r, hr, _⟩ := tv_truth0 ds ts id fs hw hd hdn hl hfw hfl n t (by omega) (by omega) hwt hh.1 0 i (by decide) (oki i hh.2.1 hh.2.2)
      exact ⟨r, fun _ _ _ => hr⟩
    · exact ⟨false, fun a b c => absurd ⟨a, b, c⟩ hh⟩
  obtain ⟨tr, htr⟩ := Classical.axiomOfChoice hex
  obtain ⟨N, hN⟩ : ∃ N, N = 2 * ts.length + 1 := ⟨_, rfl⟩
  have last := tv_last ds ts id fs hw hd hdn hl hfw hfl
  have rtrue : FitP ds ts id n t → TotP (fun k => pentaglotref26_True.f k ds ts id fs t.f0 t.f1 t.f2 t.f3 t.f4 t.f5) (fun r => r = allT tr N 0) := fun hf => by
    refine TotP.weak (loopI N (fun i k => pentaglotref26_True.l0 k i ds ts id fs t.f0 t.f1 t.f2 t.f3 t.f4 t.f5) (fun j r => r = allT tr (N - j) (j : Int)) (fun j hj => ?_) (fun j hj ih => ?_) 0) (fun r hr => hr)
    · refine TotP.step (fun _ => pentaglotref26_True.l0.eq_2 ..) (TotP.bind last (fun x hx => TotP.neg (by omega) (TotP.now ?_)))
      rw [show N - j = 0 by omega]; rfl
    · refine TotP.step (fun _ => pentaglotref26_True.l0.eq_2 ..) (TotP.bind last (fun x hx => TotP.pos (by omega) ?_))
      refine TotP.bind (tv_rtruth ds ts id fs hw hd hdn hl hfw hfl (by omega) hb hwt hf 0 (j : Int) (by decide) (oki _ (by omega) (by omega)) (htr j hf (by omega) (by omega))) (fun b hbb => ?_)
      rw [show N - j = (N - (j + 1)) + 1 by omega, allT, ← hbb, wj hj (by omega)]
      refine TotP.ite (fun h => ?_) (fun h => TotP.now ?_)
      · rw [h, Bool.true_and]; exact ih
      · rw [Bool.eq_false_iff.2 h]; rfl
  unfold pentaglotlaw26_EvaluateTrue.f
  refine TotP.bind (Q := fun b => b = true) ⟨_, ev_awake, rfl⟩ (fun a ha => TotP.pos ha ?_)
  refine TotP.all (tot_light ds ts id fs hd (by omega) t (by omega)) (fun lg => TotP.ite (fun _ => ?_) (fun _ => TotP.now rfl))
  have prog : TotP (fun k => evaluate_True.f k ds ts id fs t.f0 t.f1 t.f2 t.f3 t.f4 t.f5) (fun r => (FitP ds ts id n t → r.2 = errQ ds ts id n t) ∧ (¬ FitP ds ts id n t → r.2 = 1) ∧ (r.2 ≠ 0 → r.1 = false) ∧ (r.2 = 0 → r.1 = allT tr N 0)) := by
    have e0 : (⟨t.f0, t.f1, t.f2, t.f3, t.f4, t.f5⟩ : S32) = t := by cases t; rfl
    unfold evaluate_True.f
    rw [e0]
    refine TotP.bind (tv_load ds ts id fs hw hd hdn hl hfw hfl n t (by omega) (by omega)) (fun e he => ?_)
    refine TotP.ite (fun h0 => TotP.pos (by omega) ?_) (fun h0 => TotP.now ⟨fun h => he.1 h, fun h => he.2 h, fun _ => rfl, fun h => absurd h h0⟩)
    have hf : FitP ds ts id n t := Classical.not_not.1 (fun h => by have := he.2 h; omega)
    rw [← hN]
    refine TotP.bind (Q := fun x => x = allT tr N 0) ⟨_, ev_allT N 0 (fun j h0 h1 => htr j hf h0 (by omega)), rfl⟩ (fun x hx => TotP.now ⟨fun _ => h0.symm.trans (he.1 hf), fun h => absurd hf h, fun h => absurd rfl h, fun _ => hx⟩)
  refine TotP.bind prog (fun r hr => TotP.bind (tv_err ds ts id fs hw hd hdn hl hfw hfl n t (by omega) (by omega)) (fun e he => ?_))
  obtain ⟨r1, r2, r3, r4⟩ := hr
  have re : r.2 = e := by
    by_cases hf : FitP ds ts id n t
    · exact (r1 hf).trans (he.1 hf).symm
    · exact (r2 hf).trans (he.2 hf).symm
  refine TotP.ite (fun h0 => ?_) (fun h0 => ?_)
  · have hf : FitP ds ts id n t := Classical.not_not.1 (fun h => by have := he.2 h; omega)
    have q2 : r.2 = 0 := re.trans h0
    have full := r4 q2
    have at_ : ∀ j : Nat, j < N → TotP (fun k => pentaglotlaw26_at.f k ds ts id fs t.f0 t.f1 t.f2 t.f3 t.f4 t.f5 0 (j : Int)) (fun x => x = (tr j, true)) := fun j hj => by
      unfold pentaglotlaw26_at.f
      refine TotP.bind (tv_at ds ts id fs hw hd hdn hl hfw hfl n t (by omega) (by omega) hwt 0 (j : Int) (by decide) (oki _ (by omega) (by omega))) (fun a ha => TotP.now ?_)
      have hin : insideB ts id 0 (j : Int) = true := by
        have := (fit_id ds ts id fs hw hd hdn hl hfw hfl hf).2
        unfold insideB
        simp only [Bool.and_eq_true, decide_eq_true_eq]
        omega
      have a2 : a.2 = 0 := by have h1 := ha.1 ⟨hf, hin⟩; have h2 := he.1 hf; omega
      rw [a2, ev_one (ha.2.2.2 a2).2 (htr j hf (by omega) (by omega))]
      rfl
    have loop : ∀ m j, N - j = m → ∀ b : Bool, r.1 = (b && allT tr (N - j) (j : Int)) → TotP (fun k => pentaglotlaw26_EvaluateTrue.l0 k r.1 r.2 b (j : Int) ds ts id fs t.f0 t.f1 t.f2 t.f3 t.f4 t.f5) (fun v => v = true) := by
      intro m
      induction m with
      | zero =>
        intro j hj b hx
        refine TotP.step (fun _ => pentaglotlaw26_EvaluateTrue.l0.eq_2 ..) (TotP.bind last (fun x hx' => TotP.neg (by omega) (TotP.pos q2 ?_)))
        refine TotP.bind (rtrue hf) (fun q hq => TotP.pos (by rw [hq, full]; simp) (TotP.now ?_))
        rw [hj, allT, Bool.and_true] at hx
        rw [hx]; simp
      | succ m ih =>
        intro j hj b hx
        refine TotP.step (fun _ => pentaglotlaw26_EvaluateTrue.l0.eq_2 ..) (TotP.bind last (fun x hx' => TotP.pos (by omega) ?_))
        refine TotP.bind (at_ j (by omega)) (fun a ha => ?_)
        subst ha
        rw [show N - j = (N - (j + 1)) + 1 by omega, allT] at hx
        rw [wj (show j < N by omega) (by omega)]
        refine TotP.ite (fun hb1 => ?_) (fun hb1 => ?_)
        · rw [hb1, Bool.true_and] at hx
          refine TotP.ite (fun h => ih (j + 1) (by omega) _ ?_) (fun h => ih (j + 1) (by omega) _ ?_)
          · rw [show tr (j : Int) = true from h, Bool.true_and] at hx
            rw [hx, Bool.true_and]; rfl
          · rw [show tr (j : Int) = false from Bool.eq_false_iff.2 h, Bool.false_and] at hx
            rw [hx, Bool.false_and]
        · rw [Bool.eq_false_iff.2 hb1, Bool.false_and] at hx
          refine ih (j + 1) (by omega) _ ?_
          rw [hx, Bool.false_and]
    exact loop _ 0 rfl true (by rw [Bool.true_and]; exact full)
  · have q1 : r.1 = false := r3 (by omega)
    refine TotP.neg (by rw [q1]; decide) (TotP.now ?_)
    rw [re]; simp
end world
theorem EvaluateTrue : pentaglotlaw26_EvaluateTrue.Pure := by
  intro p0 p1 h0 h1 hb
  have hlen := bulk28_len p0
  have h25 : bulk25 p0.f0 ≤ bulk28 p0 := by unfold bulk28; omega
  obtain ⟨r, hr, rfl⟩ := true_law p0.f0.f0 p0.f0.f1 p0.f0.f2 p0.f1 h0.1.1 (by omega) (fun d hd => by have := names_le hd; omega) (by omega) h0.2 (by omega) p1 (by omega) h1
  exact Ev.rounds hr
end Go.Proofs.YtolpckflofjfhaaDoor.Pure
