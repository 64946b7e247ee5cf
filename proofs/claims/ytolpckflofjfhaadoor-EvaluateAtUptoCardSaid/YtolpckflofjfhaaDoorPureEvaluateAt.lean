import Derived.Test.YtolpckflofjfhaaDoorPx0
import Derived.Test.YtolpckflofjfhaaDoorPx30
import Derived.Test.YtolpckflofjfhaaDoorEnH
namespace Go.Proofs.YtolpckflofjfhaaDoor.Pure
open Go.RowKit Go.Proofs.YtolpckflofjfhaaDoor.P Go.Proofs.YtolpckflofjfhaaDoorW.PrintWords Go.Proofs.YtolpckflofjfhaaDoorW.PrintLast
open Go.Proofs.YtolpckflofjfhaaDoor.En
set_option linter.unusedVariables false
set_option linter.unusedSectionVars false
section world
variable (ds : List S73) (ts : List Int) (id : Int) (fs : List S62) (hw : ∀ d ∈ ds, wf73 d) (hd : ds.length < 4398046511104) (hdn : ∀ d ∈ ds, d.f1.length ≤ 1048576) (hl : ts.length ≤ 1048576) (hfw : ∀ x ∈ fs, wf62 x) (hfl : fs.length < 4398046511104)
include hw hd hdn hl hfw hfl
theorem at_law (t : S32) (hb : bulk32 t ≤ 1048576) (hwt : wf32 t) (co m : Int) (hc : okI co = true) (hm : okI m = true) : TotP (fun k => pentaglotlaw26_EvaluateAt.f k ds ts id fs t.f0 t.f1 t.f2 t.f3 t.f4 t.f5 co m) (fun v => v = true) := by
  obtain ⟨n, hn⟩ : ∃ n, n = 1048577 := ⟨_, rfl⟩
  unfold pentaglotlaw26_EvaluateAt.f
  refine TotP.bind (Q := fun b => b = true) ⟨_, ev_awake, rfl⟩ (fun a ha => TotP.pos ha ?_)
  refine TotP.all (tot_light ds ts id fs hd (by omega) t (by omega)) (fun lg => TotP.ite (fun _ => ?_) (fun _ => TotP.now rfl))
  refine TotP.bind (tv_at ds ts id fs hw hd hdn hl hfw hfl n t (by omega) (by omega) hwt co m hc hm) (fun r hr => TotP.bind (tv_err ds ts id fs hw hd hdn hl hfw hfl n t (by omega) (by omega)) (fun e he => ?_))
  obtain ⟨r1, r2, r3, r4⟩ := hr
  refine TotP.ite (fun h1 => ?_) (fun h1 => ?_)
  · have nf : ¬ FitP ds ts id n t := fun hf => by have := he.1 hf; unfold errQ at this; split at this <;> omega
    have q2 : r.2 = 1 := r2 (fun h => nf h.1)
    have q1 : r.1 = false := r3 (by omega)
    refine TotP.step (fun _ => pentaglotlaw26_EvaluateAt.j0.eq_2 ..) (TotP.neg (by decide) (TotP.neg (by omega) (TotP.neg (by rw [q1]; decide) (TotP.now ?_))))
    rw [q2, h1]; rfl
  · have hf : FitP ds ts id n t := Classical.not_not.1 (fun h => h1 (he.2 h))
    have hee := he.1 hf
    refine TotP.bind (Q := fun v => v = insideB ts id co m) ⟨_, by rw [place_f ds ts id fs hw hd hdn hl hfw hfl]; exact Ev.now _, rfl⟩ (fun p hp => ?_)
    subst hp
    refine TotP.step (fun _ => pentaglotlaw26_EvaluateAt.j0.eq_2 ..) ?_
    by_cases hi : insideB ts id co m = true
    · have q2 := r1 ⟨hf, hi⟩
      rw [hi]
      refine TotP.neg (by decide) (TotP.ite (fun h0 => ?_) (fun h0 => ?_))
      · have q0 : r.2 = 0 := by omega
        refine TotP.pos q0 (TotP.bind (tv_rtruth ds ts id fs hw hd hdn hl hfw hfl (by omega) hb hwt hf co m hc hm (r4 q0).2) (fun q hq => TotP.now ?_))
        rw [hq]; simp
      · have q1 : r.1 = false := r3 (by omega)
        refine TotP.neg (by rw [q1]; decide) (TotP.now ?_)
        rw [q2, ← hee]; simp
    · have q2 := r2 (fun h => hi h.2)
      have q1 : r.1 = false := r3 (by omega)
      rw [Bool.eq_false_iff.2 hi]
      refine TotP.pos rfl (TotP.neg (by decide) (TotP.neg (by rw [q1]; decide) (TotP.now ?_)))
      rw [q2]; rfl
end world
theorem EvaluateAt : pentaglotlaw26_EvaluateAt.Pure := by
  intro p0 p1 p2 p3 h0 h1 h2 h3 hb
  have hlen := bulk28_len p0
  have h25 : bulk25 p0.f0 ≤ bulk28 p0 := by unfold bulk28; omega
  obtain ⟨r, hr, rfl⟩ := at_law p0.f0.f0 p0.f0.f1 p0.f0.f2 p0.f1 h0.1.1 (by omega) (fun d hd => by have := names_le hd; omega) (by omega) h0.2 (by omega) p1 (by omega) h1 p2 p3 (okI_i h2) (okI_i h3)
  exact Ev.rounds hr
end Go.Proofs.YtolpckflofjfhaaDoor.Pure
