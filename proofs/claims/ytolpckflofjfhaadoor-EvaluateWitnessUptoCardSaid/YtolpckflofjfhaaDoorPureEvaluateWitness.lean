import Derived.Test.YtolpckflofjfhaaDoorPx0
import Derived.Test.YtolpckflofjfhaaDoorPx36
import Derived.Test.YtolpckflofjfhaaDoorEnH
namespace Go.Proofs.YtolpckflofjfhaaDoor.Pure
open Go.RowKit Go.Proofs.YtolpckflofjfhaaDoor.P Go.Proofs.YtolpckflofjfhaaDoorW.PrintWords Go.Proofs.YtolpckflofjfhaaDoorW.PrintLast
open Go.Proofs.YtolpckflofjfhaaDoor.En
set_option linter.unusedVariables false
set_option linter.unusedSectionVars false
theorem wit_two {all : Bool} {p q : Nat → ByteArray → Option Bool} : ∀ (l : List ByteArray), (∀ s ∈ l, Ev2 (fun k => p k s) (fun k => q k s)) → ∃ s v, Ev (fun k => witL all (p k) l) (s, v, 0) ∧ Ev (fun k => witQ (!all) (q k) l) (s, v)
  | [], _ => ⟨⟨#[]⟩, false, by unfold witL; exact Ev.now _, by unfold witQ; exact Ev.now _⟩
  | s :: l, h => by
    obtain ⟨b, h1, h2⟩ := h s (by simp)
    obtain ⟨x, v, h3, h4⟩ := wit_two (all := all) l (fun s hs => h s (by simp [hs]))
    simp only [witL, witQ]
    by_cases hb : b = all
    · refine ⟨x, v, Ev.bind h1 ?_, Ev.bind h2 ?_⟩
      · simp only [if_pos hb]; exact h3
      · have : ¬ b = !all := by rw [hb]; cases all <;> simp
        simp only [if_neg this]; exact h4
    · have hb' : b = !all := by revert hb; cases b <;> cases all <;> simp
      refine ⟨s, true, Ev.bind h1 ?_, Ev.bind h2 ?_⟩
      · simp only [if_neg hb]; exact Ev.now _
      · simp only [if_pos hb']; exact Ev.now _
section world
variable (ds : List S73) (ts : List Int) (id : Int) (fs : List S62) (hw : ∀ d ∈ ds, wf73 d) (hd : ds.length < 4398046511104) (hdn : ∀ d ∈ ds, d.f1.length ≤ 1048576) (hl : ts.length ≤ 1048576) (hfw : ∀ x ∈ fs, wf62 x) (hfl : fs.length < 4398046511104)
include hw hd hdn hl hfw hfl
theorem wit_here {n : Nat} {t : S32} (hn : n + 1 ≤ 4398046511103) (hb : bulk32 t ≤ 1048576) (hwt : wf32 t) (hf : FitP ds ts id (n + 1) t) (co m : Int) (hc : okI co = true) (hm : okI m = true) (h89 : t.f0 = 8 ∨ t.f0 = 9) (all : Bool) :
    0 < t.f5.length ∧ (indN ds t.f1).1.length < 4398046511104 ∧ ∃ s v, Ev (fun k => witL all (fun s => truthG ds ts id fs k (rd_T32 t.f5 0) [s] co m) (indN ds t.f1).1) (s, v, 0) ∧ Ev (fun k => rwG ds ts id fs k (!all) t.f1 t.f5 [] co m) (s, v) := by
  obtain ⟨ha, hid⟩ := fit_id ds ts id fs hw hd hdn hl hfw hfl hf
  have hg : FormP (n + 1) 0 t := hf.2.1.2.2
  obtain ⟨hff, hgk⟩ := hg
  obtain ⟨hf3, hf1, hf7⟩ := good_fields hff
  have hk := hf1 (by omega)
  have hk0 : 0 < t.f5.length := by omega
  have e0 : rd_T32 t.f5 0 = t.f5[0] := rd32 hk0
  have io := ind_ok ds ts id hw hd (fun d hd => by have := hdn d hd; omega) (by omega) ha hid t.f1
  have hmem := List.getElem_mem hk0
  have key := wit_two (all := all) (p := fun k s => truthG ds ts id fs k (rd_T32 t.f5 0) [s] co m) (q := fun k s => rtG ds ts id fs k (rd_T32 t.f5 0) [s] co m) (indN ds t.f1).1 (fun s hs => by
    rw [e0]
    refine e2_truth ds ts id fs hw hd hdn hl ha hid hfl n t.f5[0] [s] co m ?_ (wf_kid hwt hmem) (by have := bulk_mem hmem; omega) (by simp; omega) (fun x hx => ?_) hc hm
    · have := hgk _ hmem
      unfold insN at this
      rw [if_pos h89] at this
      exact this
    · obtain rfl := List.mem_singleton.1 hx
      exact io.2 _ hs)
  obtain ⟨s, v, h1, h2⟩ := key
  refine ⟨hk0, io.1, s, v, h1, ?_⟩
  unfold rwG
  refine Ev.bind (ev_rind ds ts id hd _) ?_
  have hcond : 0 < t.f5.length ∧ (indN ds t.f1).1.length < 4398046511104 ∧ ([] : List ByteArray).length < 4398046511104 := ⟨hk0, io.1, by decide⟩
  simp only [if_pos hcond]
  exact h2
theorem truth_wit {t : S32} (co m : Int) (all : Bool) (hop : t.f0 = 8 ∧ all = true ∨ t.f0 = 9 ∧ all = false) {s : ByteArray} {v : Bool} (h : Ev (fun k => rwG ds ts id fs k (!all) t.f1 t.f5 [] co m) (s, v)) : Ev (fun k => rtG ds ts id fs k t [] co m) (v == (t.f0 == 9)) := by
  refine Ev.step (fun _ => rtG.eq_2 ..) ?_
  rcases hop with ⟨h8, rfl⟩ | ⟨h9, rfl⟩
  · simp only [if_neg (show ¬ t.f0 = 1 by omega), if_neg (show ¬ t.f0 = 3 by omega), if_neg (show ¬ t.f0 = 4 by omega), if_neg (show ¬ t.f0 = 5 by omega), if_neg (show ¬ t.f0 = 6 by omega), if_neg (show ¬ t.f0 = 7 by omega), if_pos h8]
    rw [show (v == (t.f0 == 9)) = !v by rw [h8]; cases v <;> rfl]
    exact Ev.bind (f := fun _ r => some (!r.2)) h (Ev.now _)
  · simp only [if_neg (show ¬ t.f0 = 1 by omega), if_neg (show ¬ t.f0 = 3 by omega), if_neg (show ¬ t.f0 = 4 by omega), if_neg (show ¬ t.f0 = 5 by omega), if_neg (show ¬ t.f0 = 6 by omega), if_neg (show ¬ t.f0 = 7 by omega), if_neg (show ¬ t.f0 = 8 by omega), if_pos h9]
    rw [show (v == (t.f0 == 9)) = v by rw [h9]; cases v <;> rfl]
    exact Ev.bind (f := fun _ r => some r.2) h (Ev.now _)
theorem tv_wit {n : Nat} {t : S32} (h : bulk32 t < n + 1) (hn : n + 1 ≤ 2199023255552) (hb : bulk32 t ≤ 1048576) (hwt : wf32 t) (co m : Int) (hc : okI co = true) (hm : okI m = true) :
    TotP (fun k => evaluate_Witness.f k ds ts id fs t.f0 t.f1 t.f2 t.f3 t.f4 t.f5 co m) (fun r => (FitP ds ts id (n + 1) t ∧ insideB ts id co m = true ∧ (t.f0 = 8 ∨ t.f0 = 9) → r.2.2 = errQ ds ts id (n + 1) t) ∧ (¬ (FitP ds ts id (n + 1) t ∧ insideB ts id co m = true ∧ (t.f0 = 8 ∨ t.f0 = 9)) → r.2.2 = 1) ∧ (r.2.2 ≠ 0 → r.1 = ⟨#[]⟩ ∧ r.2.1 = false) ∧ (r.2.2 = 0 → ∃ all : Bool, (t.f0 = 8 ∧ all = true ∨ t.f0 = 9 ∧ all = false) ∧ Ev (fun k => rwG ds ts id fs k (!all) t.f1 t.f5 [] co m) (r.1, r.2.1))) := by
  have e0 : (⟨t.f0, t.f1, t.f2, t.f3, t.f4, t.f5⟩ : S32) = t := by cases t; rfl
  unfold evaluate_Witness.f
  rw [e0]
  refine TotP.bind (tv_load ds ts id fs hw hd hdn hl hfw hfl (n + 1) t h hn) (fun e he => ?_)
  refine TotP.ite (fun h1 => TotP.now ⟨fun h => ?_, fun _ => rfl, fun _ => ⟨rfl, rfl⟩, fun h => by cases h⟩) (fun h1 => ?_)
  · have := he.1 h.1
    unfold errQ at this ⊢
    split at this <;> omega
  have hf : FitP ds ts id (n + 1) t := Classical.not_not.1 (fun h => h1 (he.2 h))
  refine TotP.pos (by omega) ?_
  refine TotP.ite (fun hi => ?_) (fun hi => TotP.now ⟨fun h => absurd h.2.1 hi, fun _ => rfl, fun _ => ⟨rfl, rfl⟩, fun h => by cases h⟩)
  have go : ∀ all : Bool, (t.f0 = 8 ∧ all = true ∨ t.f0 = 9 ∧ all = false) → TotP (fun k => if e = 0 then (evaluate_individuals.f k ds ts id t.f1).bind fun ns => (if 0 < t.f5.length ∧ ns.1.length < 4398046511104 then witL all (fun s => truthG ds ts id fs k (rd_T32 t.f5 0) [s] co m) ns.1 else none) else some (⟨#[]⟩, false, e)) (fun r => (FitP ds ts id (n + 1) t ∧ insideB ts id co m = true ∧ (t.f0 = 8 ∨ t.f0 = 9) → r.2.2 = errQ ds ts id (n + 1) t) ∧ (¬ (FitP ds ts id (n + 1) t ∧ insideB ts id co m = true ∧ (t.f0 = 8 ∨ t.f0 = 9)) → r.2.2 = 1) ∧ (r.2.2 ≠ 0 → r.1 = ⟨#[]⟩ ∧ r.2.1 = false) ∧ (r.2.2 = 0 → ∃ all : Bool, (t.f0 = 8 ∧ all = true ∨ t.f0 = 9 ∧ all = false) ∧ Ev (fun k => rwG ds ts id fs k (!all) t.f1 t.f5 [] co m) (r.1, r.2.1))) := fun all hop => by
    have C : FitP ds ts id (n + 1) t ∧ insideB ts id co m = true ∧ (t.f0 = 8 ∨ t.f0 = 9) := ⟨hf, hi, hop.imp And.left And.left⟩
    refine TotP.ite (fun h0 => ?_) (fun h0 => TotP.now ⟨fun _ => he.1 hf, fun h => absurd C h, fun _ => ⟨rfl, rfl⟩, fun h => absurd h h0⟩)
    obtain ⟨hk0, hil, s, v, w1, w2⟩ := wit_here ds ts id fs hw hd hdn hl hfw hfl (by omega) hb hwt hf co m hc hm C.2.2 all
    refine TotP.bind (Q := fun x => x = indN ds t.f1) ⟨_, ev_ind ds ts id hd _, rfl⟩ (fun x hx => ?_)
    subst hx
    refine TotP.pos ⟨hk0, hil⟩ ⟨_, w1, fun _ => h0.symm.trans (he.1 hf), fun h => absurd C h, fun h => absurd rfl h, fun _ => ⟨all, hop, w2⟩⟩
  refine TotP.ite (fun h8 => go true (.inl ⟨h8, rfl⟩)) (fun h8 => TotP.ite (fun h9 => go false (.inr ⟨h9, rfl⟩)) (fun h9 => TotP.now ⟨fun h => ?_, fun _ => rfl, fun _ => ⟨rfl, rfl⟩, fun h => by cases h⟩))
  omega
theorem wit_law (t : S32) (hb : bulk32 t ≤ 1048576) (hwt : wf32 t) (co m : Int) (hc : okI co = true) (hm : okI m = true) : TotP (fun k => pentaglotlaw26_EvaluateWitness.f k ds ts id fs t.f0 t.f1 t.f2 t.f3 t.f4 t.f5 co m) (fun v => v = true) := by
  obtain ⟨n, hn⟩ : ∃ n, n = 1048576 := ⟨_, rfl⟩
  unfold pentaglotlaw26_EvaluateWitness.f
  refine TotP.bind (Q := fun b => b = true) ⟨_, ev_awake, rfl⟩ (fun a ha => TotP.pos ha ?_)
  refine TotP.all (tot_light ds ts id fs hd (by omega) t (by omega)) (fun lg => TotP.ite (fun _ => ?_) (fun _ => TotP.now rfl))
  refine TotP.bind (tv_wit ds ts id fs hw hd hdn hl hfw hfl (n := n) (by omega) (by omega) hb hwt co m hc hm) (fun r hr => TotP.bind (tv_err ds ts id fs hw hd hdn hl hfw hfl (n + 1) t (by omega) (by omega)) (fun e he => ?_))
  obtain ⟨r1, r2, r3, r4⟩ := hr
  have bad : ∀ x : Int, x ≠ 0 → r.2.2 = x → TotP (fun k => pentaglotlaw26_EvaluateWitness.j1 k co m r.1 r.2.1 r.2.2 x ds ts id fs t.f0 t.f1 t.f2 t.f3 t.f4 t.f5) (fun v => v = true) := fun x hx hr => by
    obtain ⟨s1, s2⟩ := r3 (by omega)
    refine TotP.step (fun _ => pentaglotlaw26_EvaluateWitness.j1.eq_2 ..) (TotP.neg hx (TotP.pos (by rw [s1, Lib.toList_data]) (TotP.neg (by rw [s2]; decide) (TotP.now ?_))))
    rw [hr]; simp
  refine TotP.ite (fun h1 => ?_) (fun h1 => ?_)
  · have nf : ¬ FitP ds ts id (n + 1) t := fun hf => by have := he.1 hf; unfold errQ at this; split at this <;> omega
    have q2 : r.2.2 = 1 := r2 (fun h => nf h.1)
    refine TotP.step (fun _ => pentaglotlaw26_EvaluateWitness.j0.eq_2 ..) (TotP.neg (by decide) ?_)
    exact bad e (by omega) (by omega)
  · have hf : FitP ds ts id (n + 1) t := Classical.not_not.1 (fun h => h1 (he.2 h))
    have hee := he.1 hf
    refine TotP.bind (Q := fun v => v = insideB ts id co m) ⟨_, by rw [place_f ds ts id fs hw hd hdn hl hfw hfl]; exact Ev.now _, rfl⟩ (fun p hp => ?_)
    subst hp
    refine TotP.ite (fun hi => ?_) (fun hi => ?_)
    · refine TotP.bind (tv_rbinds t.f0) (fun b hbb => TotP.step (fun _ => pentaglotlaw26_EvaluateWitness.j0.eq_2 ..) ?_)
      refine TotP.ite (fun hnb => ?_) (fun hnb => ?_)
      · have no : ¬ (t.f0 = 8 ∨ t.f0 = 9) := fun h => by rw [hbb.2 h] at hnb; cases hnb
        exact bad 1 (by decide) (r2 (fun h => no h.2.2))
      · have h89 : t.f0 = 8 ∨ t.f0 = 9 := hbb.1 (by cases b <;> simp_all)
        have q2 := r1 ⟨hf, hi, h89⟩
        by_cases h0 : e = 0
        · have q0 : r.2.2 = 0 := by omega
          obtain ⟨all, hop, w2⟩ := r4 q0
          have eop : (t.f0 == 9) = !all := by rcases hop with ⟨h, rfl⟩ | ⟨h, rfl⟩ <;> rw [h] <;> rfl
          refine TotP.step (fun _ => pentaglotlaw26_EvaluateWitness.j1.eq_2 ..) (TotP.pos h0 ?_)
          refine TotP.bind (Q := fun x => x = (r.1, r.2.1)) ⟨_, by unfold pentaglotref26_Witness.f; rw [eop]; exact w2, rfl⟩ (fun x hx => ?_)
          subst hx
          have at_ : TotP (fun k => pentaglotlaw26_at.f k ds ts id fs t.f0 t.f1 t.f2 t.f3 t.f4 t.f5 co m) (fun x => x = (r.2.1 == (t.f0 == 9), true)) := by
            unfold pentaglotlaw26_at.f
            refine TotP.bind (tv_at ds ts id fs hw hd hdn hl hfw hfl (n + 1) t (by omega) (by omega) hwt co m hc hm) (fun a ha => TotP.now ?_)
            have a2 : a.2 = 0 := by have h1 := ha.1 ⟨hf, hi⟩; omega
            obtain ⟨x, g1, g2⟩ := e2_here ds ts id fs hw hd hdn hl hfw hfl (by omega) hb hwt hf co m hc hm
            rw [a2, ev_one (ha.2.2.2 a2).2 g1, ev_one g2 (truth_wit ds ts id fs hw hd hdn hl hfw hfl co m all hop w2)]
            rfl
          refine TotP.bind at_ (fun y hy => ?_)
          subst hy
          refine TotP.pos q0 (TotP.pos rfl (TotP.pos (by simp) (TotP.pos rfl (TotP.now ?_))))
          simp
        · exact bad e h0 (by omega)
    · refine TotP.step (fun _ => pentaglotlaw26_EvaluateWitness.j0.eq_2 ..) (TotP.pos rfl ?_)
      exact bad 1 (by decide) (r2 (fun h => hi h.2.1))
end world
theorem EvaluateWitness : pentaglotlaw26_EvaluateWitness.Pure := by
  intro p0 p1 p2 p3 h0 h1 h2 h3 hb
  have hlen := bulk28_len p0
  have h25 : bulk25 p0.f0 ≤ bulk28 p0 := by unfold bulk28; omega
  obtain ⟨r, hr, rfl⟩ := wit_law p0.f0.f0 p0.f0.f1 p0.f0.f2 p0.f1 h0.1.1 (by omega) (fun d hd => by have := names_le hd; omega) (by omega) h0.2 (by omega) p1 (by omega) h1 p2 p3 (okI_i h2) (okI_i h3)
  exact Ev.rounds hr
end Go.Proofs.YtolpckflofjfhaaDoor.Pure
