import Derived.Test.YtolpckflofjfhaaDoorEnG
namespace Go.Proofs.YtolpckflofjfhaaDoor.En
set_option linter.unusedVariables false
set_option linter.unusedSimpArgs false
set_option linter.unusedSectionVars false
open Go.RowKit Go.Proofs.YtolpckflofjfhaaDoor.P Go.Proofs.YtolpckflofjfhaaDoorW.PrintWords Go.Proofs.YtolpckflofjfhaaDoorW.PrintLast
theorem ev_one {α : Type} {g : Nat → Option α} {a b : α} (h : Ev g a) (k : Ev g b) : a = b := by
  obtain ⟨K, hK⟩ := h
  obtain ⟨L, hL⟩ := k
  exact Option.some.inj ((hK (K + L) (by omega)).symm.trans (hL (K + L) (by omega)))
theorem names_le {x : S25} {d : S73} (h : d ∈ x.f0) : d.f1.length ≤ bulk25 x := by
  have h1 := mem_sum bulk73 h
  have h2 : d.f1.length ≤ (d.f1.map fun s => s.size + 1).sum := len_le _ (fun s => by omega) d.f1
  have h3 : d.f1.length ≤ bulk73 d := by unfold bulk73; omega
  unfold bulk25
  omega
section world
variable (ds : List S73) (ts : List Int) (id : Int) (fs : List S62) (hw : ∀ d ∈ ds, wf73 d) (hd : ds.length < 4398046511104) (hdn : ∀ d ∈ ds, d.f1.length ≤ 1048576) (hl : ts.length ≤ 1048576) (hfw : ∀ x ∈ fs, wf62 x) (hfl : fs.length < 4398046511104)
include hw hd hdn hl hfw hfl
theorem fit_id {n : Nat} {t : S32} (hf : FitP ds ts id n t) : ts.Pairwise (· < ·) ∧ (id = 1 ∨ id = 2) :=
  proper_id ds ts id fs hw hd (fun d hd => by have := hdn d hd; omega) (by omega) hfw hfl hf.1
theorem tv_err (n : Nat) (t : S32) (h : bulk32 t < n) (hn : n ≤ 2199023255552) : TotP (fun k => pentaglotref26_Error.f k ds ts id fs t.f0 t.f1 t.f2 t.f3 t.f4 t.f5) (fun e => (FitP ds ts id n t → e = errQ ds ts id n t) ∧ (¬ FitP ds ts id n t → e = 1)) := by
  unfold pentaglotref26_Error.f
  refine TotP.bind (tv_fits ds ts id fs hw hd hdn hl hfw hfl n t h hn) (fun v hv => TotP.ite (fun h1 => ?_) (fun h1 => TotP.now ⟨fun h => absurd (hv.2 h) h1, fun _ => rfl⟩))
  have hf := hv.1 h1
  refine TotP.bind (tv_rwork ds ts id fs hd hdn hl (fit_id ds ts id fs hw hd hdn hl hfw hfl hf).2 n t h hn) (fun w hw' => ?_)
  subst hw'
  refine TotP.ite (fun h2 => TotP.now ⟨fun _ => ?_, fun h => absurd hf h⟩) (fun h2 => TotP.now ⟨fun _ => ?_, fun h => absurd hf h⟩)
  · unfold errQ; rw [if_pos (by omega)]
  · unfold errQ; rw [if_neg (by omega)]
theorem place_f (co m : Int) : pentaglotref26_Place.f ds ts id fs co m = some (insideB ts id co m) := by
  unfold pentaglotref26_Place.f pentaglotref26_Last.f insideB
  rw [w64 (by omega) (by omega), Option.bind_some]
  by_cases h0 : 0 ≤ co
  · rw [if_pos h0, decide_eq_true h0]
    by_cases h1 : co ≤ id
    · rw [if_pos h1, decide_eq_true h1]
      by_cases h2 : 0 ≤ m
      · rw [if_pos h2, decide_eq_true h2]; simp
      · rw [if_neg h2, decide_eq_false h2]; simp
    · rw [if_neg h1, decide_eq_false h1]; simp
  · rw [if_neg h0, decide_eq_false h0]; simp
theorem e2_here {n : Nat} {t : S32} (hn : n ≤ 4398046511103) (hb : bulk32 t ≤ 1048576) (hwt : wf32 t) (hf : FitP ds ts id n t) (co m : Int) (hc : okI co = true) (hm : okI m = true) : Ev2 (fun k => truthG ds ts id fs k t [] co m) (fun k => rtG ds ts id fs k t [] co m) := by
  obtain ⟨ha, hid⟩ := fit_id ds ts id fs hw hd hdn hl hfw hfl hf
  exact e2_truth ds ts id fs hw hd hdn hl ha hid hfl n t [] co m hf.2.1.2.2 hwt hb (by simpa using hn) (fun s hs => by cases hs) hc hm
theorem tv_rtruth {n : Nat} {t : S32} (hn : n ≤ 4398046511103) (hb : bulk32 t ≤ 1048576) (hwt : wf32 t) (hf : FitP ds ts id n t) (co m : Int) (hc : okI co = true) (hm : okI m = true) {r : Bool} (hr : Ev (fun k => truthG ds ts id fs k t [] co m) r) : TotP (fun k => pentaglotref26_Truth.f k ds ts id fs t.f0 t.f1 t.f2 t.f3 t.f4 t.f5 [] co m) (fun q => q = r) := by
  obtain ⟨x, h1, h2⟩ := e2_here ds ts id fs hw hd hdn hl hfw hfl hn hb hwt hf co m hc hm
  have e0 : (⟨t.f0, t.f1, t.f2, t.f3, t.f4, t.f5⟩ : S32) = t := by cases t; rfl
  exact ⟨x, by unfold pentaglotref26_Truth.f; rw [e0]; exact h2, ev_one h1 hr⟩
end world
end Go.Proofs.YtolpckflofjfhaaDoor.En
