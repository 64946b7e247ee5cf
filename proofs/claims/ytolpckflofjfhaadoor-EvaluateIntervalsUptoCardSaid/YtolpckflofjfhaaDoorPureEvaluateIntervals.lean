import Derived.Test.YtolpckflofjfhaaDoorPx0
import Derived.Test.YtolpckflofjfhaaDoorPx5
import Derived.Test.YtolpckflofjfhaaDoorPx8
import Derived.Test.YtolpckflofjfhaaDoorPx9
import Derived.Test.YtolpckflofjfhaaDoorPx12
import Derived.Test.YtolpckflofjfhaaDoorPx27
import Derived.Test.YtolpckflofjfhaaDoorPx31
import Derived.Test.YtolpckflofjfhaaDoorEnF
namespace Go.Proofs.YtolpckflofjfhaaDoor.Pure
open Go.RowKit Go.Proofs.YtolpckflofjfhaaDoor.P Go.Proofs.YtolpckflofjfhaaDoorW.PrintWords Go.Proofs.YtolpckflofjfhaaDoorW.PrintLast
open Go.Proofs.YtolpckflofjfhaaDoor.En
set_option linter.unusedSectionVars false
set_option linter.unusedVariables false
set_option linter.unusedSimpArgs false
theorem someL_all (T : Int → Bool) (p : Int → Option Bool) : ∀ (n : Nat) (a : Int), (∀ i, a ≤ i → i < a + (n : Nat) → p i = some (T i)) → someL true p n a = some ((fromN a n).all T)
  | 0, a, _ => rfl
  | n + 1, a, h => by
    rw [someL, h a (by omega) (by omega), Option.bind_some, ← fromN_succ, List.all_cons]
    cases hT : T a with
    | false => rfl
    | true => rw [if_pos rfl, Bool.true_and]; exact someL_all T p n (a + 1) (fun i h1 h2 => h i (by omega) (by omega))
theorem ev_range {α : Type} {p : Nat → Int → Option α} {T : Int → α} : ∀ (n : Nat) (a : Int), (∀ i, a ≤ i → i < a + (n : Nat) → Ev (fun k => p k i) (T i)) → ∃ K, ∀ k, K ≤ k → ∀ i, a ≤ i → i < a + (n : Nat) → p k i = some (T i)
  | 0, a, _ => ⟨0, fun k _ i h1 h2 => by omega⟩
  | n + 1, a, h => by
    obtain ⟨K, hK⟩ := ev_range n (a + 1) (fun i h1 h2 => h i (by omega) (by omega))
    obtain ⟨L, hL⟩ := h a (by omega) (by omega)
    refine ⟨K + L, fun k hk i h1 h2 => ?_⟩
    by_cases e : i = a
    · subst e; exact hL k (by omega)
    · exact hK k (by omega) i (by omega) (by omega)
section world
variable (ds : List S73) (ts : List Int) (id : Int) (fs : List S62)
theorem truth_during (e : ByteArray) (ar : List S92) (a b : Int) (t : S32) (k : Nat) (bnd : List ByteArray) (co m : Int) : truthG ds ts id fs (k + 1) ⟨10, e, ar, a, b, [t]⟩ bnd co m = (evaluate_interval.f k ds ts id a b).bind fun ab => if 0 < [t].length ∧ -4611686018427387904 ≤ ab.1 ∧ ab.2.1 ≤ 4611686018427387904 then someL true (fun i => truthG ds ts id fs k t bnd co i) (ab.2.1 - ab.1).toNat ab.1 else none := by
  rw [truthG.eq_2]; rfl
variable (hw : ∀ d ∈ ds, wf73 d) (hd : ds.length < 4398046511104) (hdn : ∀ d ∈ ds, d.f1.length ≤ 1048576) (hl : ts.length ≤ 1048576) (hfw : ∀ x ∈ fs, wf62 x) (hfl : fs.length < 4398046511104)
include hw hd hdn hl hfw hfl
/-- What an interval's truth is. -/
theorem during_truth (n : Nat) (t : S32) (f g co m : Int) (hp : properB ds ts id = true) (T : Int → Bool) (hT : ∀ i, (itv ts f g).1 ≤ i → i < (itv ts f g).2.1 → Ev (fun k => truthG ds ts id fs k t [] co i) (T i)) {x : Bool}
    (hx : Ev (fun k => truthG ds ts id fs k ⟨10, ⟨#[]⟩, [], f, g, [t]⟩ [] co m) x) : x = (itvL ts f g).1.all T := by
  have hb := itv_bd ts f g
  obtain ⟨ha, hid⟩ := proper_id ds ts id fs hw hd (fun d hd => by have := hdn d hd; omega) (by omega) hfw hfl hp
  obtain ⟨K, hK⟩ := hx
  obtain ⟨L, hL⟩ := ev_interval ds id ha (by omega) f g
  obtain ⟨M, hM⟩ := ev_range (p := fun k i => truthG ds ts id fs k t [] co i) (T := T) ((itv ts f g).2.1 - (itv ts f g).1).toNat (itv ts f g).1 (fun i h1 h2 => hT i h1 (by omega))
  have h1 := hK (K + L + M + 1) (by omega)
  have h2 := hL (K + L + M) (by omega)
  simp only [] at h1 h2
  rw [truth_during, h2, Option.bind_some, if_pos ⟨by simp, by omega, by omega⟩, someL_all T (fun i => truthG ds ts id fs (K + L + M) t [] co i) _ _ (fun i h1 h2 => hM (K + L + M) (by omega) i h1 h2)] at h1
  rw [itvL_eq]
  exact (Option.some.inj h1).symm
/-- If the world fits an interval and its work is small, it fits the kid, and so is the kid's work, if the interval has a moment. -/
theorem during_kid (n : Nat) (t : S32) (f g : Int) (hf : FitP ds ts id (n + 1) ⟨10, ⟨#[]⟩, [], f, g, [t]⟩) (he : errQ ds ts id (n + 1) ⟨10, ⟨#[]⟩, [], f, g, [t]⟩ = 0) :
    FitP ds ts id n t ∧ (itv ts f g).2.2 = true ∧ ((itv ts f g).1 < (itv ts f g).2.1 → errQ ds ts id n t = 0) := by
  obtain ⟨hp, ⟨h1, h2, h3⟩, h4⟩ := hf
  obtain ⟨ha, hid⟩ := proper_id ds ts id fs hw hd (fun d hd => by have := hdn d hd; omega) (by omega) hfw hfl hp
  have hs : sizeN ⟨10, ⟨#[]⟩, [], f, g, [t]⟩ = 1 + sizeN t := by rw [sizeN_eq, sizeL, sizeL]; rfl
  have hdp : depthN ⟨10, ⟨#[]⟩, [], f, g, [t]⟩ = depthN t + 1 := by rw [depthN_eq, depthL, depthL]; simp
  rw [FormP] at h3
  rw [KnownP] at h4
  have hi : insN ⟨10, ⟨#[]⟩, [], f, g, [t]⟩ 0 = 0 := rfl
  rw [hi] at h3
  refine ⟨⟨hp, ⟨by omega, by omega, h3.2 t (by simp)⟩, h4.2.2 t (by simp)⟩, h4.1 rfl, fun hlt => ?_⟩
  have wb := workN_bd ds ts id hdn hl hid n t
  have hb := itv_bd ts f g
  have hfa : facN ds ts id ⟨10, ⟨#[]⟩, [], f, g, [t]⟩ = (itv ts f g).2.1 - (itv ts f g).1 := rfl
  have hsum : sumW (workN ds ts id n) 0 [t] = workN ds ts id n t := by
    rw [sumW, sumW, mn_eq]; split <;> omega
  have hwk : workN ds ts id (n + 1) ⟨10, ⟨#[]⟩, [], f, g, [t]⟩ = mn (1 + workN ds ts id n t * ((itv ts f g).2.1 - (itv ts f g).1)) 1048577 := by
    rw [workN, hfa]
    dsimp only
    rw [hsum]
  unfold errQ at he ⊢
  rw [hwk, mn_eq] at he
  by_cases h5 : 1048576 < workN ds ts id n t
  · exfalso
    have h6 : 1048577 * 1 ≤ workN ds ts id n t * ((itv ts f g).2.1 - (itv ts f g).1) := Int.mul_le_mul (by omega) (by omega) (by omega) wb.1
    split at he
    · split at he <;> omega
    · omega
  · rw [if_neg h5]
theorem intervals_f (t : S32) (h : bulk32 t ≤ 1048576) (hwt : wf32 t) (f g co m : Int) (hwf : (Lit.int .i64 f).wf = true) (hwto : (Lit.int .i64 g).wf = true) (hc : okI co = true) (hm : okI m = true) :
    TotP (fun k => pentaglotlaw26_EvaluateIntervals.f k ds ts id fs t.f0 t.f1 t.f2 t.f3 t.f4 t.f5 f g co m) (fun r => r = true) := by
  have hli := tot_light ds ts id fs hd (by omega) t (by omega)
  have wd : wf32 ⟨10, ⟨#[]⟩, [], f, g, [t]⟩ := by rw [wf32]; exact ⟨by decide, by decide, by simp, hwf, hwto, (wfL32_iff _).2 (fun x hx => by obtain rfl := List.mem_singleton.1 hx; exact hwt)⟩
  have bd : bulk32 ⟨10, ⟨#[]⟩, [], f, g, [t]⟩ ≤ bulk32 t + 100 := by
    simp only [bulk32, bulkL32, List.map_nil, List.sum_nil]
    have : (⟨#[]⟩ : ByteArray).size = 0 := rfl
    omega
  have e0 : (⟨t.f0, t.f1, t.f2, t.f3, t.f4, t.f5⟩ : S32) = t := by cases t; rfl
  unfold pentaglotlaw26_EvaluateIntervals.f
  refine TotP.bind (Q := fun r => r = true) ⟨_, ev_awake, rfl⟩ (fun a ha => TotP.pos ha ?_)
  refine TotP.all hli (fun v => TotP.ite (fun _ => ?_) (fun _ => TotP.now rfl))
  simp only [pentaglotlaw26_kid.f, Option.bind_some]
  rw [e0]
  unfold pentaglotlaw26_at.f
  refine TotP.bind (Q := fun r => r.2 = true → FitP ds ts id 1048678 ⟨10, ⟨#[]⟩, [], f, g, [t]⟩ ∧ errQ ds ts id 1048678 ⟨10, ⟨#[]⟩, [], f, g, [t]⟩ = 0 ∧ insideB ts id co m = true ∧ Ev (fun k => truthG ds ts id fs k ⟨10, ⟨#[]⟩, [], f, g, [t]⟩ [] co m) r.1)
    (TotP.bind (tv_at ds ts id fs hw hd hdn hl hfw hfl 1048678 ⟨10, ⟨#[]⟩, [], f, g, [t]⟩ (by omega) (by omega) wd co m hc hm) (fun r hr => TotP.now (fun h0 => ?_))) (fun x hx => ?_)
  · have h0 : r.2 = 0 := by simpa using h0
    have h1 := hr.2.2.2 h0
    by_cases hi : insideB ts id co m = true
    · exact ⟨h1.1, by rw [← hr.1 ⟨h1.1, hi⟩, h0], hi, h1.2⟩
    · have := hr.2.1 (fun h => hi h.2)
      omega
  refine TotP.bind (Q := fun r => properB ds ts id = true → (itv ts f g).2.2 = true → r = ((itvL ts f g).1, 0)) ⟨_, ev_moments ds ts id fs hw hd (by omega) f g, fun hp hi => ?_⟩ (fun y hy => ?_)
  · rw [if_pos hp]
    have : (itvL ts f g).2 = true := by rw [itvL_eq]; exact hi
    unfold itvL at this ⊢
    cases hml : momL ts f g with
    | none => rw [hml] at this; cases this
    | some l => rfl
  refine TotP.ite (fun hok => ?_) (fun _ => TotP.now rfl)
  obtain ⟨hf, he, hin, hev⟩ := hx hok
  obtain ⟨hft, hi2, hew⟩ := during_kid ds ts id fs hw hd hdn hl hfw hfl 1048677 t f g hf he
  have hy' := hy hf.1 hi2
  subst hy'
  have hb := itv_bd ts f g
  have hins : 0 ≤ co ∧ co ≤ id := by
    unfold insideB at hin
    simp only [Bool.and_eq_true, decide_eq_true_eq] at hin
    omega
  have ex : ∀ i : Int, ∃ r : Bool, (itv ts f g).1 ≤ i → i < (itv ts f g).2.1 → Ev (fun k => pentaglotlaw26_at.f k ds ts id fs t.f0 t.f1 t.f2 t.f3 t.f4 t.f5 co i) (r, true) ∧ Ev (fun k => truthG ds ts id fs k t [] co i) r := by
    intro i
    by_cases h12 : (itv ts f g).1 ≤ i ∧ i < (itv ts f g).2.1
    · obtain ⟨r, hr, h1, h2, h3, h4⟩ := tv_at ds ts id fs hw hd hdn hl hfw hfl 1048677 t (by omega) (by omega) hwt co i hc (okI_b (by omega) (by omega))
      have hii : insideB ts id co i = true := by unfold insideB; simp only [Bool.and_eq_true, decide_eq_true_eq]; omega
      have h5 : r.2 = 0 := by rw [h1 ⟨hft, hii⟩, hew (by omega)]
      refine ⟨r.1, fun _ _ => ⟨?_, (h4 h5).2⟩⟩
      unfold pentaglotlaw26_at.f
      refine Ev.bind hr ?_
      rw [h5]
      exact Ev.now _
    · exact ⟨true, fun h1 h2 => absurd ⟨h1, h2⟩ h12⟩
  obtain ⟨T, hT⟩ := Classical.axiomOfChoice ex
  have hxx := during_truth ds ts id fs hw hd hdn hl hfw hfl 0 t f g co m hf.1 T (fun i h1 h2 => (hT i h1 h2).2) hev
  have hlen : (itvL ts f g).1.length = ((itv ts f g).2.1 - (itv ts f g).1).toNat := by rw [itvL_eq, fromN_len]
  rw [hxx]
  refine TotP.weak (loopV (itvL ts f g).1.length (fun (s : Bool) i k => pentaglotlaw26_EvaluateIntervals.l0 k co ((itvL ts f g).1.all T) (itvL ts f g).1 0 s i ds ts id fs t.f0 t.f1 t.f2 t.f3 t.f4 t.f5) (fun s j r => r = (((itvL ts f g).1.all T) == (s && ((itvL ts f g).1.drop j).all T))) (fun s => ?_) (fun s j hj ih => ?_) true) (fun r hr => ?_)
  · refine TotP.step (fun _ => pentaglotlaw26_EvaluateIntervals.l0.eq_2 ..) (TotP.neg (by omega) (TotP.pos rfl (TotP.now ?_)))
    rw [List.drop_length, List.all_nil, Bool.and_true]
  · refine TotP.step (fun _ => pentaglotlaw26_EvaluateIntervals.l0.eq_2 ..) (TotP.pos (by omega) (TotP.pos (by omega) ?_))
    have hrd : rd (itvL ts f g).1 (j : Int) = (itvL ts f g).1[j] := by unfold rd; rw [Int.toNat_natCast, List.getD_eq_getElem?_getD, List.getElem?_eq_getElem hj]; rfl
    have hel : (itvL ts f g).1[j] = (itv ts f g).1 + (j : Int) := by simp [itvL_eq, fromN]
    rw [wj hj (by omega), hrd, List.drop_eq_getElem_cons hj, List.all_cons, hel]
    refine TotP.bind (Q := fun r => r = (T ((itv ts f g).1 + (j : Int)), true)) ⟨_, (hT _ (by omega) (by omega)).1, rfl⟩ (fun r hr => ?_)
    subst hr
    refine TotP.ite (fun hs => TotP.ite (fun ht => TotP.weak (ih true) (fun r hr => ?_)) (fun ht => TotP.weak (ih false) (fun r hr => ?_))) (fun hs => TotP.weak (ih false) (fun r hr => ?_))
    · dsimp only at ht
      rw [hr, hs, ht]
      simp
    · dsimp only at ht
      rw [hr, Bool.eq_false_iff.2 ht]
      simp
    · rw [hr, Bool.eq_false_iff.2 hs]
      simp
  · rw [hr]
    simp
end world
theorem names_len {x : S25} {d : S73} (h : d ∈ x.f0) : d.f1.length ≤ bulk25 x := by
  have h1 := mem_sum bulk73 h
  have h2 : d.f1.length ≤ (d.f1.map fun s => s.size + 1).sum := len_le _ (fun s => by omega) d.f1
  have h3 : d.f1.length ≤ bulk73 d := by unfold bulk73; omega
  unfold bulk25
  omega
theorem EvaluateIntervals : pentaglotlaw26_EvaluateIntervals.Pure := by
  intro p0 p1 p2 p3 p4 p5 h0 h1 h2 h3 h4 h5 hb
  have hlen := bulk28_len p0
  have h25 : bulk25 p0.f0 ≤ bulk28 p0 := by unfold bulk28; omega
  have hdn : ∀ d ∈ p0.f0.f0, d.f1.length ≤ 1048576 := fun d hd => by have := names_len hd; omega
  obtain ⟨r, hr, rfl⟩ := intervals_f p0.f0.f0 p0.f0.f1 p0.f0.f2 p0.f1 h0.1.1 (by omega) hdn (by omega) h0.2 (by omega) p1 (by omega) h1 p2 p3 p4 p5 h2 h3 (okI_i h4) (okI_i h5)
  exact Ev.rounds hr
end Go.Proofs.YtolpckflofjfhaaDoor.Pure
