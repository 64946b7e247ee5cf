import Derived.Test.YtolpckflofjfhaaDoorPx0
import Derived.Test.YtolpckflofjfhaaDoorPx10
import Derived.Test.YtolpckflofjfhaaDoorPx12
import Derived.Test.YtolpckflofjfhaaDoorPx24
import Derived.Test.YtolpckflofjfhaaDoorPx27
import Derived.Test.YtolpckflofjfhaaDoorPx28
import Derived.Test.YtolpckflofjfhaaDoorPx32
import Derived.Test.YtolpckflofjfhaaDoorEnB
namespace Go.Proofs.YtolpckflofjfhaaDoor.Pure
open Go.RowKit Go.Proofs.YtolpckflofjfhaaDoor.P Go.Proofs.YtolpckflofjfhaaDoorW.PrintWords Go.Proofs.YtolpckflofjfhaaDoorW.PrintLast
open Go.Proofs.YtolpckflofjfhaaDoor.En
set_option linter.unusedSectionVars false
def errL (R : S32 → Bool × Int) : List S32 → Int
  | [] => 0
  | t :: l => if (R t).2 = 0 then errL R l else (R t).2
def valL (R : S32 → Bool × Int) (l : List S32) : List Bool := l.map fun t => (R t).1
theorem errL_append (R : S32 → Bool × Int) (l r : List S32) : errL R (l ++ r) = if errL R l = 0 then errL R r else errL R l := by
  induction l with
  | nil => simp [errL]
  | cons t l ih =>
    rw [List.cons_append, errL, errL, ih]
    by_cases h : (R t).2 = 0
    · rw [if_pos h, if_pos h]
    · rw [if_neg h, if_neg h, if_neg h]
theorem valL_append (R : S32 → Bool × Int) (l r : List S32) : valL R (l ++ r) = valL R l ++ valL R r := List.map_append
theorem rd_mid (pre rest : List S32) (t : S32) : rd_T32 (pre ++ t :: rest) ((pre.length : Nat) : Int) = t := by
  rw [rd32 (show pre.length < (pre ++ t :: rest).length by simp)]
  simp
section world
variable (ds : List S73) (ts : List Int) (id : Int) (fs : List S62) (l : List S32) (R : S32 → Bool × Int) (hlen : l.length ≤ 10)
  (hR : ∀ t ∈ l, Ev (fun k => evaluate_True.f k ds ts id fs t.f0 t.f1 t.f2 t.f3 t.f4 t.f5) (R t) ∧ ((R t).2 ≠ 0 → (R t).1 = false))
include hlen hR
theorem which_loop : ∀ (rest pre : List S32), l = pre ++ rest → errL R pre = 0 → Ev (fun k => evaluate_Which.l0 k (valL R pre) l (l.length : Int) (pre.length : Int) ds ts id fs) (if errL R l = 0 then (valL R l, 0) else ([], errL R l))
  | [], pre, hl, he => by
    rw [List.append_nil] at hl
    subst hl
    refine Ev.step (f := fun _ => some (valL R l, 0)) (fun k => by rw [evaluate_Which.l0, if_neg (by omega)]) ?_
    rw [if_pos he]
    exact Ev.now _
  | t :: rest, pre, hl, he => by
    have hr : rd_T32 l ((pre.length : Nat) : Int) = t := by rw [hl]; exact rd_mid pre rest t
    have hj : pre.length < l.length := by rw [hl]; simp
    have hm := hR t (by rw [hl]; simp)
    refine Ev.step (f := fun k => (evaluate_True.f k ds ts id fs t.f0 t.f1 t.f2 t.f3 t.f4 t.f5).bind fun bt => if bt.2 = 0 then (if (valL R pre).length < 140737488355328 then evaluate_Which.l0 k (valL R pre ++ [bt.1]) l (l.length : Int) (((pre ++ [t]).length : Nat) : Int) ds ts id fs else none) else some ([], bt.2)) (fun k => ?_) (Ev.bind hm.1 ?_)
    · rw [evaluate_Which.l0, if_pos (by omega), if_pos (by omega), if_pos (by omega), hr, wj hj (by omega)]
      simp
    · by_cases h0 : (R t).2 = 0
      · simp only [if_pos h0]
        have : (valL R pre).length < 140737488355328 := by unfold valL; rw [List.length_map]; omega
        simp only [if_pos this]
        have e : valL R pre ++ [(R t).1] = valL R (pre ++ [t]) := by rw [valL_append]; rfl
        rw [e]
        exact which_loop rest (pre ++ [t]) (by rw [hl]; simp) (by rw [errL_append, if_pos he, errL, if_pos h0]; rfl)
      · simp only [if_neg h0]
        have : errL R l = (R t).2 := by rw [hl, errL_append, if_pos he, errL, if_neg h0]
        rw [this, if_neg h0]
        exact Ev.now _
theorem ev_which : Ev (fun k => evaluate_Which.f k ds ts id fs l) (if errL R l = 0 then (valL R l, 0) else ([], errL R l)) := which_loop ds ts id fs l R hlen hR l [] rfl rfl
theorem ev_contains (L : List Bool) (hL : L.length ≤ 10) : Ev (fun k => slices_Contains_bool_bool.f k L false) (!L.all fun b => b) := by
  have : TotP (fun k => slices_Index_bool_bool.f k L false) (fun r => decide (r ≥ 0) = !((L.drop 0).all fun b => b)) := by
    refine loopI L.length (fun i k => slices_Index_bool_bool.l0 k L false (L.length : Int) i) (fun j r => decide (r ≥ 0) = !((L.drop j).all fun b => b)) (fun j hj => ?_) (fun j hj ih => ?_) 0
    · refine TotP.step (fun _ => slices_Index_bool_bool.l0.eq_2 ..) ?_
      refine TotP.neg (by omega) (TotP.now ?_)
      rw [List.drop_eq_nil_of_le (by omega)]
      rfl
    · refine TotP.step (fun _ => slices_Index_bool_bool.l0.eq_2 ..) ?_
      rw [wj hj (by omega)]
      refine TotP.pos (by omega) (TotP.pos (by omega) (TotP.pos (by omega) ?_))
      have hr : rdOf false L ((j : Nat) : Int) = L[j] := by unfold rdOf; rw [Int.toNat_natCast, List.getD_eq_getElem?_getD, List.getElem?_eq_getElem hj]; rfl
      rw [hr, List.drop_eq_getElem_cons hj, List.all_cons]
      refine TotP.ite (fun h => TotP.now ?_) (fun h => ?_)
      · have : L[j] = false := by simpa using h
        rw [this]
        simp
      · have : L[j] = true := by simpa using h
        rw [this, Bool.true_and]
        exact ih
  obtain ⟨r, hr, he⟩ := this
  rw [List.drop_zero] at he
  unfold slices_Contains_bool_bool.f
  refine Ev.bind hr ?_
  rw [he]
  exact Ev.now _
theorem ev_all : Ev (fun k => evaluate_All.f k ds ts id fs l) (if errL R l = 0 then ((valL R l).all fun b => b, 0) else (false, errL R l)) := by
  unfold evaluate_All.f
  refine Ev.bind (ev_which ds ts id fs l R hlen hR) ?_
  by_cases h : errL R l = 0
  · simp only [if_pos h, if_true]
    refine Ev.bind (ev_contains ds ts id fs l R hlen hR (valL R l) (by unfold valL; rw [List.length_map]; exact hlen)) ?_
    rw [Bool.not_not]
    exact Ev.now _
  · simp only [if_neg h]
    exact Ev.now _
theorem same_loop (L : List Bool) (hL : L.length ≤ 10) : ∀ m j, L.length - j = m → Ev (fun k => pentaglotlaw26_EvaluateLists.l1 k L L (j : Int)) true := by
  intro m
  induction m with
  | zero => exact fun j hj => Ev.step (f := fun _ => some true) (fun k => by rw [pentaglotlaw26_EvaluateLists.l1, if_neg (by omega)]) (Ev.now _)
  | succ m ih =>
    intro j hj
    have hj' : j < L.length := by omega
    refine Ev.step (fun k => ?_) (ih (j + 1) (by omega))
    rw [pentaglotlaw26_EvaluateLists.l1, if_pos (by omega), if_pos (by omega), if_pos (by omega), wj hj' (by omega), bne_self_eq_false, if_neg (by simp)]
theorem law_loop (hL : ∀ t ∈ l, Tot (fun k => pentaglotref26_Light.f k ds ts id fs t.f0 t.f1 t.f2 t.f3 t.f4 t.f5)) : ∀ (rest pre : List S32), l = pre ++ rest → Ev (fun k => pentaglotlaw26_EvaluateLists.l0 k l ((valL R pre).all fun b => b) (errL R pre) (valL R pre) (pre.length : Int) ds ts id fs) true
  | [], pre, hl => by
    rw [List.append_nil] at hl
    subst hl
    refine Ev.step (fun k => by rw [pentaglotlaw26_EvaluateLists.l0, if_neg (by omega)]) ?_
    refine Ev.bind (ev_all ds ts id fs l R hlen hR) ?_
    refine Ev.bind (ev_which ds ts id fs l R hlen hR) ?_
    by_cases h : errL R l = 0
    · simp only [if_pos h, if_true, bne_self_eq_false, Bool.false_eq_true, if_false]
      refine Ev.step (fun k => by rw [pentaglotlaw26_EvaluateLists.j1, if_neg (by simp)]) ?_
      exact same_loop ds ts id fs l R hlen hR (valL R l) (by unfold valL; rw [List.length_map]; exact hlen) _ 0 rfl
    · simp only [if_neg h, Bool.false_eq_true, if_false, List.length_nil, Int.ofNat_zero, if_true, beq_self_eq_true]
      exact Ev.now _
  | t :: rest, pre, hl => by
    have hr : rd_T32 l ((pre.length : Nat) : Int) = t := by rw [hl]; exact rd_mid pre rest t
    have hj : pre.length < l.length := by rw [hl]; simp
    have hmem : t ∈ l := by rw [hl]; simp
    have hm := hR t hmem
    have hlt : (valL R pre).length < 140737488355328 := by unfold valL; rw [List.length_map]; omega
    have next := law_loop hL rest (pre ++ [t]) (by rw [hl]; simp)
    rw [valL_append, errL_append] at next
    simp only [List.length_append, List.length_cons, List.length_nil, Nat.zero_add] at next
    have ev1 : valL R [t] = [(R t).1] := rfl
    have ev2 : errL R [t] = (R t).2 := by rw [errL, errL]; split <;> simp_all
    rw [ev1, ev2, List.all_append] at next
    obtain ⟨v, hv, _⟩ := hL t hmem
    refine Ev.step (fun k => by rw [pentaglotlaw26_EvaluateLists.l0, if_pos (by omega), if_pos (by omega), hr, wj hj (by omega)]) ?_
    refine Ev.bind hv ?_
    by_cases hvt : v = true
    · simp only [if_pos hvt]
      refine Ev.bind hm.1 ?_
      simp only [if_pos hlt]
      by_cases h6 : errL R pre = 0
      · simp only [if_pos h6] at next ⊢
        by_cases h5 : ((valL R pre).all fun b => b) = true
        · simp only [if_pos h5]
          rw [h5] at next
          simpa using next
        · simp only [if_neg h5]
          rw [Bool.not_eq_true] at h5
          rw [h5] at next
          simpa using next
      · simp only [if_neg h6] at next ⊢
        by_cases h5 : ((valL R pre).all fun b => b) = true
        · simp only [if_pos h5]
          rw [h5] at next
          simpa using next
        · simp only [if_neg h5]
          rw [Bool.not_eq_true] at h5
          rw [h5] at next
          simpa using next
    · simp only [if_neg hvt]
      exact Ev.now _
end world
theorem names_len {x : S25} {d : S73} (h : d ∈ x.f0) : d.f1.length ≤ bulk25 x := by
  have h1 := mem_sum bulk73 h
  have h2 : d.f1.length ≤ (d.f1.map fun s => s.size + 1).sum := len_le _ (fun s => by omega) d.f1
  have h3 : d.f1.length ≤ bulk73 d := by unfold bulk73; omega
  unfold bulk25
  omega
theorem EvaluateLists : pentaglotlaw26_EvaluateLists.Pure := by
  intro p0 p1 h0 h1 hb
  have hlen := bulk28_len p0
  have h25 : bulk25 p0.f0 ≤ bulk28 p0 := by unfold bulk28; omega
  have hd : p0.f0.f0.length < 4398046511104 := by omega
  have hl : p0.f0.f1.length < 4398046511104 := by omega
  have hdn : ∀ d ∈ p0.f0.f0, d.f1.length < 4398046511104 := fun d hd => by have := names_len hd; omega
  have hbk : ∀ t ∈ p1, bulk32 t < 1048577 := fun t ht => by have := mem_sum bulk32 ht; omega
  refine Ev.rounds ?_
  unfold pentaglotlaw26_EvaluateLists.f
  refine Ev.bind ev_awake ?_
  simp only [if_true]
  by_cases h10 : (p1.length : Int) > 10
  · simp only [if_pos h10]
    exact Ev.now _
  · simp only [if_neg h10]
    have ex : ∀ t : S32, ∃ r : Bool × Int, t ∈ p1 → Ev (fun k => evaluate_True.f k p0.f0.f0 p0.f0.f1 p0.f0.f2 p0.f1 t.f0 t.f1 t.f2 t.f3 t.f4 t.f5) r ∧ (r.2 ≠ 0 → r.1 = false) := by
      intro t
      by_cases ht : t ∈ p1
      · obtain ⟨r, hr, hr'⟩ := tot_true p0.f0.f0 p0.f0.f1 p0.f0.f2 p0.f1 h0.1.1 hd hdn hl h0.2 (by omega) 1048577 t (hbk t ht) (by omega) (h1 t ht)
        exact ⟨r, fun _ => ⟨hr, hr'⟩⟩
      · exact ⟨(false, 0), fun h => absurd h ht⟩
    obtain ⟨R, hR⟩ := Classical.axiomOfChoice ex
    exact law_loop p0.f0.f0 p0.f0.f1 p0.f0.f2 p0.f1 p1 R (by omega) hR (fun t ht => tot_light p0.f0.f0 p0.f0.f1 p0.f0.f2 p0.f1 hd hl t (by have := hbk t ht; omega)) p1 [] rfl
end Go.Proofs.YtolpckflofjfhaaDoor.Pure
