import Derived.Test.YtolpckflofjfhaaDoorPx0
import Derived.Test.YtolpckflofjfhaaDoorPx15
import Derived.Test.YtolpckflofjfhaaDoorPx32
import Derived.Test.YtolpckflofjfhaaDoorEnA
namespace Go.Proofs.YtolpckflofjfhaaDoor.Pure
open Go.RowKit Go.Proofs.YtolpckflofjfhaaDoor.P Go.Proofs.YtolpckflofjfhaaDoorW.PrintWords Go.Proofs.YtolpckflofjfhaaDoorW.PrintLast
open Go.Proofs.YtolpckflofjfhaaDoor.En
theorem mom_len {ts : List Int} (hl : ts.length ≤ 1048576) {f t : Int} {l : List Int} (h : momL ts f t = some l) : l.length < 4398046511104 := by
  unfold momL at h
  cases hf : endN ts 0 f with
  | none => simp [hf] at h
  | some a =>
    cases ht : endN ts (2 * (ts.length : Int) + 1) t with
    | none => simp [hf, ht] at h
    | some b =>
      have h1 := endN_bound hf (by omega)
      have h2 := endN_bound ht (by omega)
      simp only [hf, ht] at h
      injection h with h
      rw [← h, fromN_len]
      omega
theorem moments_j0 (ds : List S73) (ts : List Int) (id : Int) (fs : List S62) (hw : ∀ d ∈ ds, wf73 d) (hd : ds.length < 4398046511104) (hl' : ts.length ≤ 1048576) (f t : Int) (b : Bool) :
    Ev (fun k => pentaglotlaw26_EvaluateMoments.j0 k f t b ds ts id fs) true := by
  have hl : ts.length < 4398046511104 := by omega
  cases b with
  | true => exact Ev.step (f := fun _ => some true) (fun k => by rw [pentaglotlaw26_EvaluateMoments.j0, if_pos rfl]) (Ev.now _)
  | false =>
    refine Ev.step (fun _ => pentaglotlaw26_EvaluateMoments.j0.eq_2 ..) ?_
    simp only [Bool.false_eq_true, if_false]
    refine Ev.bind (ev_moments ds ts id fs hw hd hl f t) ?_
    refine Ev.bind (ev_refInterval ds ts id hl f t) ?_
    cases hm : momL ts f t with
    | none =>
      simp only [Bool.false_eq_true, if_false]
      by_cases hp : properB ds ts id = true
      · simp only [if_pos hp]; exact Ev.now _
      · simp only [if_neg hp]; exact Ev.now _
    | some l =>
      simp only [if_true]
      refine Ev.bind (ev_proper ds ts id hd hl) ?_
      by_cases hp : properB ds ts id = true
      · simp only [if_pos hp, if_true]
        exact Ev.bind (ev_sameInts l (mom_len hl' hm)) (Ev.now _)
      · simp only [if_neg hp]; exact Ev.now _
theorem EvaluateMoments : pentaglotlaw26_EvaluateMoments.Pure := by
  intro p0 p1 p2 h0 _ _ hb
  have hlen := bulk28_len p0
  have j0 := fun b => moments_j0 p0.f0.f0 p0.f0.f1 p0.f0.f2 p0.f1 h0.1.1 (by omega) (by omega) p1 p2 b
  refine Ev.rounds ?_
  unfold pentaglotlaw26_EvaluateMoments.f
  refine Ev.bind ev_awake ?_
  simp only [if_true]
  split
  · exact j0 _
  · exact j0 _
end Go.Proofs.YtolpckflofjfhaaDoor.Pure
