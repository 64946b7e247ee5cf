import Derived.Test.YtolpckflofjfhaaDoorPx0
import Derived.Test.YtolpckflofjfhaaDoorPx6
import Derived.Test.YtolpckflofjfhaaDoorPx8
import Derived.Test.YtolpckflofjfhaaDoorPx9
import Derived.Test.YtolpckflofjfhaaDoorPx12
import Derived.Test.YtolpckflofjfhaaDoorPx27
import Derived.Test.YtolpckflofjfhaaDoorPx30
import Derived.Test.YtolpckflofjfhaaDoorEnB
namespace Go.Proofs.YtolpckflofjfhaaDoor.Pure
open Go.RowKit Go.Proofs.YtolpckflofjfhaaDoor.P Go.Proofs.YtolpckflofjfhaaDoorW.PrintWords Go.Proofs.YtolpckflofjfhaaDoorW.PrintLast
open Go.Proofs.YtolpckflofjfhaaDoor.En
set_option linter.unusedSectionVars false
theorem someL_not (p : Int → Option Bool) : ∀ n i, someL false (fun i => (p i).bind fun b => some (!b)) n i = (someL true p n i).bind fun b => some (!b)
  | 0, _ => rfl
  | n + 1, i => by
    rw [someL, someL]
    cases p i with
    | none => rfl
    | some b =>
      cases b with
      | true => simpa using someL_not p n (i + 1)
      | false => rfl
section world
variable (ds : List S73) (ts : List Int) (id : Int) (fs : List S62)
theorem truth_not (e : ByteArray) (ar : List S92) (a b : Int) (t : S32) (k : Nat) (bnd : List ByteArray) (co m : Int) : truthG ds ts id fs (k + 1) ⟨4, e, ar, a, b, [t]⟩ bnd co m = (truthG ds ts id fs k t bnd co m).bind fun b => some (!b) := by
  rw [truthG.eq_2]; rfl
theorem truth_obl (e : ByteArray) (ar : List S92) (a b : Int) (t : S32) (k : Nat) (bnd : List ByteArray) (co m : Int) : truthG ds ts id fs (k + 1) ⟨11, e, ar, a, b, [t]⟩ bnd co m = if 0 < [t].length ∧ 0 ≤ id ∧ id < 4611686018427387904 then someL true (fun i => truthG ds ts id fs k t bnd i m) id.toNat 1 else none := by
  rw [truthG.eq_2]; rfl
theorem truth_per (e : ByteArray) (ar : List S92) (a b : Int) (t : S32) (k : Nat) (bnd : List ByteArray) (co m : Int) : truthG ds ts id fs (k + 1) ⟨12, e, ar, a, b, [t]⟩ bnd co m = if 0 < [t].length ∧ 0 ≤ id ∧ id < 4611686018427387904 then someL false (fun i => truthG ds ts id fs k t bnd i m) id.toNat 1 else none := by
  rw [truthG.eq_2]; rfl
theorem truth_all (e : ByteArray) (ar : List S92) (a b : Int) (t : S32) (k : Nat) (bnd : List ByteArray) (co m : Int) : truthG ds ts id fs (k + 1) ⟨8, e, ar, a, b, [t]⟩ bnd co m = (evaluate_individuals.f k ds ts id e).bind fun ns => if 0 < [t].length ∧ ns.1.length < 4398046511104 ∧ bnd.length < 4398046511104 then someL true (fun i => truthG ds ts id fs k t (bnd ++ [rdOf ByteArray.empty ns.1 i]) co m) ns.1.length 0 else none := by
  rw [truthG.eq_2]; rfl
theorem truth_some (e : ByteArray) (ar : List S92) (a b : Int) (t : S32) (k : Nat) (bnd : List ByteArray) (co m : Int) : truthG ds ts id fs (k + 1) ⟨9, e, ar, a, b, [t]⟩ bnd co m = (evaluate_individuals.f k ds ts id e).bind fun ns => if 0 < [t].length ∧ ns.1.length < 4398046511104 ∧ bnd.length < 4398046511104 then someL false (fun i => truthG ds ts id fs k t (bnd ++ [rdOf ByteArray.empty ns.1 i]) co m) ns.1.length 0 else none := by
  rw [truthG.eq_2]; rfl
/-- Obliged is the same ar Not Permitted Not. -/
theorem dual_obl (t : S32) (co m : Int) {x y : Bool} (hx : Ev (fun k => truthG ds ts id fs k ⟨11, ⟨#[]⟩, [], 0, 0, [t]⟩ [] co m) x) (hy : Ev (fun k => truthG ds ts id fs k ⟨4, ⟨#[]⟩, [], 0, 0, [⟨12, ⟨#[]⟩, [], 0, 0, [⟨4, ⟨#[]⟩, [], 0, 0, [t]⟩]⟩]⟩ [] co m) y) : x = y := by
  obtain ⟨K, hK⟩ := hx
  obtain ⟨L, hL⟩ := hy
  have h1 := hK (K + L + 1) (by omega)
  have h2 := hL (K + L + 3) (by omega)
  simp only [] at h1 h2
  rw [truth_obl] at h1
  rw [truth_not, truth_per] at h2
  simp only [truth_not] at h2
  split at h1
  · rw [if_pos (by assumption), someL_not, h1] at h2
    simpa using Option.some.inj h2
  · cases h1
theorem dual_all (hd : ds.length < 4398046511104) (e : ByteArray) (ar : List S92) (a b : Int) (t : S32) (co m : Int) {x y : Bool} (hx : Ev (fun k => truthG ds ts id fs k ⟨8, e, ar, a, b, [t]⟩ [] co m) x) (hy : Ev (fun k => truthG ds ts id fs k ⟨4, ⟨#[]⟩, [], 0, 0, [⟨9, e, [], 0, 0, [⟨4, ⟨#[]⟩, [], 0, 0, [t]⟩]⟩]⟩ [] co m) y) : x = y := by
  obtain ⟨K, hK⟩ := hx
  obtain ⟨L, hL⟩ := hy
  obtain ⟨I, hI⟩ := ev_ind ds ts id hd e
  have h1 := hK (K + L + I + 1) (by omega)
  have h2 := hL (K + L + I + 3) (by omega)
  have i1 := hI (K + L + I) (by omega)
  have i2 := hI (K + L + I + 1) (by omega)
  simp only [] at h1 h2 i1 i2
  rw [truth_all, i1, Option.bind_some] at h1
  rw [truth_not, truth_some, i2, Option.bind_some] at h2
  simp only [truth_not] at h2
  split at h1
  · rw [if_pos (by assumption), someL_not, h1] at h2
    simpa using Option.some.inj h2
  · cases h1
end world
section world
variable (ds : List S73) (ts : List Int) (id : Int) (fs : List S62) (hw : ∀ d ∈ ds, wf73 d) (hd : ds.length < 4398046511104) (hdn : ∀ d ∈ ds, d.f1.length < 4398046511104) (hl : ts.length < 4398046511104) (hfw : ∀ x ∈ fs, wf62 x) (hfl : fs.length < 4398046511104)
include hw hd hdn hl hfw hfl
theorem tot_lat (n : Nat) (t : S32) (h : bulk32 t < n) (hn : n ≤ 2199023255552) (hwt : wf32 t) (co m : Int) (hc : okI co = true) (hm : okI m = true) :
    TotP (fun k => pentaglotlaw26_at.f k ds ts id fs t.f0 t.f1 t.f2 t.f3 t.f4 t.f5 co m) (fun r => r.2 = true → Ev (fun k => truthG ds ts id fs k t [] co m) r.1) := by
  unfold pentaglotlaw26_at.f
  refine TotP.bind (tot_at ds ts id fs hw hd hdn hl hfw hfl n t h hn hwt co m hc hm) (fun r hr => TotP.now (fun h => ?_))
  exact (hr (by simpa using h)).2.2
theorem duals_j1 (t : S32) (h : bulk32 t ≤ 1048576) (hwt : wf32 t) (co m : Int) (hc : okI co = true) (hm : okI m = true) (b : Bool) (hb : b = false → t.f0 = 8 ∧ t.f5.length = 1) :
    TotP (fun k => pentaglotlaw26_EvaluateDuals.j1 k co m b ds ts id fs t.f0 t.f1 t.f2 t.f3 t.f4 t.f5) (fun r => r = true) := by
  obtain ⟨a0, a1, a2, a3, a4, a5⟩ := t
  dsimp only at hb ⊢
  refine TotP.step (fun _ => pentaglotlaw26_EvaluateDuals.j1.eq_2 ..) ?_
  refine TotP.ite (fun _ => TotP.now rfl) (fun h0 => ?_)
  obtain ⟨rfl, h1⟩ := hb (by simpa using h0)
  obtain ⟨g, rfl⟩ := List.length_eq_one_iff.1 h1
  refine TotP.pos (by simp) ?_
  simp only [pentaglotlaw26_kid.f, Option.bind_some]
  have e0 : rd_T32 [g] 0 = g := rfl
  have e1 : (⟨g.f0, g.f1, g.f2, g.f3, g.f4, g.f5⟩ : S32) = g := by cases g; rfl
  rw [e0, e1]
  have wg : wf32 g := wf_kid hwt (List.mem_singleton.2 rfl)
  have wn : wf32 ⟨4, ⟨#[]⟩, [], 0, 0, [g]⟩ := by rw [wf32]; exact ⟨by decide, by decide, by simp, by decide, by decide, (wfL32_iff _).2 (fun x hx => by obtain rfl := List.mem_singleton.1 hx; exact wg)⟩
  have wf1 := wf_name hwt
  have ws : wf32 ⟨9, a1, [], 0, 0, [⟨4, ⟨#[]⟩, [], 0, 0, [g]⟩]⟩ := by rw [wf32]; exact ⟨by decide, wf1.1, by simp, by decide, by decide, (wfL32_iff _).2 (fun x hx => by obtain rfl := List.mem_singleton.1 hx; exact wn)⟩
  have wz : wf32 ⟨4, ⟨#[]⟩, [], 0, 0, [⟨9, a1, [], 0, 0, [⟨4, ⟨#[]⟩, [], 0, 0, [g]⟩]⟩]⟩ := by rw [wf32]; exact ⟨by decide, by decide, by simp, by decide, by decide, (wfL32_iff _).2 (fun x hx => by obtain rfl := List.mem_singleton.1 hx; exact ws)⟩
  refine TotP.bind (tot_lat ds ts id fs hw hd hdn hl hfw hfl 1048577 ⟨8, a1, a2, a3, a4, [g]⟩ (by omega) (by omega) hwt co m hc hm) (fun x hx => ?_)
  refine TotP.bind (tot_lat ds ts id fs hw hd hdn hl hfw hfl 8388608 ⟨4, ⟨#[]⟩, [], 0, 0, [⟨9, a1, [], 0, 0, [⟨4, ⟨#[]⟩, [], 0, 0, [g]⟩]⟩]⟩ ?_ (by omega) wz co m hc hm) (fun y hy => ?_)
  · rw [bulk32] at h
    simp only [bulk32, bulkL32, List.map_nil, List.sum_nil] at h ⊢
    have : (⟨#[]⟩ : ByteArray).size = 0 := rfl
    omega
  · refine TotP.ite (fun h2 => TotP.ite (fun h3 => TotP.now ?_) (fun _ => TotP.now rfl)) (fun _ => TotP.now rfl)
    rw [beq_iff_eq]
    exact dual_all ds ts id fs hd a1 a2 a3 a4 g co m (hx h2) (hy h3)
theorem duals_j0 (t : S32) (h : bulk32 t ≤ 1048576) (hwt : wf32 t) (co m : Int) (hc : okI co = true) (hm : okI m = true) (b : Bool) (hb : b = false) :
    TotP (fun k => pentaglotlaw26_EvaluateDuals.j0 k co m b ds ts id fs t.f0 t.f1 t.f2 t.f3 t.f4 t.f5) (fun r => r = true) := by
  subst hb
  refine TotP.step (fun _ => pentaglotlaw26_EvaluateDuals.j0.eq_2 ..) ?_
  refine TotP.neg (by simp) ?_
  refine TotP.ite (fun h8 => ?_) (fun _ => ?_)
  · refine duals_j1 ds ts id fs hw hd hdn hl hfw hfl t h hwt co m hc hm _ (fun hb => ⟨h8, ?_⟩)
    have : (t.f5.length : Int) = 1 := by simpa using hb
    omega
  · exact duals_j1 ds ts id fs hw hd hdn hl hfw hfl t h hwt co m hc hm true (fun hb => by cases hb)
theorem duals_f (t : S32) (h : bulk32 t ≤ 1048576) (hwt : wf32 t) (co m : Int) (hc : okI co = true) (hm : okI m = true) :
    TotP (fun k => pentaglotlaw26_EvaluateDuals.f k ds ts id fs t.f0 t.f1 t.f2 t.f3 t.f4 t.f5 co m) (fun r => r = true) := by
  have j0 := duals_j0 ds ts id fs hw hd hdn hl hfw hfl t h hwt co m hc hm
  have hli := tot_light ds ts id fs hd hl t (by omega)
  unfold pentaglotlaw26_EvaluateDuals.f
  refine TotP.bind (Q := fun r => r = true) ⟨_, ev_awake, rfl⟩ (fun a ha => TotP.pos ha ?_)
  refine TotP.all hli (fun v => TotP.ite (fun _ => ?_) (fun _ => TotP.now rfl))
  simp only [pentaglotlaw26_kid.f, Option.bind_some]
  have w1 : ∀ (o : Int) (t : S32), (Lit.int .i64 o).wf = true → wf32 t → wf32 ⟨o, ⟨#[]⟩, [], 0, 0, [t]⟩ := fun o t ho ht => by rw [wf32]; exact ⟨ho, by decide, by simp, by decide, by decide, (wfL32_iff _).2 (fun x hx => by obtain rfl := List.mem_singleton.1 hx; exact ht)⟩
  have b1 : ∀ (o : Int) (t : S32), bulk32 ⟨o, ⟨#[]⟩, [], 0, 0, [t]⟩ ≤ bulk32 t + 100 := fun o t => by
    simp only [bulk32, bulkL32, List.map_nil, List.sum_nil]
    have : (⟨#[]⟩ : ByteArray).size = 0 := rfl
    omega
  have e0 : (⟨t.f0, t.f1, t.f2, t.f3, t.f4, t.f5⟩ : S32) = t := by cases t; rfl
  rw [e0]
  refine TotP.bind (tot_lat ds ts id fs hw hd hdn hl hfw hfl 8388608 ⟨11, ⟨#[]⟩, [], 0, 0, [t]⟩ (by have := b1 11 t; omega) (by omega) (w1 _ _ (by decide) hwt) co m hc hm) (fun x hx => ?_)
  refine TotP.bind (tot_lat ds ts id fs hw hd hdn hl hfw hfl 8388608 ⟨4, ⟨#[]⟩, [], 0, 0, [⟨12, ⟨#[]⟩, [], 0, 0, [⟨4, ⟨#[]⟩, [], 0, 0, [t]⟩]⟩]⟩ ?_ (by omega) (w1 _ _ (by decide) (w1 _ _ (by decide) (w1 _ _ (by decide) hwt))) co m hc hm) (fun y hy => ?_)
  · have h1 := b1 4 t
    have h2 := b1 12 ⟨4, ⟨#[]⟩, [], 0, 0, [t]⟩
    have h3 := b1 4 ⟨12, ⟨#[]⟩, [], 0, 0, [⟨4, ⟨#[]⟩, [], 0, 0, [t]⟩]⟩
    omega
  · refine TotP.ite (fun h2 => TotP.ite (fun h3 => j0 _ ?_) (fun _ => j0 _ rfl)) (fun _ => j0 _ rfl)
    rw [dual_obl ds ts id fs t co m (hx h2) (hy h3)]
    simp
end world
theorem names_len {x : S25} {d : S73} (h : d ∈ x.f0) : d.f1.length ≤ bulk25 x := by
  have h1 := mem_sum bulk73 h
  have h2 : d.f1.length ≤ (d.f1.map fun s => s.size + 1).sum := len_le _ (fun s => by omega) d.f1
  have h3 : d.f1.length ≤ bulk73 d := by unfold bulk73; omega
  unfold bulk25
  omega
theorem EvaluateDuals : pentaglotlaw26_EvaluateDuals.Pure := by
  intro p0 p1 p2 p3 h0 h1 h2 h3 hb
  have hlen := bulk28_len p0
  have h25 : bulk25 p0.f0 ≤ bulk28 p0 := by unfold bulk28; omega
  have hdn : ∀ d ∈ p0.f0.f0, d.f1.length < 4398046511104 := fun d hd => by have := names_len hd; omega
  obtain ⟨r, hr, rfl⟩ := duals_f p0.f0.f0 p0.f0.f1 p0.f0.f2 p0.f1 h0.1.1 (by omega) hdn (by omega) h0.2 (by omega) p1 (by omega) h1 p2 p3 (okI_i h2) (okI_i h3)
  exact Ev.rounds hr
end Go.Proofs.YtolpckflofjfhaaDoor.Pure
