import Derived.Test.YtolpckflofjfhaaDoorPx0
import Derived.Test.YtolpckflofjfhaaDoorPx8
import Derived.Test.YtolpckflofjfhaaDoorPx9
import Derived.Test.YtolpckflofjfhaaDoorPx27
import Derived.Test.YtolpckflofjfhaaDoorPx33
import Derived.Test.YtolpckflofjfhaaDoorEnB
namespace Go.Proofs.YtolpckflofjfhaaDoor.Pure
open Go.RowKit Go.Proofs.YtolpckflofjfhaaDoor.P Go.Proofs.YtolpckflofjfhaaDoorW.PrintWords Go.Proofs.YtolpckflofjfhaaDoorW.PrintLast
open Go.Proofs.YtolpckflofjfhaaDoor.En
set_option linter.unusedSectionVars false
set_option linter.unusedVariables false
section world
variable (ds : List S73) (ts : List Int) (id : Int) (fs : List S62)
theorem truth_not (e : ByteArray) (ar : List S92) (a b : Int) (t : S32) (k : Nat) (bnd : List ByteArray) (co m : Int) : truthG ds ts id fs (k + 1) ⟨4, e, ar, a, b, [t]⟩ bnd co m = (truthG ds ts id fs k t bnd co m).bind fun b => some (!b) := by
  rw [truthG.eq_2]; rfl
theorem truth_and (e : ByteArray) (ar : List S92) (a b : Int) (t u : S32) (k : Nat) (bnd : List ByteArray) (co m : Int) : truthG ds ts id fs (k + 1) ⟨5, e, ar, a, b, [t, u]⟩ bnd co m = (truthG ds ts id fs k t bnd co m).bind fun b => if b = true then (truthG ds ts id fs k u bnd co m).bind fun b => if b = true then some true else some (!true) else some (!true) := by
  rw [truthG.eq_2]; rfl
theorem truth_or (e : ByteArray) (ar : List S92) (a b : Int) (t u : S32) (k : Nat) (bnd : List ByteArray) (co m : Int) : truthG ds ts id fs (k + 1) ⟨6, e, ar, a, b, [t, u]⟩ bnd co m = (truthG ds ts id fs k t bnd co m).bind fun b => if b = false then (truthG ds ts id fs k u bnd co m).bind fun b => if b = false then some false else some (!false) else some (!false) := by
  rw [truthG.eq_2]; rfl
theorem truth_imp (e : ByteArray) (ar : List S92) (a b : Int) (t u : S32) (k : Nat) (bnd : List ByteArray) (co m : Int) : truthG ds ts id fs (k + 1) ⟨7, e, ar, a, b, [t, u]⟩ bnd co m = (truthG ds ts id fs k t bnd co m).bind fun b => if b = true then truthG ds ts id fs k u bnd co m else some true := by
  rw [truthG.eq_2]; rfl
theorem ev_two {α : Type} {g : Nat → Option α} {a b : α} (h : Ev g a) (k : Ev g b) : a = b := by
  obtain ⟨K, hK⟩ := h
  obtain ⟨L, hL⟩ := k
  exact Option.some.inj ((hK (K + L) (by omega)).symm.trans (hL (K + L) (by omega)))
variable (hw : ∀ d ∈ ds, wf73 d) (hd : ds.length < 4398046511104) (hdn : ∀ d ∈ ds, d.f1.length < 4398046511104) (hl : ts.length < 4398046511104) (hfw : ∀ x ∈ fs, wf62 x) (hfl : fs.length < 4398046511104)
include hw hd hdn hl hfw hfl
theorem tot_lat (n : Nat) (t : S32) (h : bulk32 t < n) (hn : n ≤ 2199023255552) (hwt : wf32 t) (co m : Int) (hc : okI co = true) (hm : okI m = true) :
    TotP (fun k => pentaglotlaw26_at.f k ds ts id fs t.f0 t.f1 t.f2 t.f3 t.f4 t.f5 co m) (fun r => r.2 = true → Ev (fun k => truthG ds ts id fs k t [] co m) r.1) := by
  unfold pentaglotlaw26_at.f
  refine TotP.bind (tot_at ds ts id fs hw hd hdn hl hfw hfl n t h hn hwt co m hc hm) (fun r hr => TotP.now (fun h => ?_))
  exact (hr (by simpa using h)).2.2
theorem conn_f (t u : S32) (h : bulk32 t ≤ 1048576) (hu : bulk32 u ≤ 1048576) (hwt : wf32 t) (hwu : wf32 u) (co m : Int) (hc : okI co = true) (hm : okI m = true) :
    TotP (fun k => pentaglotlaw26_EvaluateConnectives.f k ds ts id fs t.f0 t.f1 t.f2 t.f3 t.f4 t.f5 u.f0 u.f1 u.f2 u.f3 u.f4 u.f5 co m) (fun r => r = true) := by
  have e0 : ∀ t : S32, (⟨t.f0, t.f1, t.f2, t.f3, t.f4, t.f5⟩ : S32) = t := fun t => by cases t; rfl
  have w1 : ∀ (o : Int), (Lit.int .i64 o).wf = true → wf32 ⟨o, ⟨#[]⟩, [], 0, 0, [t]⟩ := fun o ho => by rw [wf32]; exact ⟨ho, by decide, by simp, by decide, by decide, (wfL32_iff _).2 (fun x hx => by obtain rfl := List.mem_singleton.1 hx; exact hwt)⟩
  have w2 : ∀ (o : Int), (Lit.int .i64 o).wf = true → wf32 ⟨o, ⟨#[]⟩, [], 0, 0, [t, u]⟩ := fun o ho => by
    rw [wf32]
    refine ⟨ho, by decide, by simp, by decide, by decide, (wfL32_iff _).2 (fun x hx => ?_)⟩
    rcases List.mem_cons.1 hx with rfl | hx
    · exact hwt
    · obtain rfl := List.mem_singleton.1 hx; exact hwu
  have z0 : (⟨#[]⟩ : ByteArray).size = 0 := rfl
  have b1 : ∀ o : Int, bulk32 ⟨o, ⟨#[]⟩, [], 0, 0, [t]⟩ < 8388608 := fun o => by
    simp only [bulk32, bulkL32, List.map_nil, List.sum_nil]; omega
  have b2 : ∀ o : Int, bulk32 ⟨o, ⟨#[]⟩, [], 0, 0, [t, u]⟩ < 8388608 := fun o => by
    simp only [bulk32, bulkL32, List.map_nil, List.sum_nil]; omega
  have la := fun n t h hn hwt => tot_lat ds ts id fs hw hd hdn hl hfw hfl n t h hn hwt co m hc hm
  unfold pentaglotlaw26_EvaluateConnectives.f
  rw [e0, e0]
  refine TotP.all (tot_light ds ts id fs hd hl t (by omega)) (fun v => TotP.ite (fun _ => TotP.now rfl) (fun _ => ?_))
  refine TotP.all (tot_light ds ts id fs hd hl u (by omega)) (fun v => TotP.ite (fun _ => TotP.now rfl) (fun _ => ?_))
  refine TotP.bind (la 1048577 t (by omega) (by omega) hwt) (fun X hX => TotP.bind (la 1048577 u (by omega) (by omega) hwu) (fun Y hY => ?_))
  refine TotP.bind (la 8388608 ⟨4, ⟨#[]⟩, [], 0, 0, [t]⟩ (b1 4) (by omega) (w1 4 (by decide))) (fun N hN => ?_)
  refine TotP.bind (la 8388608 ⟨5, ⟨#[]⟩, [], 0, 0, [t, u]⟩ (b2 5) (by omega) (w2 5 (by decide))) (fun A hA => ?_)
  refine TotP.bind (la 8388608 ⟨6, ⟨#[]⟩, [], 0, 0, [t, u]⟩ (b2 6) (by omega) (w2 6 (by decide))) (fun O hO => ?_)
  refine TotP.bind (la 8388608 ⟨7, ⟨#[]⟩, [], 0, 0, [t, u]⟩ (b2 7) (by omega) (w2 7 (by decide))) (fun T hT => ?_)
  refine TotP.pos ?_ (TotP.now rfl)
  unfold ConnOk
  by_cases hx : X.2 = true
  case neg => simp [Bool.eq_false_iff.2 hx]
  by_cases hy : Y.2 = true
  case neg => simp [Bool.eq_false_iff.2 hy]
  by_cases hn : N.2 = true
  case neg => simp [Bool.eq_false_iff.2 hn]
  by_cases ha : A.2 = true
  case neg => simp [Bool.eq_false_iff.2 ha]
  by_cases ho : O.2 = true
  case neg => simp [Bool.eq_false_iff.2 ho]
  by_cases ht : T.2 = true
  case neg => simp [Bool.eq_false_iff.2 ht]
  obtain ⟨K, hK⟩ := hX hx
  obtain ⟨L, hL⟩ := hY hy
  have at_ : ∀ k, K + L ≤ k → truthG ds ts id fs k t [] co m = some X.1 ∧ truthG ds ts id fs k u [] co m = some Y.1 := fun k hk => ⟨hK k (by omega), hL k (by omega)⟩
  have step : ∀ (x : S32) (b c : Bool), Ev (fun k => truthG ds ts id fs k x [] co m) b → (∀ k, K + L ≤ k → truthG ds ts id fs (k + 1) x [] co m = some c) → b = c := fun x b c hb hc => ev_two hb ⟨K + L + 1, fun k hk => by obtain ⟨j, rfl⟩ : ∃ j, k = j + 1 := ⟨k - 1, by omega⟩; exact hc j (by omega)⟩
  have eN : N.1 = !X.1 := step _ _ _ (hN hn) (fun k hk => by rw [truth_not, (at_ k hk).1]; rfl)
  have eA : A.1 = (X.1 && Y.1) := step _ _ _ (hA ha) (fun k hk => by rw [truth_and, (at_ k hk).1, (at_ k hk).2]; cases X.1 <;> cases Y.1 <;> rfl)
  have eO : O.1 = (X.1 || Y.1) := step _ _ _ (hO ho) (fun k hk => by rw [truth_or, (at_ k hk).1, (at_ k hk).2]; cases X.1 <;> cases Y.1 <;> rfl)
  have eT : T.1 = (!X.1 || Y.1) := step _ _ _ (hT ht) (fun k hk => by rw [truth_imp, (at_ k hk).1, (at_ k hk).2]; cases X.1 <;> cases Y.1 <;> rfl)
  rw [eN, eA, eO, eT]
  simp
end world
theorem names_len {x : S25} {d : S73} (h : d ∈ x.f0) : d.f1.length ≤ bulk25 x := by
  have h1 := mem_sum bulk73 h
  have h2 : d.f1.length ≤ (d.f1.map fun s => s.size + 1).sum := len_le _ (fun s => by omega) d.f1
  have h3 : d.f1.length ≤ bulk73 d := by unfold bulk73; omega
  unfold bulk25
  omega
theorem EvaluateConnectives : pentaglotlaw26_EvaluateConnectives.Pure := by
  intro p0 p1 p2 p3 p4 h0 h1 h2 h3 h4 hb
  have hlen := bulk28_len p0
  have h25 : bulk25 p0.f0 ≤ bulk28 p0 := by unfold bulk28; omega
  have hdn : ∀ d ∈ p0.f0.f0, d.f1.length < 4398046511104 := fun d hd => by have := names_len hd; omega
  obtain ⟨r, hr, rfl⟩ := conn_f p0.f0.f0 p0.f0.f1 p0.f0.f2 p0.f1 h0.1.1 (by omega) hdn (by omega) h0.2 (by omega) p1 p2 (by omega) (by omega) h1 h2 p3 p4 (okI_i h3) (okI_i h4)
  exact Ev.rounds hr
end Go.Proofs.YtolpckflofjfhaaDoor.Pure
