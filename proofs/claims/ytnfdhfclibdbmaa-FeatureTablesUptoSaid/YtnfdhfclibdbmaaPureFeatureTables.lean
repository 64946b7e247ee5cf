/- Plain law: a table's first match and its list of matches are those of the entries whose records are in the query. Condition: the sizes of the arguments sum to at most 1048576. -/
import Derived.Test.YtnfdhfclibdbmaaPx0
import Derived.Test.YtnfdhfclibdbmaaPx3
import Derived.Test.YtnfdhfclibdbmaaPx4
import Derived.Test.YtnfdhfclibdbmaaPx6
import Derived.Test.YtnfdhfclibdbmaaPx7
import Derived.Test.YtnfdhfclibdbmaaPx17
import Derived.Test.YtnfdhfclibdbmaaFtM
namespace Go.Proofs.Ytnfdhfclibdbmaa.Ft
set_option linter.unusedVariables false
set_option linter.unusedSimpArgs false
open Go.RowKit Go.Proofs.Ytnfdhfclibdbmaa.P Go.Proofs.YtnfdhfclibdbmaaW.PrintWords Go.Proofs.YtnfdhfclibdbmaaW.PrintLast
theorem rsub_loop (a b : List S33) (hlen : a.length ≤ 4000000 ∧ b.length ≤ 4000000) : ∀ (A : List S33) (i : Nat), a.drop i = A → i ≤ a.length → Ev (fun z => pentaglotref02_Subsumes.l0 z a b (i : Int)) ((ims A).all (has (ims b))) := by
  intro A
  induction A with
  | nil =>
    intro i hA hi
    have ei := rest_nil hi hA
    refine Ev.step (f := fun _ => some true) (fun z => ?_) (Ev.now _)
    simp only [pentaglotref02_Subsumes.l0]
    rw [if_neg (by omega)]
  | cons x A ih =>
    intro i hA hi
    obtain ⟨hi', hx, hA'⟩ := rest hA
    have ih' := ih (i + 1) hA' (by omega)
    have e2 : wrap64 ((i : Int) + 1) = ((i + 1 : Nat) : Int) := by rw [w64 (by omega) (by omega)]; omega
    refine Ev.step (f := fun z => (pentaglotref02_Has.f z b x.f0 x.f1).bind fun t => if t = true then pentaglotref02_Subsumes.l0 z a b ((i + 1 : Nat) : Int) else some false) (fun z => ?_) (Ev.bind (hasv b (by omega) x.f0 x.f1) ?_)
    · simp only [pentaglotref02_Subsumes.l0]
      rw [if_pos (by omega), if_pos (by omega), hx, e2]
    · rw [ims_cons, List.all_cons]
      cases hh : has (ims b) (im x) with
      | true =>
        rw [show has (ims b) (x.f0.toList, x.f1.toList) = true from hh]
        simpa using ih'
      | false =>
        rw [show has (ims b) (x.f0.toList, x.f1.toList) = false from hh]
        simpa using Ev.now false
theorem rsub (a b : List S33) (hlen : a.length ≤ 4000000 ∧ b.length ≤ 4000000) : Ev (fun z => pentaglotref02_Subsumes.f z a b) ((ims a).all (has (ims b))) := rsub_loop a b hlen a 0 rfl (Nat.zero_le _)
theorem sub_all {a b : Rec} (ha : Asc a) : Sub a b ↔ a.all (has b) = true := by
  rw [List.all_eq_true]
  constructor
  · intro h x hx
    exact decide_eq_true (h x.1 x.2 (mem_get ha hx))
  · intro h k v hk
    exact of_decide_eq_true (h (k, v) (get_mem hk))
theorem sub_ev (a b : List S33) (hlen : a.length ≤ 4000000 ∧ b.length ≤ 4000000) (ha : Asc (ims a)) (hb : Asc (ims b)) : Ev (fun z => feature_Subsumes.f z a b) ((ims a).all (has (ims b))) := by
  obtain ⟨v, hv, hs⟩ := subsumes a b (by omega) ha hb
  have : v = (ims a).all (has (ims b)) := by
    rw [Bool.eq_iff_iff, hs]
    exact sub_all ha
  rw [← this]
  exact hv
theorem Ev.ifSome {α : Type} {g : Nat → Option Bool} {f : Nat → Option α} {r : α} (hg : Ev g true) (hf : Ev f r) : Ev (fun z => if g z = some true then f z else none) r := by
  obtain ⟨k1, h1⟩ := hg
  obtain ⟨k2, h2⟩ := hf
  exact ⟨k1 + k2, fun k hk => by show (if g k = some true then f k else none) = some r; rw [if_pos (h1 k (by omega))]; exact h2 k (by omega)⟩
theorem tabs (q : List S33) (hq : q.length ≤ 4000000) (hA : Asc (ims q)) : ∀ (l : List (List S33)) (i : Nat) (es : List S70) (want : List Int), (∀ e ∈ l, e.length ≤ 4000000) →
    ∃ o, Ev (fun z => tabsG z q l i es want) o ∧ (o = none ∨ ∃ es' want', o = some (es ++ es', want ++ want') ∧ Ev (fun z => matchesG z q es') want')
  | [], i, es, want, _ => ⟨some (es, want), Ev.now _, .inr ⟨[], [], by simp, Ev.now _⟩⟩
  | e :: t, i, es, want, hl => by
    have he := hl e (by simp)
    obtain ⟨rr, hr, mr⟩ := record e (by omega)
    cases rr with
    | false =>
      obtain ⟨k1, h1⟩ := hr
      replace h1 : ∀ k, k1 ≤ k → pentaglotref02_Record.f k e = some false := h1
      refine ⟨none, ⟨k1, fun k hk => ?_⟩, .inl rfl⟩
      show tabsG k q (e :: t) i es want = some none
      rw [tabsG, if_pos (by omega), h1 k hk, Option.bind_some, if_neg (by decide)]
    | true =>
      have hAe := mr.1 rfl
      have hs := sub_ev e q (by omega) hAe hA
      have hs' := rsub e q (by omega)
      obtain ⟨o, ho, hc⟩ := tabs q hq hA t (i + 1) (es ++ [⟨e, (i : Int) + 1⟩]) (if (ims e).all (has (ims q)) = true then want ++ [(i : Int) + 1] else want) (fun e' he' => hl e' (by simp [he']))
      refine ⟨o, ?_, ?_⟩
      · obtain ⟨k1, h1⟩ := hr
        obtain ⟨k2, h2⟩ := hs'
        obtain ⟨k3, h3⟩ := ho
        replace h1 : ∀ k, k1 ≤ k → pentaglotref02_Record.f k e = some true := h1
        replace h2 : ∀ k, k2 ≤ k → pentaglotref02_Subsumes.f k e q = some ((ims e).all (has (ims q))) := h2
        refine ⟨k1 + k2 + k3, fun k hk => ?_⟩
        show tabsG k q (e :: t) i es want = some o
        rw [tabsG, if_pos (by omega), h1 k (by omega), Option.bind_some, if_pos rfl, h2 k (by omega), Option.bind_some]
        exact h3 k (by omega)
      · rcases hc with rfl | ⟨es', want', rfl, hm⟩
        · exact .inl rfl
        · refine .inr ⟨⟨e, (i : Int) + 1⟩ :: es', (if (ims e).all (has (ims q)) = true then ((i : Int) + 1) :: want' else want'), ?_, ?_⟩
          · cases (ims e).all (has (ims q)) <;> simp
          · exact Ev.bind hs (Ev.bind hm (Ev.now _))
theorem len_bulkL : ∀ (l : List (List S33)) (e : List S33), e ∈ l → e.length ≤ (l.map (fun l => (l.map bulk33).sum + 1)).sum
  | [], _, h => by cases h
  | x :: l, e, h => by
    rw [List.map_cons, List.sum_cons]
    rcases List.mem_cons.1 h with rfl | h
    · have := len_bulk e; omega
    · have := len_bulkL l e h; omega
end Go.Proofs.Ytnfdhfclibdbmaa.Ft
namespace Go.Proofs.Ytnfdhfclibdbmaa.Pure
set_option linter.unusedVariables false
set_option linter.unusedSimpArgs false
open Go.RowKit Go.Proofs.Ytnfdhfclibdbmaa.P Go.Proofs.Ytnfdhfclibdbmaa.Ft Go.Proofs.YtnfdhfclibdbmaaW.PrintWords Go.Proofs.YtnfdhfclibdbmaaW.PrintLast
theorem FeatureTables : pentaglotlaw02_FeatureTables.Pure := by
  intro l q _ _ hs
  have lq := len_bulk q
  apply Ev.rounds
  unfold pentaglotlaw02_FeatureTables.f
  refine Ft.Ev.ifSome awake ?_
  by_cases h60 : 60 < l.length
  · refine Ev.congr (fun z => ?_) (Ev.now true)
    rw [if_pos h60]
  · obtain ⟨rr, hr, mr⟩ := record q (by omega)
    refine Ev.congr (f := fun z => (pentaglotref02_Record.f z q).bind fun r => if r = true then (tabsG z q l 0 [] []).bind fun o => match o with
      | none => some true
      | some (es, want) => if matchesG z q es = some want then some true else none
      else some true) (fun z => by rw [if_neg h60]; rfl) (Ev.bind hr ?_)
    cases rr with
    | false =>
      simp only [Bool.false_eq_true, if_false]
      exact Ev.now _
    | true =>
      simp only [if_true]
      obtain ⟨o, ho, hc⟩ := tabs q (by omega) (mr.1 rfl) l 0 [] [] (fun e he => by have := len_bulkL l e he; omega)
      refine Ev.bind ho ?_
      rcases hc with rfl | ⟨es', want', rfl, hm⟩
      · exact Ev.now _
      · obtain ⟨k0, h0⟩ := hm
        refine ⟨k0, fun k hk => ?_⟩
        show (if matchesG k q ([] ++ es') = some ([] ++ want') then some true else none) = some true
        rw [List.nil_append, List.nil_append, if_pos (h0 k hk)]
end Go.Proofs.Ytnfdhfclibdbmaa.Pure
