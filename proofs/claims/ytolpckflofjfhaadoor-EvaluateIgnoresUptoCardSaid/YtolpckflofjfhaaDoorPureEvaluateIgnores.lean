import Derived.Test.YtolpckflofjfhaaDoorPx0
import Derived.Test.YtolpckflofjfhaaDoorPx8
import Derived.Test.YtolpckflofjfhaaDoorPx9
import Derived.Test.YtolpckflofjfhaaDoorPx10
import Derived.Test.YtolpckflofjfhaaDoorPx27
import Derived.Test.YtolpckflofjfhaaDoorPx34
import Derived.Test.YtolpckflofjfhaaDoorEnB
namespace Go.Proofs.YtolpckflofjfhaaDoor.Pure
open Go.RowKit Go.Proofs.YtolpckflofjfhaaDoor.P Go.Proofs.YtolpckflofjfhaaDoorW.PrintWords Go.Proofs.YtolpckflofjfhaaDoorW.PrintLast
open Go.Proofs.YtolpckflofjfhaaDoor.En
set_option linter.unusedSectionVars false
set_option linter.unusedVariables false
set_option linter.unusedSimpArgs false
mutual
def nodesN : S32 → List S32
  | ⟨a, b, c, d, e, f⟩ => ⟨a, b, c, d, e, f⟩ :: nodesL f
def nodesL : List S32 → List S32
  | [] => []
  | x :: l => nodesN x ++ nodesL l
end
theorem nodesN_eq (t : S32) : nodesN t = t :: nodesL t.f5 := by cases t; rw [nodesN]
mutual
theorem nodes_bulk : ∀ t : S32, (nodesN t).length ≤ bulk32 t
  | ⟨_, _, _, _, _, f⟩ => by have := nodesL_bulk f; rw [nodesN, bulk32, List.length_cons]; omega
theorem nodesL_bulk : ∀ l : List S32, (nodesL l).length ≤ bulkL32 l
  | [] => by rw [nodesL, bulkL32]; simp
  | x :: l => by have := nodes_bulk x; have := nodesL_bulk l; rw [nodesL, bulkL32, List.length_append]; omega
end
theorem nodes_mem : ∀ {l : List S32} {x y : S32}, x ∈ l → y ∈ nodesN x → y ∈ nodesL l
  | z :: l, x, y, h, hy => by
    rw [nodesL, List.mem_append]
    rcases List.mem_cons.1 h with rfl | h
    · exact .inl hy
    · exact .inr (nodes_mem h hy)
theorem tv_walk : ∀ (n : Nat) (t : S32), bulk32 t < n → n ≤ 1099511627776 → TotP (fun k => pentaglotref22_Walk.f k t.f0 t.f1 t.f2 t.f3 t.f4 t.f5) (fun r => r = nodesN t)
  | 0, t, h, _ => absurd h (Nat.not_lt_zero _)
  | n + 1, t, h, hn => by
    have hk := bulk_kids t
    have hs := nodes_bulk t
    have loop : ∀ m j (s : List S32), t.f5.length - j = m → j ≤ t.f5.length → s.length + (nodesL (t.f5.drop j)).length < 1599289640401 → TotP (fun k => pentaglotref22_Walk.l0 k s (j : Int) t.f0 t.f1 t.f2 t.f3 t.f4 t.f5) (fun r => r = s ++ nodesL (t.f5.drop j)) := by
      intro m
      induction m with
      | zero =>
        intro j s hj hjn hl
        refine TotP.step (fun _ => pentaglotref22_Walk.l0.eq_2 ..) (TotP.neg (by omega) (TotP.now ?_))
        rw [List.drop_eq_nil_of_le (by omega), nodesL, List.append_nil]
      | succ m ih =>
        intro j s hj hjn hl
        have hjl : j < t.f5.length := by omega
        rw [List.drop_eq_getElem_cons hjl, nodesL] at hl ⊢
        rw [List.length_append] at hl
        refine TotP.step (fun _ => pentaglotref22_Walk.l0.eq_2 ..) (TotP.pos (by omega) (TotP.pos (by omega) ?_))
        rw [wj hjl (by omega), rd32 hjl]
        refine TotP.bind (tv_walk n t.f5[j] (by have := bulk_mem (List.getElem_mem hjl); omega) (by omega)) (fun a ha => ?_)
        subst ha
        refine TotP.pos (by omega) (TotP.weak (ih (j + 1) _ (by omega) (by omega) (by rw [List.length_append]; omega)) (fun r hr => ?_))
        rw [hr, List.append_assoc]
    refine TotP.step (fun _ => pentaglotref22_Walk.f.eq_2 ..) ?_
    have e0 : (⟨t.f0, t.f1, t.f2, t.f3, t.f4, t.f5⟩ : S32) = t := by cases t; rfl
    rw [e0]
    rw [nodesN_eq] at hs ⊢
    have := loop _ 0 [t] rfl (Nat.zero_le _) (by rw [List.drop_zero]; simp at hs ⊢; omega)
    rw [List.drop_zero] at this
    exact this
section world
variable (ds : List S73) (ts : List Int) (id : Int) (fs : List S62) (x : S62)
theorem same_ign {p : ByteArray} (h : p.toList ≠ x.f0.toList) (al : List ByteArray) (m co : Int) : sameF x p al m co = false := by
  have : (x.f0.data == p.data) = false := by
    rw [beq_eq_false_iff_ne]
    intro e
    exact h (by rw [Lib.toList_data, Lib.toList_data, e])
  unfold sameF
  rw [this]
  simp
theorem atom_ign {t : S32} (h : t.f1.toList ≠ x.f0.toList) (bnd : List ByteArray) (co m : Int) : atomG (fs ++ [x]) t bnd co m = atomG fs t bnd co m := by
  have e : ∀ al, ((fs ++ [x]).any fun y => sameF y t.f1 al m co) = fs.any fun y => sameF y t.f1 al m co := fun al => by
    rw [List.any_append]; simp [same_ign x h al m co]
  unfold atomG
  simp only [e]
theorem truth_ign : ∀ (k : Nat) (t : S32) (bnd : List ByteArray) (co m : Int), (∀ y ∈ nodesN t, nameIn x.f0 y = false) → truthG ds ts id (fs ++ [x]) k t bnd co m = truthG ds ts id fs k t bnd co m
  | 0, t, bnd, co, m, h => by rw [truthG, truthG]
  | k + 1, t, bnd, co, m, h => by
    have sub : ∀ i : Int, 0 ≤ i → i < (t.f5.length : Int) → ∀ bnd co m, truthG ds ts id (fs ++ [x]) k (rd_T32 t.f5 i) bnd co m = truthG ds ts id fs k (rd_T32 t.f5 i) bnd co m := fun i h0 h1 bnd co m => by
      obtain ⟨j, rfl⟩ := Int.eq_ofNat_of_zero_le h0
      rw [rd32 (show j < t.f5.length by omega)]
      refine truth_ign k _ _ _ _ (fun y hy => h y ?_)
      rw [nodesN_eq]
      exact List.mem_cons_of_mem _ (nodes_mem (List.getElem_mem _) hy)
    have kid : ∀ i : Int, (if 0 ≤ i ∧ i < (t.f5.length : Int) then truthG ds ts id (fs ++ [x]) k (rd_T32 t.f5 i) bnd co m else none) = (if 0 ≤ i ∧ i < (t.f5.length : Int) then truthG ds ts id fs k (rd_T32 t.f5 i) bnd co m else none) := fun i => by
      split
      · exact sub i (by omega) (by omega) _ _ _
      · rfl
    have ht := h t (by rw [nodesN_eq]; exact List.mem_cons_self ..)
    rw [truthG.eq_2, truthG.eq_2]
    dsimp only
    simp only [kid]
    by_cases c1 : t.f0 = 1
    · rw [if_pos c1, if_pos c1]
    rw [if_neg c1, if_neg c1]
    by_cases c3 : t.f0 = 3
    · rw [if_pos c3, if_pos c3]
      refine atom_ign fs x (fun e => ?_) _ _ _
      unfold nameIn at ht
      rw [c3, e] at ht
      simp at ht
    rw [if_neg c3, if_neg c3]
    by_cases hl : 0 < t.f5.length
    · have one : ∀ bnd co m, truthG ds ts id (fs ++ [x]) k (rd_T32 t.f5 0) bnd co m = truthG ds ts id fs k (rd_T32 t.f5 0) bnd co m := fun bnd co m => sub 0 (Int.le_refl _) (by omega) bnd co m
      simp only [one]
    · simp only [hl, false_and, if_false]
theorem load_ign (hf : fs.all factOk = true) (hx : factOk x = true) (hfl : fs.length < 4398046511103) (k : Nat) (t : S32) : loadG k ds ts id (fs ++ [x]) t = loadG k ds ts id fs t := by
  have c1 : (fs ++ [x]).all factOk = true ∧ (fs ++ [x]).length < 4398046511104 := ⟨by rw [List.all_append, hf]; simp [hx], by rw [List.length_append]; simp; omega⟩
  have c2 : fs.all factOk = true ∧ fs.length < 4398046511104 := ⟨hf, by omega⟩
  unfold loadG
  simp only [if_pos c1, if_pos c2]
theorem true_ign (hf : fs.all factOk = true) (hx : factOk x = true) (hfl : fs.length < 4398046511103) (k : Nat) (t : S32) (h : ∀ y ∈ nodesN t, nameIn x.f0 y = false) : evaluate_True.f k ds ts id (fs ++ [x]) t.f0 t.f1 t.f2 t.f3 t.f4 t.f5 = evaluate_True.f k ds ts id fs t.f0 t.f1 t.f2 t.f3 t.f4 t.f5 := by
  have e0 : (⟨t.f0, t.f1, t.f2, t.f3, t.f4, t.f5⟩ : S32) = t := by cases t; rfl
  unfold evaluate_True.f
  rw [e0, load_ign ds ts id fs x hf hx hfl k t]
  have e : (fun i => truthG ds ts id (fs ++ [x]) k t [] 0 i) = fun i => truthG ds ts id fs k t [] 0 i := funext fun i => truth_ign ds ts id fs x k t [] 0 i h
  rw [e]
variable (hw : ∀ d ∈ ds, wf73 d) (hd : ds.length < 4398046511104) (hdn : ∀ d ∈ ds, d.f1.length < 4398046511104) (hl : ts.length < 4398046511104) (hfw : ∀ x ∈ fs, wf62 x) (hfl : fs.length < 1099511627776) (hwx : wf62 x)
include hw hd hdn hl hfw hfl hwx
theorem ign_f (t : S32) (h : bulk32 t ≤ 1048576) (hwt : wf32 t) :
    TotP (fun k => pentaglotlaw26_EvaluateIgnores.f k ds ts id fs t.f0 t.f1 t.f2 t.f3 t.f4 t.f5 x.f0 x.f1 x.f2 x.f3) (fun r => r = true) := by
  have hb := nodes_bulk t
  have hf := facts_ok ds ts fs hw hd hdn hl hfw (by omega)
  have hx : factOk x = true := by
    have := facts_ok ds ts [x] hw hd hdn hl (fun y hy => by obtain rfl := List.mem_singleton.1 hy; exact hwx) (by simp)
    simpa using this
  have ex : (⟨x.f0, x.f1, x.f2, x.f3⟩ : S62) = x := rfl
  unfold pentaglotlaw26_EvaluateIgnores.f
  rw [ex]
  refine TotP.bind (tv_walk 1048577 t (by omega) (by omega)) (fun l hl' => ?_)
  subst hl'
  refine TotP.pos ⟨by omega, hfl⟩ (TotP.ite (fun _ => TotP.now rfl) (fun hany => ?_))
  have hno : ∀ y ∈ nodesN t, nameIn x.f0 y = false := fun y hy => Bool.eq_false_iff.2 (fun he => hany (List.any_eq_true.2 ⟨y, hy, he⟩))
  refine TotP.all (tot_light ds ts id (fs ++ [x]) hd hl t (by omega)) (fun v => TotP.ite (fun _ => TotP.now rfl) (fun _ => ?_))
  obtain ⟨r, hr, _⟩ := tot_true ds ts id fs hw hd hdn hl hfw (by omega) 1048577 t (by omega) (by omega) hwt
  refine TotP.bind (Q := fun X => X = r) ⟨r, hr, rfl⟩ (fun X hX => ?_)
  have e := fun k => true_ign ds ts id fs x hf hx (by omega) k t hno
  simp only [e]
  refine TotP.bind (Q := fun Y => Y = r) ⟨r, hr, rfl⟩ (fun Y hY => ?_)
  exact TotP.pos (hX.trans hY.symm) (TotP.now rfl)
end world
theorem names_len {x : S25} {d : S73} (h : d ∈ x.f0) : d.f1.length ≤ bulk25 x := by
  have h1 := mem_sum bulk73 h
  have h2 : d.f1.length ≤ (d.f1.map fun s => s.size + 1).sum := len_le _ (fun s => by omega) d.f1
  have h3 : d.f1.length ≤ bulk73 d := by unfold bulk73; omega
  unfold bulk25
  omega
theorem EvaluateIgnores : pentaglotlaw26_EvaluateIgnores.Pure := by
  intro p0 p1 p2 h0 h1 h2 hb
  have hlen := bulk28_len p0
  have h25 : bulk25 p0.f0 ≤ bulk28 p0 := by unfold bulk28; omega
  have hdn : ∀ d ∈ p0.f0.f0, d.f1.length < 4398046511104 := fun d hd => by have := names_len hd; omega
  obtain ⟨r, hr, rfl⟩ := ign_f p0.f0.f0 p0.f0.f1 p0.f0.f2 p0.f1 p2 h0.1.1 (by omega) hdn (by omega) h0.2 (by omega) h2 p1 (by omega) h1
  exact Ev.rounds hr
end Go.Proofs.YtolpckflofjfhaaDoor.Pure
