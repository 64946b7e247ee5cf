/- Plain facts: a copy of a tree is the tree; the nodes of a tree, and how many of them are pronouns. -/
import Derived.Test.YtfampmajmbediaaPx0
import Derived.Test.YtfampmajmbediaaPx2
import Derived.Test.YtfampmajmbediaaPx3
import Derived.Test.YtfampmajmbediaaPx8
import Derived.Test.YtfampmajmbediaaPx9
import Derived.Test.YtfampmajmbediaaPx27
import Derived.Test.YtfampmajmbediaaPx31
import Derived.Test.YtfampmajmbediaaAnA
namespace Go.Proofs.Ytfampmajmbediaa.An
set_option linter.unusedVariables false
set_option linter.unusedSimpArgs false
open Go.RowKit Go.Proofs.Ytfampmajmbediaa.P Go.Proofs.YtfampmajmbediaaW.PrintWords Go.Proofs.YtfampmajmbediaaW.PrintLast
theorem ev_cloneI {b : List Int} (h : b.length ≤ 1099511627776) : slices_Clone_int_int.f b = some b := by
  unfold slices_Clone_int_int.f
  rw [if_pos (by omega)]
theorem ev_aclone : ∀ (n : Nat) (t : S27), bulk27 t < n → bulk27 t ≤ 1099511627776 → Ev (fun k => abstract_clone.f k t.f0 t.f1 t.f2) (t.f0, t.f1, t.f2)
  | 0, t, h, _ => absurd h (Nat.not_lt_zero _)
  | n + 1, ⟨a, b, c⟩, h, hm => by
    have hcl := bulk_kids ⟨a, b, c⟩
    have hbl := bulk_vals ⟨a, b, c⟩
    dsimp only at hcl hbl
    have loop : ∀ m j, c.length - j = m → j ≤ c.length → Ev (fun k => abstract_clone.l0 k c (c.length : Int) (j : Int) a b (c.take j)) (a, b, c) := by
      intro m
      induction m with
      | zero =>
        intro j hj hjl
        have he : j = c.length := by omega
        subst he
        refine Ev.step (f := fun _ => some (a, b, c)) (fun k => ?_) (Ev.now _)
        rw [abstract_clone.l0, if_neg (by omega), List.take_length]
      | succ m ih =>
        intro j hj hjl
        have hj' : j < c.length := by omega
        have hb := bulk_mem (t := ⟨a, b, c⟩) (List.getElem_mem hj')
        have hx := ev_aclone n c[j] (by omega) (by omega)
        refine Ev.step (f := fun k => (abstract_clone.f k c[j].f0 c[j].f1 c[j].f2).bind fun bt => if (c.take j).length < 2199023255552 then (abstract_clone.l0 k c (c.length : Int) (wrap64 ((j : Int) + 1)) a b (c.take j ++ [(⟨bt.1, bt.2.1, bt.2.2⟩ : S27)])) else none) (fun k => ?_) ?_
        · rw [abstract_clone.l0, if_pos (by omega), if_pos (by omega), if_pos (by omega), rdJ hj']
        · refine Ev.bind hx ?_
          simp only [if_pos (show (c.take j).length < 2199023255552 by rw [List.length_take]; omega)]
          have := ih (j + 1) (by omega) (by omega)
          rw [w64 (by omega) (by omega), show ((j : Int) + 1) = ((j + 1 : Nat) : Int) by omega]
          rw [List.take_succ_eq_append_getElem hj'] at this
          have he : (⟨c[j].f0, c[j].f1, c[j].f2⟩ : S27) = c[j] := by cases c[j]; rfl
          simp only [he]
          exact this
    refine Ev.step (f := fun k => (slices_Clone_int_int.f b).bind fun t => abstract_clone.l0 k c (c.length : Int) 0 a t ([] : List (S27))) (fun k => by rw [abstract_clone.f]) ?_
    rw [ev_cloneI (by omega)]
    exact loop _ 0 rfl (Nat.zero_le _)
def isPro (a : ByteArray) : Bool := decide (a.toList = ([73, 116] : List UInt8)) || a.toList == ([84, 104, 101, 121] : List UInt8)
theorem prB_isPro (x : S27) : prB x = isPro x.f0 := by
  unfold prB anaphora_pronoun.f isPro
  by_cases h : x.f0.toList = ([73, 116] : List UInt8)
  · rw [if_pos h, decide_eq_true h]
    rfl
  · rw [if_neg h, decide_eq_false h]
    rfl
mutual
theorem ev_nodes : ∀ (t : S27) (p : List Int), bulk27 t ≤ 1048576 → p.length + bulk27 t ≤ 3000000 → ∃ xs, Ev (fun k => nodesO k p t) xs ∧ xs.length = tsz t ∧ xs.countP (fun x => prB x.2) = cnt isPro t
  | ⟨a, b, c⟩, p, hm, hp => by
    have hk : bulkL27 c < bulk27 ⟨a, b, c⟩ := by rw [bulk27]; omega
    obtain ⟨xs, hx, hl, hc⟩ := ev_nodesL c p 0 (by omega) (by omega)
    refine ⟨(p, ⟨a, b, c⟩) :: xs, ?_, ?_, ?_⟩
    · refine Ev.congr (f := fun k => (slices_Clone_int_int.f p).bind fun q => (abstract_clone.f k a b c).bind fun r => (nodesLO k p 0 c).bind fun l => some ((q, ⟨r.1, r.2.1, r.2.2⟩) :: l)) (fun k => by rw [nodesO]) ?_
      rw [ev_cloneI (by omega)]
      exact Ev.bind (f := fun k r => (nodesLO k p 0 c).bind fun l => some ((p, (⟨r.1, r.2.1, r.2.2⟩ : S27)) :: l)) (ev_aclone _ ⟨a, b, c⟩ (Nat.lt_succ_self _) (by omega)) (Ev.bind (f := fun _ l => some ((p, (⟨a, b, c⟩ : S27)) :: l)) hx (Ev.now _))
    · rw [List.length_cons, hl, tsz]
      omega
    · rw [List.countP_cons, hc, cnt, prB_isPro]
      dsimp only
      omega
theorem ev_nodesL : ∀ (l : List S27) (p : List Int) (i : Nat), bulkL27 l ≤ 1048576 → p.length + bulkL27 l + 1 ≤ 3000000 → ∃ xs, Ev (fun k => nodesLO k p i l) xs ∧ xs.length = tszL l ∧ xs.countP (fun x => prB x.2) = cntL isPro l
  | [], p, i, _, _ => ⟨[], Ev.congr (f := fun _ => some []) (fun k => by rw [nodesLO]) (Ev.now _), rfl, rfl⟩
  | x :: l, p, i, hm, hp => by
    rw [bulkL27] at hm hp
    obtain ⟨xs, hx, hl, hc⟩ := ev_nodes x (p ++ [(i : Int)]) (by omega) (by rw [List.length_append]; simp only [List.length_cons, List.length_nil]; omega)
    obtain ⟨ys, hy, hl', hc'⟩ := ev_nodesL l p (i + 1) (by omega) (by omega)
    refine ⟨xs ++ ys, ?_, ?_, ?_⟩
    · refine Ev.congr (f := fun k => (nodesO k (p ++ [(i : Int)]) x).bind fun l' => (nodesLO k p (i + 1) l).bind fun m => some (l' ++ m)) (fun k => by rw [nodesLO]) ?_
      exact Ev.bind (f := fun k l' => (nodesLO k p (i + 1) l).bind fun m => some (l' ++ m)) hx (Ev.bind (f := fun _ m => some (xs ++ m)) hy (Ev.now _))
    · rw [List.length_append, hl, hl', tszL]
    · rw [List.countP_append, hc, hc', cntL]
end
/-- The pronouns of a tree, as the program counts them. -/
theorem ev_pronouns (t : S27) (hm : bulk27 t ≤ 1048576) : Ev (fun k => anaphora_Pronouns.f k t.f0 t.f1 t.f2) (cnt isPro t : Int) := by
  obtain ⟨a, b, c⟩ := t
  obtain ⟨xs, hx, hl, hc⟩ := ev_nodes ⟨a, b, c⟩ [] hm (by simp only [List.length_nil]; omega)
  have hb := tsz_bulk ⟨a, b, c⟩
  refine Ev.congr (f := fun k => (nodesO k [] ⟨a, b, c⟩).bind fun xs => if xs.length ≤ 1000000 then some ((xs.countP (fun x => prB x.2) : Nat) : Int) else none) (fun k => rfl) (Ev.bind hx ?_)
  simp only [if_pos (show xs.length ≤ 1000000 by omega), hc]
  exact Ev.now _
mutual
theorem cnt_two : ∀ t : S27, cnt isPro t = cnt (fun a => a.toList == [73, 116]) t + cnt (fun a => a.toList == [84, 104, 101, 121]) t
  | ⟨a, b, c⟩ => by
    have h := cntL_two c
    rw [cnt, cnt, cnt, h]
    have h2 : (if isPro a = true then 1 else 0) = (if (a.toList == [73, 116]) = true then 1 else 0) + (if (a.toList == [84, 104, 101, 121]) = true then 1 else 0) := by
      unfold isPro
      by_cases h1 : a.toList = [73, 116]
      · rw [h1]
        decide
      · by_cases h2 : a.toList = [84, 104, 101, 121]
        · rw [h2]
          decide
        · simp [h1, h2]
    omega
theorem cntL_two : ∀ l : List S27, cntL isPro l = cntL (fun a => a.toList == [73, 116]) l + cntL (fun a => a.toList == [84, 104, 101, 121]) l
  | [] => rfl
  | x :: l => by
    have h1 := cnt_two x
    have h2 := cntL_two l
    rw [cntL, cntL, cntL]
    omega
end
theorem ev_refpro (t : S27) (hm : bulk27 t ≤ 1048576) : Ev (fun k => pentaglotref46_Pronouns.f k t.f0 t.f1 t.f2) (cnt isPro t : Int) := by
  have h1 := ev_count ⟨#[73, 116]⟩ _ t (Nat.lt_succ_self _) (by omega)
  have h2 := ev_count ⟨#[84, 104, 101, 121]⟩ _ t (Nat.lt_succ_self _) (by omega)
  have hb := tsz_bulk t
  have hc := cnt_tsz isPro t
  have ht := cnt_two t
  refine Ev.congr (f := fun k => (pentaglotref46_Count.f k t.f0 t.f1 t.f2 ⟨#[73, 116]⟩).bind fun x => (pentaglotref46_Count.f k t.f0 t.f1 t.f2 ⟨#[84, 104, 101, 121]⟩).bind fun y => some (wrap64 (x + y))) (fun k => rfl) ?_
  refine Ev.bind (f := fun k x => (pentaglotref46_Count.f k t.f0 t.f1 t.f2 ⟨#[84, 104, 101, 121]⟩).bind fun y => some (wrap64 (x + y))) h1 (Ev.bind (f := fun _ y => some (wrap64 (_ + y))) h2 ?_)
  have : wrap64 ((cnt (fun a => a.toList == (⟨#[73, 116]⟩ : ByteArray).toList) t : Nat) + (cnt (fun a => a.toList == (⟨#[84, 104, 101, 121]⟩ : ByteArray).toList) t : Nat)) = (cnt isPro t : Int) := by
    have e1 : (⟨#[73, 116]⟩ : ByteArray).toList = [73, 116] := by decide +kernel
    have e2 : (⟨#[84, 104, 101, 121]⟩ : ByteArray).toList = [84, 104, 101, 121] := by decide +kernel
    rw [e1, e2, w64 (by omega) (by omega)]
    omega
  rw [this]
  exact Ev.now _
end Go.Proofs.Ytfampmajmbediaa.An
