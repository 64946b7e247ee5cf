/- Plain facts: the subject of a sentence and the antecedent, as the program and as the reference find them; the statement. -/
import Derived.Test.YtfampmajmbediaaPx0
import Derived.Test.YtfampmajmbediaaPx1
import Derived.Test.YtfampmajmbediaaPx3
import Derived.Test.YtfampmajmbediaaPx4
import Derived.Test.YtfampmajmbediaaPx5
import Derived.Test.YtfampmajmbediaaPx6
import Derived.Test.YtfampmajmbediaaPx7
import Derived.Test.YtfampmajmbediaaPx17
import Derived.Test.YtfampmajmbediaaPx22
import Derived.Test.YtfampmajmbediaaPx23
import Derived.Test.YtfampmajmbediaaPx24
import Derived.Test.YtfampmajmbediaaPx25
import Derived.Test.YtfampmajmbediaaPx26
import Derived.Test.YtfampmajmbediaaPx37
import Derived.Test.YtfampmajmbediaaAnA
namespace Go.Proofs.Ytfampmajmbediaa.An
set_option linter.unusedVariables false
set_option linter.unusedSimpArgs false
open Go.RowKit Go.Proofs.Ytfampmajmbediaa.P Go.Proofs.YtfampmajmbediaaW.PrintWords Go.Proofs.YtfampmajmbediaaW.PrintLast

abbrev bAssert : List UInt8 := [65, 115, 115, 101, 114, 116]
abbrev bMust : List UInt8 := [77, 117, 115, 116]
abbrev bMustNot : List UInt8 := [77, 117, 115, 116, 78, 111, 116]
abbrev bMay : List UInt8 := [77, 97, 121]
abbrev bDuring : List UInt8 := [68, 117, 114, 105, 110, 103]
abbrev bSince : List UInt8 := [83, 105, 110, 99, 101]
abbrev bUntil : List UInt8 := [85, 110, 116, 105, 108]
abbrev bPlease : List UInt8 := [80, 108, 101, 97, 115, 101]
abbrev bAlso : List UInt8 := [65, 108, 115, 111]
def upA (a : ByteArray) : Prop := a.toList = bAssert ∨ a.toList = bMust ∨ a.toList = bMustNot ∨ a.toList = bMay
def upB (a : ByteArray) : Prop := a.toList = bDuring ∨ a.toList = bSince ∨ a.toList = bUntil ∨ a.toList = bPlease ∨ a.toList = bAlso
instance (a : ByteArray) : Decidable (upA a) := by unfold upA; infer_instance
instance (a : ByteArray) : Decidable (upB a) := by unfold upB; infer_instance
mutual
/-- The path of the subject. -/
def subjS : S27 → Option (List Int)
 | ⟨a, _, c⟩ => subjSL a c
def subjSL (a : ByteArray) : List S27 → Option (List Int)
 | [] => none
 | x :: _ => if upA a then some ([0] : List Int) else if upB a then (subjS x).map (fun q => (0 : Int) :: q) else none
end
theorem subjSL_pos {a : ByteArray} {c : List S27} (h : 0 < c.length) : subjSL a c = if upA a then some ([0] : List Int) else if upB a then (subjS c[0]).map (fun q => (0 : Int) :: q) else none := by
 cases c with
 | nil => simp at h
 | cons x l => rw [subjSL]; rfl
def getP : List Int → S27 → Option S27
 | [], t => some t
 | i :: p, t => if i < 0 ∨ (t.f2.length : Int) ≤ i then none else getP p (rd_T27 t.f2 i)
theorem subj_get : ∀ (n : Nat) (t : S27) (q : List Int), bulk27 t < n → subjS t = some q → ∃ u, getP q t = some u ∧ bulk27 u ≤ bulk27 t ∧ q.length ≤ bulk27 t
 | 0, t, q, h, _ => absurd h (Nat.not_lt_zero _)
 | n + 1, ⟨a, b, c⟩, q, h, hs => by
  rw [subjS] at hs
  by_cases hc : 0 < c.length
  case neg =>
   have : c = [] := List.eq_nil_of_length_eq_zero (by omega)
   subst this
   rw [subjSL] at hs
   cases hs
  rw [subjSL_pos hc] at hs
  have hb := bulk_mem (t := ⟨a, b, c⟩) (List.getElem_mem hc)
  have h4 := bulk_pos (⟨a, b, c⟩ : S27)
  have st : ∀ q', getP (0 :: q') ⟨a, b, c⟩ = getP q' c[0] := fun q' => by
   rw [getP, if_neg (by dsimp only; omega)]
   exact congrArg (getP q') (rd0 hc)
  by_cases ha : upA a
  ·rw [if_pos ha] at hs
   obtain rfl := Option.some.inj hs
   exact ⟨c[0], by rw [st, getP], by omega, by simp only [List.length_cons, List.length_nil]; omega⟩
  rw [if_neg ha] at hs
  by_cases hbb : upB a
  case neg => rw [if_neg hbb] at hs; cases hs
  rw [if_pos hbb] at hs
  obtain ⟨q', hq', rfl⟩ := Option.map_eq_some_iff.1 hs
  obtain ⟨u, hu, hub, hl⟩ := subj_get n c[0] q' (by omega) hq'
  exact ⟨u, by rw [st]; exact hu, by omega, by rw [List.length_cons]; omega⟩
def subjR (p : List Int) : Option (List Int) → List Int × Bool
 | none => ([], false)
 | some q => (p ++ q, true)
theorem ev_subjS : ∀ (n : Nat) (t : S27) (p : List Int), bulk27 t < n → p.length + bulk27 t ≤ 1099511627776 → Ev (fun k => anaphora_subject.l0 k p t.f0 t.f1 t.f2) (subjR p (subjS t))
 | 0, t, p, h, _ => absurd h (Nat.not_lt_zero _)
 | n + 1, ⟨a, b, c⟩, p, h, hp => by
  rw [subjS]
  by_cases hc : (c.length : Int) > 0
  case neg =>
   have : c = [] := List.eq_nil_of_length_eq_zero (by omega)
   subst this
   rw [subjSL]
   exact Ev.step (f := fun _ => some ([], false)) (fun k => by rw [anaphora_subject.l0, if_neg hc]) (Ev.now _)
  have hc' : 0 < c.length := by omega
  rw [subjSL_pos hc']
  have hb := bulk_mem (t := ⟨a, b, c⟩) (List.getElem_mem hc')
  have hr := ev_subjS n c[0] (p ++ [0]) (by omega) (by rw [List.length_append]; simp only [List.length_cons, List.length_nil]; omega)
  have hl : p.length < 17592186044416 := by omega
  have jt : Ev (fun k => anaphora_subject.j1 k (p ++ [0]) a true a b c) (p ++ [0], true) := Ev.step (f := fun _ => some (p ++ [0], true)) (fun k => by rw [anaphora_subject.j1, if_pos rfl]) (Ev.now _)
  have jf : Ev (fun k => anaphora_subject.j1 k (p ++ [0]) a false a b c) (if upB a then subjR (p ++ [0]) (subjS c[0]) else ([], false)) := by
   by_cases h1 : a.toList = bDuring
   ·rw [if_pos (.inl h1)]
    exact Ev.step (fun k => by rw [anaphora_subject.j1, if_neg (by decide), if_pos h1, if_pos (by omega), rd0 hc']) hr
   by_cases h2 : a.toList = bSince
   ·rw [if_pos (.inr (.inl h2))]
    exact Ev.step (fun k => by rw [anaphora_subject.j1, if_neg (by decide), if_neg h1, if_pos h2, if_pos (by omega), rd0 hc']) hr
   by_cases h3 : a.toList = bUntil
   ·rw [if_pos (.inr (.inr (.inl h3)))]
    exact Ev.step (fun k => by rw [anaphora_subject.j1, if_neg (by decide), if_neg h1, if_neg h2, if_pos h3, if_pos (by omega), rd0 hc']) hr
   by_cases h4 : a.toList = bPlease
   ·rw [if_pos (.inr (.inr (.inr (.inl h4))))]
    exact Ev.step (fun k => by rw [anaphora_subject.j1, if_neg (by decide), if_neg h1, if_neg h2, if_neg h3, if_pos h4, if_pos (by omega), rd0 hc']) hr
   by_cases h5 : a.toList = bAlso
   ·rw [if_pos (.inr (.inr (.inr (.inr h5))))]
    exact Ev.step (fun k => by rw [anaphora_subject.j1, if_neg (by decide), if_neg h1, if_neg h2, if_neg h3, if_neg h4, if_pos h5, if_pos (by omega), rd0 hc']) hr
   rw [if_neg (by rintro (h | h | h | h | h) <;> contradiction)]
   exact Ev.step (f := fun _ => some ([], false)) (fun k => by rw [anaphora_subject.j1, if_neg (by decide), if_neg h1, if_neg h2, if_neg h3, if_neg h4, if_neg h5]) (Ev.now _)
  have fin : subjR p (if upA a then some ([0] : List Int) else if upB a then (subjS c[0]).map (fun q => (0 : Int) :: q) else none) = if upA a then (p ++ [0], true) else (if upB a then subjR (p ++ [0]) (subjS c[0]) else ([], false)) := by
   by_cases ha : upA a
   ·rw [if_pos ha, if_pos ha]; rfl
   rw [if_neg ha, if_neg ha]
   by_cases hbb : upB a
   ·rw [if_pos hbb, if_pos hbb]
    cases subjS c[0] with
    | none => rfl
    | some q => simp only [Option.map_some, subjR, List.append_assoc, List.cons_append, List.nil_append]
   ·rw [if_neg hbb, if_neg hbb]; rfl
  rw [fin]
  by_cases h1 : a.toList = bAssert
  ·rw [if_pos (.inl h1)]
   exact Ev.step (fun k => by rw [anaphora_subject.l0, if_pos hc, if_pos hl, Option.bind_some, if_pos h1, beq_iff_eq.mpr h1]) jt
  by_cases h2 : a.toList = bMust
  ·rw [if_pos (.inr (.inl h2))]
   exact Ev.step (fun k => by rw [anaphora_subject.l0, if_pos hc, if_pos hl, Option.bind_some, if_neg h1, if_pos h2, beq_iff_eq.mpr h2]) jt
  by_cases h3 : a.toList = bMustNot
  ·rw [if_pos (.inr (.inr (.inl h3)))]
   exact Ev.step (fun k => by rw [anaphora_subject.l0, if_pos hc, if_pos hl, Option.bind_some, if_neg h1, if_neg h2, if_pos h3, beq_iff_eq.mpr h3]) jt
  by_cases h4 : a.toList = bMay
  ·rw [if_pos (.inr (.inr (.inr h4)))]
   exact Ev.step (fun k => by rw [anaphora_subject.l0, if_pos hc, if_pos hl, Option.bind_some, if_neg h1, if_neg h2, if_neg h3, beq_iff_eq.mpr h4]) jt
  rw [if_neg (by rintro (h | h | h | h) <;> contradiction)]
  exact Ev.step (fun k => by rw [anaphora_subject.l0, if_pos hc, if_pos hl, Option.bind_some, if_neg h1, if_neg h2, if_neg h3, beq_eq_false_iff_ne.mpr h4]) jf
theorem ev_pathS : ∀ (n : Nat) (t : S27), bulk27 t < n → bulk27 t ≤ 1099511627776 → ∃ r, Ev (fun k => pentaglotref39_Path.f k t.f0 t.f1 t.f2) r ∧ r.2 = (subjS t).isSome ∧ (∀ q, subjS t = some q → r.1 = q) ∧ r.1.length ≤ bulk27 t
 | 0, t, h, _ => absurd h (Nat.not_lt_zero _)
 | n + 1, ⟨a, b, c⟩, h, hm => by
  have h4' := bulk_pos (⟨a, b, c⟩ : S27)
  rw [subjS]
  by_cases hc : (c.length : Int) = 0
  ·have : c = [] := List.eq_nil_of_length_eq_zero (by omega)
   subst this
   rw [subjSL]
   exact ⟨([], false), Ev.step (f := fun _ => some ([], false)) (fun k => by rw [pentaglotref39_Path.f, if_pos hc]) (Ev.now _), rfl, (by intro q hq; cases hq), Nat.zero_le _⟩
  have hc' : 0 < c.length := by omega
  rw [subjSL_pos hc']
  have hb := bulk_mem (t := ⟨a, b, c⟩) (List.getElem_mem hc')
  obtain ⟨r, hr, hr2, hrq, hrl⟩ := ev_pathS n c[0] (by omega) (by omega)
  have jt : Ev (fun k => pentaglotref39_Path.j0 k a true a b c) ([0], true) := Ev.step (f := fun _ => some ([0], true)) (fun k => by rw [pentaglotref39_Path.j0, if_pos rfl]) (Ev.now _)
  have go : Ev (fun k => (pentaglotref39_Path.f k c[0].f0 c[0].f1 c[0].f2).bind fun bt => ((some (([0] : List Int) : List Int)).bind fun y => (if y.length + bt.1.length < 17592186044416 then (some ((y ++ bt.1), bt.2)) else (none)))) (0 :: r.1, r.2) := by
   refine Ev.bind (f := fun _ bt => ((some (([0] : List Int) : List Int)).bind fun y => (if y.length + bt.1.length < 17592186044416 then (some ((y ++ bt.1), bt.2)) else (none)))) hr ?_
   have : ([0] : List Int).length + r.1.length < 17592186044416 := by simp only [List.length_cons, List.length_nil]; omega
   simp only [Option.bind_some, if_pos this]
   exact Ev.now _
  have jf : ∃ v, Ev (fun k => pentaglotref39_Path.j0 k a false a b c) v ∧ v = if upB a then (0 :: r.1, r.2) else ([], false) := by
   refine ⟨_, ?_, rfl⟩
   by_cases h1 : a.toList = bDuring
   ·rw [if_pos (.inl h1)]
    exact Ev.step (fun k => by rw [pentaglotref39_Path.j0, if_neg (by decide), if_pos h1, if_pos (by omega), rd0 hc']) go
   by_cases h2 : a.toList = bSince
   ·rw [if_pos (.inr (.inl h2))]
    exact Ev.step (fun k => by rw [pentaglotref39_Path.j0, if_neg (by decide), if_neg h1, if_pos h2, if_pos (by omega), rd0 hc']) go
   by_cases h3 : a.toList = bUntil
   ·rw [if_pos (.inr (.inr (.inl h3)))]
    exact Ev.step (fun k => by rw [pentaglotref39_Path.j0, if_neg (by decide), if_neg h1, if_neg h2, if_pos h3, if_pos (by omega), rd0 hc']) go
   by_cases h4 : a.toList = bPlease
   ·rw [if_pos (.inr (.inr (.inr (.inl h4))))]
    exact Ev.step (fun k => by rw [pentaglotref39_Path.j0, if_neg (by decide), if_neg h1, if_neg h2, if_neg h3, if_pos h4, if_pos (by omega), rd0 hc']) go
   by_cases h5 : a.toList = bAlso
   ·rw [if_pos (.inr (.inr (.inr (.inr h5))))]
    exact Ev.step (fun k => by rw [pentaglotref39_Path.j0, if_neg (by decide), if_neg h1, if_neg h2, if_neg h3, if_neg h4, if_pos h5, if_pos (by omega), rd0 hc']) go
   rw [if_neg (by rintro (h | h | h | h | h) <;> contradiction)]
   exact Ev.step (f := fun _ => some ([], false)) (fun k => by rw [pentaglotref39_Path.j0, if_neg (by decide), if_neg h1, if_neg h2, if_neg h3, if_neg h4, if_neg h5]) (Ev.now _)
  have good : ∀ q, upA a → (∀ k, pentaglotref39_Path.f (k + 1) a b c = pentaglotref39_Path.j0 k a q a b c) → q = true → ∃ r', Ev (fun k => pentaglotref39_Path.f k a b c) r' ∧ r'.2 = (if upA a then some ([0] : List Int) else if upB a then (subjS c[0]).map (fun q => (0 : Int) :: q) else none).isSome ∧ (∀ q, (if upA a then some ([0] : List Int) else if upB a then (subjS c[0]).map (fun q => (0 : Int) :: q) else none) = some q → r'.1 = q) ∧ r'.1.length ≤ bulk27 ⟨a, b, c⟩ := by
   rintro q ha hk rfl
   refine ⟨([0], true), Ev.step hk jt, by rw [if_pos ha]; rfl, fun q hq => ?_, by simp only [List.length_cons, List.length_nil]; omega⟩
   rw [if_pos ha] at hq
   exact Option.some.inj hq
  by_cases h1 : a.toList = bAssert
  ·exact good _ (.inl h1) (fun k => by rw [pentaglotref39_Path.f, if_neg hc, if_pos h1]) (beq_iff_eq.mpr h1)
  by_cases h2 : a.toList = bMust
  ·exact good _ (.inr (.inl h2)) (fun k => by rw [pentaglotref39_Path.f, if_neg hc, if_neg h1, if_pos h2]) (beq_iff_eq.mpr h2)
  by_cases h3 : a.toList = bMustNot
  ·exact good _ (.inr (.inr (.inl h3))) (fun k => by rw [pentaglotref39_Path.f, if_neg hc, if_neg h1, if_neg h2, if_pos h3]) (beq_iff_eq.mpr h3)
  by_cases h4 : a.toList = bMay
  ·exact good _ (.inr (.inr (.inr h4))) (fun k => by rw [pentaglotref39_Path.f, if_neg hc, if_neg h1, if_neg h2, if_neg h3]) (beq_iff_eq.mpr h4)
  have hna : ¬ upA a := by rintro (h | h | h | h) <;> contradiction
  obtain ⟨v, hv, hve⟩ := jf
  refine ⟨v, Ev.step (fun k => by rw [pentaglotref39_Path.f, if_neg hc, if_neg h1, if_neg h2, if_neg h3, beq_eq_false_iff_ne.mpr h4]) hv, ?_, ?_, ?_⟩
  ·rw [if_neg hna, hve]
   by_cases hbb : upB a
   ·rw [if_pos hbb, if_pos hbb, Option.isSome_map]
    exact hr2
   ·rw [if_neg hbb, if_neg hbb]; rfl
  ·intro q hq
   rw [if_neg hna] at hq
   by_cases hbb : upB a
   ·rw [if_pos hbb] at hq
    obtain ⟨q', hq', rfl⟩ := Option.map_eq_some_iff.1 hq
    rw [hve, if_pos hbb, hrq q' hq']
   ·rw [if_neg hbb] at hq; cases hq
  ·rw [hve]
   by_cases hbb : upB a
   ·rw [if_pos hbb]
    simp only [List.length_cons]
    omega
   ·rw [if_neg hbb]
    exact Nat.zero_le _
theorem rd_drop {p q : List Int} {i : Int} {j : Nat} (h : p.drop j = i :: q) : rd p (j : Int) = i ∧ j < p.length ∧ p.drop (j + 1) = q := by
 have hj : j < p.length := by
  rcases Nat.lt_or_ge j p.length with hj | hj
  ·exact hj
  ·rw [List.drop_of_length_le hj] at h; cases h
 rw [List.drop_eq_getElem_cons hj] at h
 injection h with h1 h2
 refine ⟨?_, hj, h2⟩
 unfold rd
 rw [Int.toNat_natCast, List.getD_eq_getElem?_getD, List.getElem?_eq_getElem hj]
 exact h1
theorem getP_bulk : ∀ (q : List Int) (t u : S27), getP q t = some u → bulk27 u ≤ bulk27 t
 | [], t, u, h => by rw [getP] at h; rw [Option.some.inj h]; exact Nat.le_refl _
 | i :: q, t, u, h => by
  rw [getP] at h
  by_cases hi : i < 0 ∨ (t.f2.length : Int) ≤ i
  ·rw [if_pos hi] at h; cases h
  rw [if_neg hi] at h
  obtain ⟨n, rfl⟩ : ∃ n : Nat, i = (n : Int) := ⟨i.toNat, by omega⟩
  have hn : n < t.f2.length := by omega
  rw [rdJ hn] at h
  have h1 := getP_bulk q _ u h
  have h2 := bulk_mem (t := t) (List.getElem_mem hn)
  omega
theorem ev_atP (p : List Int) (hp : p.length ≤ 1099511627776) : ∀ (q : List Int) (j : Nat) (t u : S27), p.drop j = q → j ≤ p.length → bulk27 t ≤ 1099511627776 → getP q t = some u → Ev (fun k => abstract_At.l0 k p (p.length : Int) (j : Int) t.f0 t.f1 t.f2) (u.f0, u.f1, u.f2, true) ∧ Ev (fun k => pentaglotref31_At.l0 k p (j : Int) t.f0 t.f1 t.f2) (u.f0, u.f1, u.f2, true)
 | [], j, t, u, hj, hjl, hm, h => by
  have hl : p.length ≤ j := List.drop_eq_nil_iff.1 hj
  rw [getP] at h
  obtain rfl := Option.some.inj h
  constructor
  ·refine Ev.step (f := fun k => (abstract_clone.f k t.f0 t.f1 t.f2).bind fun bt => some (bt.1, bt.2.1, bt.2.2, true)) (fun k => ?_) (Ev.bind (f := fun _ (bt : ByteArray × List Int × List S27) => some (bt.1, bt.2.1, bt.2.2, true)) (ev_aclone _ t (Nat.lt_succ_self _) hm) (Ev.now _))
   rw [abstract_At.l0, if_neg (by omega)]
  ·refine Ev.step (f := fun _ => some (t.f0, t.f1, t.f2, true)) (fun k => ?_) (Ev.now _)
   rw [pentaglotref31_At.l0, if_neg (by omega)]
 | i :: q, j, t, u, hj, hjl, hm, h => by
  obtain ⟨hr, hjp, hd⟩ := rd_drop hj
  rw [getP] at h
  by_cases hi : i < 0 ∨ (t.f2.length : Int) ≤ i
  ·rw [if_pos hi] at h; cases h
  rw [if_neg hi] at h
  obtain ⟨n, rfl⟩ : ∃ n : Nat, i = (n : Int) := ⟨i.toNat, by omega⟩
  have hn : n < t.f2.length := by omega
  rw [rdJ hn] at h
  have hb := bulk_mem (t := t) (List.getElem_mem hn)
  obtain ⟨e1, e2⟩ := ev_atP p hp q (j + 1) t.f2[n] u hd (by omega) (by omega) h
  have hw : wrap64 ((j : Int) + 1) = ((j + 1 : Nat) : Int) := by rw [w64 (by omega) (by omega)]; omega
  constructor
  ·refine Ev.step (fun k => ?_) e1
   rw [abstract_At.l0, if_pos (by omega), if_pos (by omega), if_pos (by omega), hr, if_neg (by omega), if_neg (by omega), if_pos (by omega), if_pos (by omega), rdJ hn, hw]
  ·refine Ev.step (fun k => ?_) e2
   rw [pentaglotref31_At.l0, if_pos (by omega), if_pos (by omega), hr, if_neg (by omega), if_neg (by omega), if_pos (by omega), if_pos (by omega), rdJ hn, hw]
abbrev bName : List UInt8 := [78, 97, 109, 101]
abbrev bBoth : List UInt8 := [66, 111, 116, 104]
mutual
/-- A noun phrase that a pronoun stands for. -/
def nbS : S27 → Bool
 | ⟨a, _, c⟩ => a.toList == bName || (a.toList == bBoth && (c.length == 2 && nbL c))
def nbL : List S27 → Bool
 | [] => true
 | x :: l => nbS x && nbL l
end
theorem nbL_two {c : List S27} (h : c.length = 2) (l0 : 0 < c.length) (l1 : 1 < c.length) : nbL c = (nbS c[0] && nbS c[1]) := by
 match c, h with
 | [x, y], _ => rw [nbL, nbL, nbL]; simp
theorem name_both {a : ByteArray} (h : a.toList = bBoth) : ¬ a.toList = bName := by rw [h]; decide
theorem ev_numS : ∀ (n : Nat) (t : S27), bulk27 t < n → ∃ r, Ev (fun k => anaphora_number.f k t.f0 t.f1 t.f2) r ∧ (r.toList = [] ↔ nbS t = false)
 | 0, t, h => absurd h (Nat.not_lt_zero _)
 | n + 1, ⟨a, b, c⟩, h => by
  have eI : (⟨#[73, 116]⟩ : ByteArray).toList = [73, 116] := by decide +kernel
  have eT : (⟨#[84, 104, 101, 121]⟩ : ByteArray).toList = [84, 104, 101, 121] := by decide +kernel
  have eN : (⟨#[]⟩ : ByteArray).toList = [] := by decide +kernel
  rw [nbS]
  by_cases h1 : a.toList = bName
  ·exact ⟨_, Ev.step (f := fun _ => some _) (fun k => by rw [anaphora_number.f, if_pos h1]) (Ev.now _), by rw [eI, h1]; simp⟩
  have h1' : (a.toList == bName) = false := beq_eq_false_iff_ne.mpr h1
  by_cases h2 : a.toList = bBoth
  case neg => exact ⟨_, Ev.step (f := fun _ => some _) (fun k => by rw [anaphora_number.f, if_neg h1, if_neg h2]) (Ev.now _), by rw [eN, h1', beq_eq_false_iff_ne.mpr h2]; simp⟩
  by_cases h3 : (c.length : Int) = 2
  case neg => exact ⟨_, Ev.step (f := fun _ => some _) (fun k => by rw [anaphora_number.f, if_neg h1, if_pos h2, if_neg h3]) (Ev.now _), by rw [eN, h1', show (c.length == 2) = false by simp; omega]; simp⟩
  have l0 : 0 < c.length := by omega
  have l1 : 1 < c.length := by omega
  have b0 := bulk_mem (t := ⟨a, b, c⟩) (List.getElem_mem l0)
  have b1 := bulk_mem (t := ⟨a, b, c⟩) (List.getElem_mem l1)
  obtain ⟨x, hx, hxn⟩ := ev_numS n c[0] (by omega)
  obtain ⟨y, hy, hyn⟩ := ev_numS n c[1] (by omega)
  have hq : (a.toList == bName || (a.toList == bBoth && (c.length == 2 && nbL c))) = (nbS c[0] && nbS c[1]) := by
   rw [h1', beq_iff_eq.mpr h2, show (c.length == 2) = true by simp; omega, nbL_two (by omega) l0 l1]
   simp
  rw [hq]
  have hE : ∀ r, Ev (fun k => if x.toList = ([] : List UInt8) then (some (⟨#[]⟩ : ByteArray)) else (if 1 < (c.length : Int) then ((anaphora_number.f k ((rd_T27 c 1).f0) ((rd_T27 c 1).f1) ((rd_T27 c 1).f2)).bind fun t143 => (if t143.toList = ([] : List UInt8) then (some (⟨#[]⟩ : ByteArray)) else (some (⟨#[84, 104, 101, 121]⟩ : ByteArray)))) else (none))) r → Ev (fun k => anaphora_number.f k a b c) r := by
   intro r hr
   refine Ev.step (f := fun k => (anaphora_number.f k c[0].f0 c[0].f1 c[0].f2).bind fun t141 => if t141.toList = ([] : List UInt8) then (some (⟨#[]⟩ : ByteArray)) else (if 1 < (c.length : Int) then ((anaphora_number.f k ((rd_T27 c 1).f0) ((rd_T27 c 1).f1) ((rd_T27 c 1).f2)).bind fun t143 => (if t143.toList = ([] : List UInt8) then (some (⟨#[]⟩ : ByteArray)) else (some (⟨#[84, 104, 101, 121]⟩ : ByteArray)))) else (none))) (fun k => ?_) (Ev.bind hx hr)
   rw [anaphora_number.f, if_neg h1, if_pos h2, if_pos h3, if_pos (by omega), rd0 l0]
  by_cases h4 : x.toList = ([] : List UInt8)
  ·exact ⟨_, hE _ (by simp only [if_pos h4]; exact Ev.now _), by rw [eN, hxn.1 h4]; simp⟩
  have hx1 : nbS c[0] = true := by
   cases hh : nbS c[0]
   ·exact absurd (hxn.2 hh) h4
   ·rfl
  have h5 : (1 : Int) < (c.length : Int) := by omega
  have e1 : rd_T27 c 1 = c[1] := rdJ (j := 1) l1
  refine ⟨if y.toList = ([] : List UInt8) then ⟨#[]⟩ else ⟨#[84, 104, 101, 121]⟩, hE _ ?_, ?_⟩
  ·simp only [if_neg h4, if_pos h5, e1]
   refine Ev.bind (f := fun _ (t143 : ByteArray) => (if t143.toList = ([] : List UInt8) then (some (⟨#[]⟩ : ByteArray)) else (some (⟨#[84, 104, 101, 121]⟩ : ByteArray)))) hy ?_
   by_cases h6 : y.toList = ([] : List UInt8)
   ·simp only [if_pos h6]
    exact Ev.now _
   ·simp only [if_neg h6]
    exact Ev.now _
  ·rw [hx1, Bool.true_and, ← hyn]
   by_cases h6 : y.toList = ([] : List UInt8)
   ·rw [if_pos h6, eN]
    exact ⟨fun _ => h6, fun _ => rfl⟩
   ·rw [if_neg h6, eT]
    exact ⟨fun h => (by cases h), fun h => absurd h h6⟩
/-- Singular or plural, as the reference finds it. -/
theorem ev_plS : ∀ (n : Nat) (t : S27), bulk27 t < n → bulk27 t ≤ 1099511627776 → Ev (fun k => pentaglotref46_Plural.f k t.f0 t.f1 t.f2) (t.f0.toList == bBoth && (t.f2.length == 2 && nbL t.f2))
 | 0, t, h, _ => absurd h (Nat.not_lt_zero _)
 | n + 1, ⟨a, b, c⟩, h, hm => by
  have hcl := bulk_kids ⟨a, b, c⟩
  dsimp only at hcl ⊢
  have no : Ev (fun k => pentaglotref46_Plural.j0 k true a b c) false := Ev.step (f := fun _ => some false) (fun k => by rw [pentaglotref46_Plural.j0, if_pos rfl]) (Ev.now _)
  by_cases h2 : a.toList = bBoth
  case neg =>
   rw [beq_eq_false_iff_ne.mpr h2, Bool.false_and]
   exact Ev.step (fun k => by rw [pentaglotref46_Plural.f, if_neg h2]) no
  rw [beq_iff_eq.mpr h2, Bool.true_and]
  by_cases h3 : c.length = 2
  case neg =>
   rw [show (c.length == 2) = false by simpa using h3, Bool.false_and]
   exact Ev.step (fun k => by rw [pentaglotref46_Plural.f, if_pos h2, show ((c.length : Int) != 2) = true by simp; omega]) no
  rw [show (c.length == 2) = true by simpa using h3, Bool.true_and]
  have loop : ∀ m j, c.length - j = m → j ≤ c.length → Ev (fun k => pentaglotref46_Plural.l0 k (j : Int) a b c) (nbL (c.drop j)) := by
   intro m
   induction m with
   | zero =>
    intro j hj hjl
    rw [List.drop_of_length_le (by omega), nbL]
    exact Ev.step (f := fun _ => some true) (fun k => by rw [pentaglotref46_Plural.l0, if_neg (by omega)]) (Ev.now _)
   | succ m ih =>
    intro j hj hjl
    have hj' : j < c.length := by omega
    have hb := bulk_mem (t := ⟨a, b, c⟩) (List.getElem_mem hj')
    have hw : wrap64 ((j : Int) + 1) = ((j + 1 : Nat) : Int) := by rw [w64 (by omega) (by omega)]; omega
    have hx := ev_plS n c[j] (by omega) (by omega)
    have hnx := ih (j + 1) (by omega) (by omega)
    have hs : nbS c[j] = (c[j].f0.toList == bName || (c[j].f0.toList == bBoth && (c[j].f2.length == 2 && nbL c[j].f2))) := by
     cases hcj : c[j]
     rw [nbS]
    rw [List.drop_eq_getElem_cons hj', nbL]
    have hE : ∀ r, Ev (fun k => if (c[j].f0.toList == bName) = true then (pentaglotref46_Plural.l0 k (wrap64 ((j : Int) + 1)) a b c) else ((pentaglotref46_Plural.f k c[j].f0 c[j].f1 c[j].f2).bind fun t357 => (if t357 = true then (pentaglotref46_Plural.l0 k (wrap64 ((j : Int) + 1)) a b c) else (some false)))) r → Ev (fun k => pentaglotref46_Plural.l0 k (j : Int) a b c) r := by
     intro r hr
     refine Ev.step (fun k => ?_) hr
     rw [pentaglotref46_Plural.l0, if_pos (by omega), if_pos (by omega), rdJ hj', pentaglotref46_Singular.f, Option.bind_some]
    refine hE _ ?_
    by_cases hn : (c[j].f0.toList == bName) = true
    ·simp only [if_pos hn, hw]
     rw [hs, hn, Bool.true_or, Bool.true_and]
     exact hnx
    ·simp only [if_neg hn, hw]
     refine Ev.bind (f := fun k t357 => (if t357 = true then (pentaglotref46_Plural.l0 k ((j + 1 : Nat) : Int) a b c) else (some false))) hx ?_
     rw [hs, show (c[j].f0.toList == bName) = false by simpa using hn, Bool.false_or]
     cases (c[j].f0.toList == bBoth && (c[j].f2.length == 2 && nbL c[j].f2)) with
     | true => simp only [if_pos, Bool.true_and]; exact hnx
     | false => simp only [Bool.false_eq_true, if_false, Bool.false_and]; exact Ev.now _
  have := loop _ 0 rfl (Nat.zero_le _)
  rw [List.drop_zero] at this
  exact Ev.step (fun k => by rw [pentaglotref46_Plural.f, if_pos h2, show ((c.length : Int) != 2) = false by simp; omega]) (Ev.step (fun k => by rw [pentaglotref46_Plural.j0, if_neg (by decide)]; rfl) this)
theorem nbS_eq (u : S27) : nbS u = (u.f0.toList == bName || (u.f0.toList == bBoth && (u.f2.length == 2 && nbL u.f2))) := by
 cases u
 rw [nbS]
/-- The antecedent, as the program and as the reference find it. -/
theorem ev_both (l : List S27) (hl : l.length ≤ 1000000) (hm : ∀ t ∈ l, bulk27 t ≤ 1048576) (i : Nat) (hi : i < l.length) :
  (Ev (fun k => anaphora_Antecedent.f k l (i : Int)) (⟨#[]⟩, [], [], 10) ∧ Ev (fun k => pentaglotref46_Antecedent.f k l (i : Int)) (⟨#[]⟩, [], [], false)) ∨
  ∃ v : S27, Ev (fun k => anaphora_Antecedent.f k l (i : Int)) (v.f0, v.f1, v.f2, 0) ∧ Ev (fun k => pentaglotref46_Antecedent.f k l (i : Int)) (v.f0, v.f1, v.f2, true) := by
 have start : ∀ r, Ev (fun k => anaphora_Antecedent.j0 k l (i : Int) false) r → Ev (fun k => anaphora_Antecedent.f k l (i : Int)) r := by
  intro r hr
  refine Ev.congr (fun k => ?_) hr
  rw [anaphora_Antecedent.f, if_neg (by omega), decide_eq_false (by omega)]
 by_cases h0 : i = 0
 ·subst h0
  refine .inl ⟨start _ (Ev.step (f := fun _ => some ((⟨#[]⟩ : ByteArray), ([] : List Int), ([] : List S27), 10)) (fun k => by rw [anaphora_Antecedent.j0, if_neg (by decide), if_pos (by omega)]) (Ev.now _)), ?_⟩
  refine Ev.congr (f := fun k => pentaglotref46_Antecedent.j0 k l ((0 : Nat) : Int) true) (fun k => by rw [pentaglotref46_Antecedent.f, if_pos (by omega)]) ?_
  exact Ev.step (f := fun _ => some ((⟨#[]⟩ : ByteArray), ([] : List Int), ([] : List S27), false)) (fun k => by rw [pentaglotref46_Antecedent.j0, if_pos rfl]) (Ev.now _)
 obtain ⟨j, rfl⟩ : ∃ j, i = j + 1 := ⟨i - 1, by omega⟩
 have hj : j < l.length := by omega
 have hw : wrap64 (((j + 1 : Nat) : Int) - 1) = (j : Int) := by rw [w64 (by omega) (by omega)]; omega
 have hb : bulk27 l[j] ≤ 1048576 := hm _ (List.getElem_mem hj)
 have hE : ∀ r, Ev (fun k => (anaphora_subject.f k l[j].f0 l[j].f1 l[j].f2).bind fun bt164 => (if bt164.2 = true then ((abstract_At.f k l[j].f0 l[j].f1 l[j].f2 bt164.1).bind fun bt169 => ((anaphora_number.f k bt169.1 bt169.2.1 bt169.2.2.1).bind fun t178 => (if t178.toList = ([] : List UInt8) then (some ((⟨#[]⟩ : ByteArray), ([] : List Int), ([] : List (S27)), (10 : Int))) else ((anaphora_clone.f k bt169.1 bt169.2.1 bt169.2.2.1).bind fun bt179 => (some (bt179.1, bt179.2.1, bt179.2.2, 0)))))) else (some ((⟨#[]⟩ : ByteArray), ([] : List Int), ([] : List (S27)), 10)))) r → Ev (fun k => anaphora_Antecedent.f k l ((j + 1 : Nat) : Int)) r := by
  intro r hr
  refine start _ (Ev.step (fun k => ?_) hr)
  rw [anaphora_Antecedent.j0, if_neg (by decide), if_neg (by omega), hw, if_pos (by omega), if_pos (by omega), rdJ hj]
 have rE : ∀ r, Ev (fun k => (pentaglotref39_Path.f k l[j].f0 l[j].f1 l[j].f2).bind fun bt360 => (if bt360.2 = true then ((pentaglotref39_Subject.f k l[j].f0 l[j].f1 l[j].f2).bind fun bt365 => ((pentaglotref46_Singular.f bt365.1 bt365.2.1 bt365.2.2).bind fun t373 => (if t373 = true then (some (bt365.1, bt365.2.1, bt365.2.2, true)) else ((pentaglotref46_Plural.f k bt365.1 bt365.2.1 bt365.2.2).bind fun t374 => (if t374 = true then (some (bt365.1, bt365.2.1, bt365.2.2, true)) else (some ((⟨#[]⟩ : ByteArray), ([] : List Int), ([] : List (S27)), false))))))) else (some ((⟨#[]⟩ : ByteArray), ([] : List Int), ([] : List (S27)), false)))) r → Ev (fun k => pentaglotref46_Antecedent.f k l ((j + 1 : Nat) : Int)) r := by
  intro r hr
  refine Ev.congr (f := fun k => pentaglotref46_Antecedent.j0 k l ((j + 1 : Nat) : Int) false) (fun k => by rw [pentaglotref46_Antecedent.f, if_neg (by omega), decide_eq_false (by omega)]) (Ev.step (fun k => ?_) hr)
  rw [pentaglotref46_Antecedent.j0, if_neg (by decide), hw, if_pos (by omega), if_pos (by omega), rdJ hj]
 have hp : Ev (fun k => anaphora_subject.f k l[j].f0 l[j].f1 l[j].f2) (subjR [] (subjS l[j])) := ev_subjS _ l[j] [] (Nat.lt_succ_self _) (by simp only [List.length_nil]; omega)
 obtain ⟨r, hr, hr2, hrq, hrl⟩ := ev_pathS _ l[j] (Nat.lt_succ_self _) (by omega)
 cases hs : subjS l[j] with
 | none =>
  rw [hs] at hp hr2
  refine .inl ⟨hE _ (Ev.bind hp (Ev.now _)), rE _ (Ev.bind hr ?_)⟩
  have : ¬ r.2 = true := by rw [hr2]; decide
  simp only [if_neg this]
  exact Ev.now _
 | some q =>
  rw [hs] at hp hr2
  obtain ⟨u, hu, hub, hql⟩ := subj_get _ l[j] q (Nat.lt_succ_self _) hs
  obtain ⟨e1, e2⟩ := ev_atP q (by omega) q 0 l[j] u (List.drop_zero) (Nat.zero_le _) (by omega) hu
  obtain ⟨nm, hnm, hn0⟩ := ev_numS _ u (Nat.lt_succ_self _)
  have hcl := ev_nclone _ u (Nat.lt_succ_self _) (by omega)
  have hpl := ev_plS _ u (Nat.lt_succ_self _) (by omega)
  have hu' : Ev (fun k => abstract_At.f k l[j].f0 l[j].f1 l[j].f2 ([] ++ q)) (u.f0, u.f1, u.f2, true) := e1
  have hs' : Ev (fun k => pentaglotref39_Subject.f k l[j].f0 l[j].f1 l[j].f2) (u.f0, u.f1, u.f2) := by
   have e2' : Ev (fun k => pentaglotref31_At.f k l[j].f0 l[j].f1 l[j].f2 r.1) (u.f0, u.f1, u.f2, true) := by rw [hrq q hs]; exact e2
   exact Ev.congr (f := fun k => (pentaglotref39_Path.f k l[j].f0 l[j].f1 l[j].f2).bind fun bt339 => ((pentaglotref31_At.f k l[j].f0 l[j].f1 l[j].f2 bt339.1).bind fun bt343 => (some (bt343.1, bt343.2.1, bt343.2.2.1)))) (fun k => rfl) (Ev.bind hr (Ev.bind (f := fun _ (bt343 : ByteArray × List Int × List S27 × Bool) => some (bt343.1, bt343.2.1, bt343.2.2.1)) e2' (Ev.now _)))
  have ok : r.2 = true := by rw [hr2]; rfl
  have refE : ∀ v, Ev (fun k => (pentaglotref46_Singular.f u.f0 u.f1 u.f2).bind fun t373 => (if t373 = true then (some (u.f0, u.f1, u.f2, true)) else ((pentaglotref46_Plural.f k u.f0 u.f1 u.f2).bind fun t374 => (if t374 = true then (some (u.f0, u.f1, u.f2, true)) else (some ((⟨#[]⟩ : ByteArray), ([] : List Int), ([] : List (S27)), false)))))) v → Ev (fun k => pentaglotref46_Antecedent.f k l ((j + 1 : Nat) : Int)) v := by
   intro v hv
   refine rE _ (Ev.bind hr ?_)
   simp only [if_pos ok]
   exact Ev.bind (f := fun k bt365 => ((pentaglotref46_Singular.f bt365.1 bt365.2.1 bt365.2.2).bind fun t373 => (if t373 = true then (some (bt365.1, bt365.2.1, bt365.2.2, true)) else ((pentaglotref46_Plural.f k bt365.1 bt365.2.1 bt365.2.2).bind fun t374 => (if t374 = true then (some (bt365.1, bt365.2.1, bt365.2.2, true)) else (some ((⟨#[]⟩ : ByteArray), ([] : List Int), ([] : List (S27)), false))))))) hs' hv
  have antE : ∀ v, Ev (fun k => if nm.toList = ([] : List UInt8) then (some ((⟨#[]⟩ : ByteArray), ([] : List Int), ([] : List (S27)), (10 : Int))) else ((anaphora_clone.f k u.f0 u.f1 u.f2).bind fun bt179 => (some (bt179.1, bt179.2.1, bt179.2.2, 0)))) v → Ev (fun k => anaphora_Antecedent.f k l ((j + 1 : Nat) : Int)) v := by
   intro v hv
   refine hE _ (Ev.bind hp ?_)
   have : (subjR [] (some q)).2 = true := rfl
   simp only [if_pos this]
   exact Ev.bind (f := fun k bt169 => ((anaphora_number.f k bt169.1 bt169.2.1 bt169.2.2.1).bind fun t178 => (if t178.toList = ([] : List UInt8) then (some ((⟨#[]⟩ : ByteArray), ([] : List Int), ([] : List (S27)), (10 : Int))) else ((anaphora_clone.f k bt169.1 bt169.2.1 bt169.2.2.1).bind fun bt179 => (some (bt179.1, bt179.2.1, bt179.2.2, 0)))))) hu' (Ev.bind hnm hv)
  cases hnb : nbS u with
  | false =>
   have hz : nm.toList = [] := hn0.2 hnb
   rw [nbS_eq, Bool.or_eq_false_iff] at hnb
   refine .inl ⟨antE _ (by simp only [if_pos hz]; exact Ev.now _), refE _ ?_⟩
   simp only [pentaglotref46_Singular.f, hnb.1, Option.bind_some, Bool.false_eq_true, if_false]
   rw [hnb.2] at hpl
   exact Ev.bind (f := fun _ t374 => (if t374 = true then (some (u.f0, u.f1, u.f2, true)) else (some ((⟨#[]⟩ : ByteArray), ([] : List Int), ([] : List (S27)), false)))) hpl (Ev.now _)
  | true =>
   have hz : ¬ nm.toList = [] := fun h => by rw [hn0.1 h] at hnb; cases hnb
   refine .inr ⟨u, antE _ ?_, refE _ ?_⟩
   ·simp only [if_neg hz]
    exact Ev.bind (f := fun _ (bt179 : ByteArray × List Int × List S27) => some (bt179.1, bt179.2.1, bt179.2.2, (0 : Int))) hcl (Ev.now _)
   ·cases hq : (u.f0.toList == bName) with
    | true =>
     simp only [pentaglotref46_Singular.f, hq, Option.bind_some, if_pos]
     exact Ev.now _
    | false =>
     rw [nbS_eq, hq, Bool.false_or] at hnb
     rw [hnb] at hpl
     simp only [pentaglotref46_Singular.f, hq, Option.bind_some, Bool.false_eq_true, if_false]
     exact Ev.bind (f := fun _ t374 => (if t374 = true then (some (u.f0, u.f1, u.f2, true)) else (some ((⟨#[]⟩ : ByteArray), ([] : List Int), ([] : List (S27)), false)))) hpl (Ev.now _)
/-- Out of range. -/
theorem ev_out (l : List S27) (i : Int) (h : i < 0 ∨ (l.length : Int) ≤ i) : Ev (fun k => anaphora_Antecedent.f k l i) (⟨#[]⟩, [], [], 1) := by
 have bad : Ev (fun k => anaphora_Antecedent.j0 k l i true) (⟨#[]⟩, [], [], 1) := Ev.step (f := fun _ => some ((⟨#[]⟩ : ByteArray), ([] : List Int), ([] : List S27), 1)) (fun k => by rw [anaphora_Antecedent.j0, if_pos rfl]) (Ev.now _)
 by_cases h0 : i < 0
 ·exact Ev.congr (fun k => by rw [anaphora_Antecedent.f, if_pos h0]) bad
 ·exact Ev.congr (fun k => by rw [anaphora_Antecedent.f, if_neg h0, decide_eq_true (by omega)]) bad
end Go.Proofs.Ytfampmajmbediaa.An
namespace Go.Proofs.Ytfampmajmbediaa.Pure
open Go.RowKit Go.Proofs.Ytfampmajmbediaa.P Go.Proofs.YtfampmajmbediaaW.PrintWords Go.Proofs.YtfampmajmbediaaW.PrintLast Go.Proofs.Ytfampmajmbediaa.An
theorem AnaphoraAntecedents : pentaglotlaw46_AnaphoraAntecedents.Pure := by
 intro p0 p1 hwf hwf1 hb
 refine Ev.rounds ?_
 obtain ⟨s, hs, hsn⟩ := ev_notice p0 (by omega)
 have fin : ∀ s, Ev (fun k => pentaglotlaw46_notice.f k p0) s → Ev (fun k => if s = false then some true else (anaphora_Antecedent.f k p0 p1).bind fun np =>
  if p1 < 0 then (if np.2.2.2 = 1 ∧ sameB ⟨np.1, np.2.1, np.2.2.1⟩ awE = true then some true else none) else
  if (p0.length : Int) ≤ p1 then (if np.2.2.2 = 1 ∧ sameB ⟨np.1, np.2.1, np.2.2.1⟩ awE = true then some true else none) else
  (pentaglotref46_Antecedent.f k p0 p1).bind fun u => if u.2.2.2 = false then (if np.2.2.2 = 10 ∧ sameB ⟨np.1, np.2.1, np.2.2.1⟩ awE = true then some true else none) else
   (if np.2.2.2 = 0 ∧ sameB ⟨np.1, np.2.1, np.2.2.1⟩ ⟨u.1, u.2.1, u.2.2.1⟩ = true then some true else none)) true → Ev (fun k => pentaglotlaw46_AnaphoraAntecedents.f k p0 p1) true := fun s hs h =>
  Ev.congr (fun k => rfl) (Ev.bind (f := fun k _ => (pentaglotlaw46_notice.f k p0).bind fun s => if s = false then some true else (anaphora_Antecedent.f k p0 p1).bind fun np =>
  if p1 < 0 then (if np.2.2.2 = 1 ∧ sameB ⟨np.1, np.2.1, np.2.2.1⟩ awE = true then some true else none) else
  if (p0.length : Int) ≤ p1 then (if np.2.2.2 = 1 ∧ sameB ⟨np.1, np.2.1, np.2.2.1⟩ awE = true then some true else none) else
  (pentaglotref46_Antecedent.f k p0 p1).bind fun u => if u.2.2.2 = false then (if np.2.2.2 = 10 ∧ sameB ⟨np.1, np.2.1, np.2.2.1⟩ awE = true then some true else none) else
   (if np.2.2.2 = 0 ∧ sameB ⟨np.1, np.2.1, np.2.2.1⟩ ⟨u.1, u.2.1, u.2.2.1⟩ = true then some true else none)) ev_awake (Ev.bind hs h))
 refine fin s hs ?_
 cases s with
 | false => simp only [if_pos]; exact Ev.now _
 | true =>
  obtain ⟨h8, hbt⟩ := hsn rfl
  simp only [Bool.true_eq_false, if_false]
  have hz : sameB ⟨⟨#[]⟩, [], []⟩ awE = true := sameB_refl awE
  by_cases h0 : p1 < 0
  ·refine Ev.bind (ev_out p0 p1 (.inl h0)) ?_
   simp only [if_pos h0, hz, and_self, if_pos]
   exact Ev.now _
  by_cases h1 : (p0.length : Int) ≤ p1
  ·refine Ev.bind (ev_out p0 p1 (.inr h1)) ?_
   simp only [if_neg h0, if_pos h1, hz, and_self, if_pos]
   exact Ev.now _
  obtain ⟨i, rfl⟩ : ∃ i : Nat, p1 = (i : Int) := ⟨p1.toNat, by omega⟩
  rcases ev_both p0 (by omega) (fun t ht => (hbt t ht).1) i (by omega) with ⟨ha, hr⟩ | ⟨v, ha, hr⟩
  ·refine Ev.bind ha ?_
   simp only [if_neg h0, if_neg h1]
   refine Ev.bind hr ?_
   simp only [if_pos, hz, and_self]
   exact Ev.now _
  ·refine Ev.bind ha ?_
   simp only [if_neg h0, if_neg h1]
   refine Ev.bind hr ?_
   simp only [Bool.true_eq_false, if_false, eta27, sameB_refl, and_self, if_pos]
   exact Ev.now _
end Go.Proofs.Ytfampmajmbediaa.Pure
