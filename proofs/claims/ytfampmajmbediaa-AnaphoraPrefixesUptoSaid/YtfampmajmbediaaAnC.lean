/- Plain facts: what Resolve runs comes to an end on a notice of trees that are not too large; the notice's first sentences; what the statements ask first. -/
import Derived.Test.YtfampmajmbediaaPx0
import Derived.Test.YtfampmajmbediaaPx1
import Derived.Test.YtfampmajmbediaaPx2
import Derived.Test.YtfampmajmbediaaPx3
import Derived.Test.YtfampmajmbediaaPx4
import Derived.Test.YtfampmajmbediaaPx5
import Derived.Test.YtfampmajmbediaaPx6
import Derived.Test.YtfampmajmbediaaPx7
import Derived.Test.YtfampmajmbediaaPx9
import Derived.Test.YtfampmajmbediaaPx10
import Derived.Test.YtfampmajmbediaaPx11
import Derived.Test.YtfampmajmbediaaPx12
import Derived.Test.YtfampmajmbediaaPx13
import Derived.Test.YtfampmajmbediaaPx21
import Derived.Test.YtfampmajmbediaaPx22
import Derived.Test.YtfampmajmbediaaAnB
namespace Go.Proofs.Ytfampmajmbediaa.An
set_option linter.unusedVariables false
set_option linter.unusedSimpArgs false
open Go.RowKit Go.Proofs.Ytfampmajmbediaa.P Go.Proofs.YtfampmajmbediaaW.PrintWords Go.Proofs.YtfampmajmbediaaW.PrintLast
theorem eta27 (t : S27) : (⟨t.f0, t.f1, t.f2⟩ : S27) = t := by cases t; rfl
theorem bulk_pos (t : S27) : 4 ≤ bulk27 t := by obtain ⟨a, b, c⟩ := t; rw [bulk27]; omega
theorem ev_nclone : ∀ (n : Nat) (t : S27), bulk27 t < n → bulk27 t ≤ 1099511627776 → Ev (fun k => anaphora_clone.f k t.f0 t.f1 t.f2) (t.f0, t.f1, t.f2)
  | 0, t, h, _ => absurd h (Nat.not_lt_zero _)
  | n + 1, ⟨a, b, c⟩, h, hm => by
    have hcl := bulk_kids ⟨a, b, c⟩
    have hbl := bulk_vals ⟨a, b, c⟩
    dsimp only at hcl hbl
    have loop : ∀ m j, c.length - j = m → j ≤ c.length → Ev (fun k => anaphora_clone.l0 k c (c.length : Int) (j : Int) a b (c.take j)) (a, b, c) := by
      intro m
      induction m with
      | zero =>
        intro j hj hjl
        have he : j = c.length := by omega
        subst he
        refine Ev.step (f := fun _ => some (a, b, c)) (fun k => ?_) (Ev.now _)
        rw [anaphora_clone.l0, if_neg (by omega), List.take_length]
      | succ m ih =>
        intro j hj hjl
        have hj' : j < c.length := by omega
        have hb := bulk_mem (t := ⟨a, b, c⟩) (List.getElem_mem hj')
        have hx := ev_nclone n c[j] (by omega) (by omega)
        refine Ev.step (f := fun k => (anaphora_clone.f k c[j].f0 c[j].f1 c[j].f2).bind fun bt => if (c.take j).length < 2199023255552 then (anaphora_clone.l0 k c (c.length : Int) (wrap64 ((j : Int) + 1)) a b (c.take j ++ [(⟨bt.1, bt.2.1, bt.2.2⟩ : S27)])) else none) (fun k => ?_) ?_
        · rw [anaphora_clone.l0, if_pos (by omega), if_pos (by omega), if_pos (by omega), rdJ hj']
        · refine Ev.bind hx ?_
          simp only [if_pos (show (c.take j).length < 2199023255552 by rw [List.length_take]; omega)]
          have := ih (j + 1) (by omega) (by omega)
          rw [w64 (by omega) (by omega), show ((j : Int) + 1) = ((j + 1 : Nat) : Int) by omega]
          rw [List.take_succ_eq_append_getElem hj'] at this
          simp only [eta27]
          exact this
    refine Ev.step (f := fun k => anaphora_clone.l0 k c (c.length : Int) 0 a b ([] : List (S27))) (fun k => ?_) (loop _ 0 rfl (Nat.zero_le _))
    rw [anaphora_clone.f, if_pos (by simp only [List.length_nil]; omega), List.nil_append]
/-- The first kid. -/
theorem rd0 {c : List S27} (h : 0 < c.length) : rd_T27 c 0 = c[0] := rdJ (j := 0) h
theorem ev_subject : ∀ (n : Nat) (t : S27) (p : List Int), bulk27 t < n → p.length + bulk27 t ≤ 1099511627776 → ∃ r, Ev (fun k => anaphora_subject.l0 k p t.f0 t.f1 t.f2) r ∧ r.1.length ≤ p.length + bulk27 t
  | 0, t, p, h, _ => absurd h (Nat.not_lt_zero _)
  | n + 1, ⟨a, b, c⟩, p, h, hp => by
    by_cases hc : (c.length : Int) > 0
    case neg =>
      refine ⟨([], false), Ev.step (f := fun _ => some ([], false)) (fun k => ?_) (Ev.now _), by simp only [List.length_nil]; omega⟩
      rw [anaphora_subject.l0, if_neg hc]
    have hc' : 0 < c.length := by omega
    have hb := bulk_mem (t := ⟨a, b, c⟩) (List.getElem_mem hc')
    obtain ⟨r, hr, hrl⟩ := ev_subject n c[0] (p ++ [0]) (by omega) (by rw [List.length_append]; simp only [List.length_cons, List.length_nil]; omega)
    have hrl' : r.1.length ≤ p.length + bulk27 ⟨a, b, c⟩ := by rw [List.length_append] at hrl; simp only [List.length_cons, List.length_nil] at hrl; omega
    have hq : (p ++ [0]).length ≤ p.length + bulk27 ⟨a, b, c⟩ := by rw [List.length_append]; simp only [List.length_cons, List.length_nil]; have := bulk_pos ⟨a, b, c⟩; omega
    have hj : ∀ q : Bool, ∃ r, Ev (fun k => anaphora_subject.j1 k (p ++ [0]) a q a b c) r ∧ r.1.length ≤ p.length + bulk27 ⟨a, b, c⟩ := by
      intro q
      cases q with
      | true => exact ⟨(p ++ [0], true), Ev.step (f := fun _ => some (p ++ [0], true)) (fun k => by rw [anaphora_subject.j1, if_pos rfl]) (Ev.now _), hq⟩
      | false =>
        have go : (∀ k, anaphora_subject.j1 (k + 1) (p ++ [0]) a false a b c = anaphora_subject.l0 k (p ++ [0]) c[0].f0 c[0].f1 c[0].f2) ∨ (∀ k, anaphora_subject.j1 (k + 1) (p ++ [0]) a false a b c = some ([], false)) := by
          by_cases h1 : a.toList = ([68, 117, 114, 105, 110, 103] : List UInt8)
          · exact .inl (fun k => by rw [anaphora_subject.j1, if_neg (by decide), if_pos h1, if_pos (by omega), rd0 hc'])
          by_cases h2 : a.toList = ([83, 105, 110, 99, 101] : List UInt8)
          · exact .inl (fun k => by rw [anaphora_subject.j1, if_neg (by decide), if_neg h1, if_pos h2, if_pos (by omega), rd0 hc'])
          by_cases h3 : a.toList = ([85, 110, 116, 105, 108] : List UInt8)
          · exact .inl (fun k => by rw [anaphora_subject.j1, if_neg (by decide), if_neg h1, if_neg h2, if_pos h3, if_pos (by omega), rd0 hc'])
          by_cases h4 : a.toList = ([80, 108, 101, 97, 115, 101] : List UInt8)
          · exact .inl (fun k => by rw [anaphora_subject.j1, if_neg (by decide), if_neg h1, if_neg h2, if_neg h3, if_pos h4, if_pos (by omega), rd0 hc'])
          by_cases h5 : a.toList = ([65, 108, 115, 111] : List UInt8)
          · exact .inl (fun k => by rw [anaphora_subject.j1, if_neg (by decide), if_neg h1, if_neg h2, if_neg h3, if_neg h4, if_pos h5, if_pos (by omega), rd0 hc'])
          · exact .inr (fun k => by rw [anaphora_subject.j1, if_neg (by decide), if_neg h1, if_neg h2, if_neg h3, if_neg h4, if_neg h5])
        rcases go with go | go
        · exact ⟨r, Ev.step go hr, hrl'⟩
        · exact ⟨([], false), Ev.step (f := fun _ => some ([], false)) go (Ev.now _), by simp only [List.length_nil]; omega⟩
    have hl : p.length < 17592186044416 := by omega
    have st : ∃ q, ∀ k, anaphora_subject.l0 (k + 1) p a b c = anaphora_subject.j1 k (p ++ [0]) a q a b c := by
      by_cases h1 : a.toList = ([65, 115, 115, 101, 114, 116] : List UInt8)
      · exact ⟨_, fun k => by rw [anaphora_subject.l0, if_pos hc, if_pos hl, Option.bind_some, if_pos h1]⟩
      by_cases h2 : a.toList = ([77, 117, 115, 116] : List UInt8)
      · exact ⟨_, fun k => by rw [anaphora_subject.l0, if_pos hc, if_pos hl, Option.bind_some, if_neg h1, if_pos h2]⟩
      by_cases h3 : a.toList = ([77, 117, 115, 116, 78, 111, 116] : List UInt8)
      · exact ⟨_, fun k => by rw [anaphora_subject.l0, if_pos hc, if_pos hl, Option.bind_some, if_neg h1, if_neg h2, if_pos h3]⟩
      · exact ⟨_, fun k => by rw [anaphora_subject.l0, if_pos hc, if_pos hl, Option.bind_some, if_neg h1, if_neg h2, if_neg h3]⟩
    obtain ⟨q, hq'⟩ := st
    obtain ⟨r', hr', hrr⟩ := hj q
    exact ⟨r', Ev.step hq' hr', hrr⟩
/-- What At gives: a tree that is no larger. -/
theorem ev_at (p : List Int) (hp : p.length ≤ 1099511627776) : ∀ (m : Nat) (j : Nat) (t : S27), p.length - j = m → j ≤ p.length → bulk27 t ≤ 1099511627776 → ∃ r, Ev (fun k => abstract_At.l0 k p (p.length : Int) (j : Int) t.f0 t.f1 t.f2) r ∧ bulk27 ⟨r.1, r.2.1, r.2.2.1⟩ ≤ bulk27 t
  | 0, j, t, hj, hjl, hm => by
    refine ⟨(t.f0, t.f1, t.f2, true), Ev.step (f := fun k => (abstract_clone.f k t.f0 t.f1 t.f2).bind fun bt => some (bt.1, bt.2.1, bt.2.2, true)) (fun k => ?_) (Ev.bind (f := fun _ (bt : ByteArray × List Int × List S27) => some (bt.1, bt.2.1, bt.2.2, true)) (ev_aclone _ t (Nat.lt_succ_self _) hm) (Ev.now _)), by rw [eta27]; exact Nat.le_refl _⟩
    rw [abstract_At.l0, if_neg (by omega)]
  | m + 1, j, t, hj, hjl, hm => by
    have bad : bulk27 ⟨⟨#[]⟩, [], []⟩ ≤ bulk27 t := by have := bulk_pos t; rw [bulk27]; simp only [bulkL27, List.map_nil, List.sum_nil]; have : (⟨#[]⟩ : ByteArray).size = 0 := rfl; omega
    by_cases h1 : rd p (j : Int) < 0
    · refine ⟨(⟨#[]⟩, [], [], false), Ev.step (f := fun _ => some (⟨#[]⟩, [], [], false)) (fun k => ?_) (Ev.now _), bad⟩
      rw [abstract_At.l0, if_pos (by omega), if_pos (by omega), if_pos (by omega), if_pos h1]
    by_cases h2 : rd p (j : Int) ≥ (t.f2.length : Int)
    · refine ⟨(⟨#[]⟩, [], [], false), Ev.step (f := fun _ => some (⟨#[]⟩, [], [], false)) (fun k => ?_) (Ev.now _), bad⟩
      rw [abstract_At.l0, if_pos (by omega), if_pos (by omega), if_pos (by omega), if_neg h1, if_pos h2]
    obtain ⟨i, hi⟩ : ∃ i : Nat, rd p (j : Int) = (i : Int) := ⟨(rd p (j : Int)).toNat, by omega⟩
    have hil : i < t.f2.length := by omega
    have hb := bulk_mem (t := t) (List.getElem_mem hil)
    obtain ⟨r, hr, hrb⟩ := ev_at p hp m (j + 1) t.f2[i] (by omega) (by omega) (by omega)
    refine ⟨r, Ev.step (f := fun k => abstract_At.l0 k p (p.length : Int) (wrap64 ((j : Int) + 1)) t.f2[i].f0 t.f2[i].f1 t.f2[i].f2) (fun k => ?_) ?_, by omega⟩
    · rw [abstract_At.l0, if_pos (by omega), if_pos (by omega), if_pos (by omega), if_neg h1, if_neg h2, if_pos (by omega), if_pos (by omega), hi, rdJ hil]
    · rw [w64 (by omega) (by omega), show ((j : Int) + 1) = ((j + 1 : Nat) : Int) by omega]
      exact hr
theorem ev_number : ∀ (n : Nat) (t : S27), bulk27 t < n → ∃ r, Ev (fun k => anaphora_number.f k t.f0 t.f1 t.f2) r
  | 0, t, h => absurd h (Nat.not_lt_zero _)
  | n + 1, ⟨a, b, c⟩, h => by
    by_cases h1 : a.toList = ([78, 97, 109, 101] : List UInt8)
    · exact ⟨_, Ev.step (f := fun _ => some _) (fun k => by rw [anaphora_number.f, if_pos h1]) (Ev.now _)⟩
    by_cases h2 : a.toList = ([66, 111, 116, 104] : List UInt8)
    case neg => exact ⟨_, Ev.step (f := fun _ => some _) (fun k => by rw [anaphora_number.f, if_neg h1, if_neg h2]) (Ev.now _)⟩
    by_cases h3 : (c.length : Int) = 2
    case neg => exact ⟨_, Ev.step (f := fun _ => some _) (fun k => by rw [anaphora_number.f, if_neg h1, if_pos h2, if_neg h3]) (Ev.now _)⟩
    have l0 : 0 < c.length := by omega
    have l1 : 1 < c.length := by omega
    have b0 := bulk_mem (t := ⟨a, b, c⟩) (List.getElem_mem l0)
    have b1 := bulk_mem (t := ⟨a, b, c⟩) (List.getElem_mem l1)
    obtain ⟨x, hx⟩ := ev_number n c[0] (by omega)
    obtain ⟨y, hy⟩ := ev_number n c[1] (by omega)
    have hE : ∀ r, Ev (fun k => if x.toList = ([] : List UInt8) then (some (⟨#[]⟩ : ByteArray)) else (if 1 < (c.length : Int) then ((anaphora_number.f k ((rd_T27 c 1).f0) ((rd_T27 c 1).f1) ((rd_T27 c 1).f2)).bind fun t143 => (if t143.toList = ([] : List UInt8) then (some (⟨#[]⟩ : ByteArray)) else (some (⟨#[84, 104, 101, 121]⟩ : ByteArray)))) else (none))) r → Ev (fun k => anaphora_number.f k a b c) r := by
      intro r hr
      refine Ev.step (f := fun k => (anaphora_number.f k c[0].f0 c[0].f1 c[0].f2).bind fun t141 => if t141.toList = ([] : List UInt8) then (some (⟨#[]⟩ : ByteArray)) else (if 1 < (c.length : Int) then ((anaphora_number.f k ((rd_T27 c 1).f0) ((rd_T27 c 1).f1) ((rd_T27 c 1).f2)).bind fun t143 => (if t143.toList = ([] : List UInt8) then (some (⟨#[]⟩ : ByteArray)) else (some (⟨#[84, 104, 101, 121]⟩ : ByteArray)))) else (none))) (fun k => ?_) (Ev.bind hx hr)
      rw [anaphora_number.f, if_neg h1, if_pos h2, if_pos h3, if_pos (by omega), rd0 l0]
    by_cases h4 : x.toList = ([] : List UInt8)
    · exact ⟨_, hE _ (by simp only [if_pos h4]; exact Ev.now _)⟩
    have h5 : (1 : Int) < (c.length : Int) := by omega
    have e1 : rd_T27 c 1 = c[1] := rdJ (j := 1) l1
    refine ⟨if y.toList = ([] : List UInt8) then ⟨#[]⟩ else ⟨#[84, 104, 101, 121]⟩, hE _ ?_⟩
    simp only [if_neg h4, if_pos h5, e1]
    refine Ev.bind (f := fun _ (t143 : ByteArray) => (if t143.toList = ([] : List UInt8) then (some (⟨#[]⟩ : ByteArray)) else (some (⟨#[84, 104, 101, 121]⟩ : ByteArray)))) hy ?_
    by_cases h6 : y.toList = ([] : List UInt8)
    · simp only [if_pos h6]
      exact Ev.now _
    · simp only [if_neg h6]
      exact Ev.now _
theorem ev_ante (l : List S27) (M : Nat) (hl : l.length ≤ 1099511627776) (hM : M ≤ 1048576) (h4 : 4 ≤ M) (hm : ∀ t ∈ l, bulk27 t ≤ M) (i : Nat) (hi : i < l.length) : ∃ r, Ev (fun k => anaphora_Antecedent.f k l (i : Int)) r ∧ bulk27 ⟨r.1, r.2.1, r.2.2.1⟩ ≤ M := by
  have bad : ∀ e : Int, bulk27 ⟨((⟨#[]⟩ : ByteArray), ([] : List Int), ([] : List S27), e).1, ((⟨#[]⟩ : ByteArray), ([] : List Int), ([] : List S27), e).2.1, ((⟨#[]⟩ : ByteArray), ([] : List Int), ([] : List S27), e).2.2.1⟩ ≤ M := by
    intro e
    dsimp only
    rw [bulk27]
    simp only [bulkL27, List.map_nil, List.sum_nil]
    have : (⟨#[]⟩ : ByteArray).size = 0 := rfl
    omega
  have start : ∀ r, Ev (fun k => anaphora_Antecedent.j0 k l (i : Int) false) r → Ev (fun k => anaphora_Antecedent.f k l (i : Int)) r := by
    intro r hr
    refine Ev.congr (fun k => ?_) hr
    rw [anaphora_Antecedent.f, if_neg (by omega), decide_eq_false (by omega)]
  by_cases h0 : i = 0
  · subst h0
    exact ⟨_, start _ (Ev.step (f := fun _ => some ((⟨#[]⟩ : ByteArray), ([] : List Int), ([] : List S27), 10)) (fun k => by rw [anaphora_Antecedent.j0, if_neg (by decide), if_pos (by omega)]) (Ev.now _)), bad 10⟩
  obtain ⟨j, rfl⟩ : ∃ j, i = j + 1 := ⟨i - 1, by omega⟩
  have hj : j < l.length := by omega
  have hw : wrap64 (((j + 1 : Nat) : Int) - 1) = (j : Int) := by rw [w64 (by omega) (by omega)]; omega
  have hb : bulk27 l[j] ≤ M := hm _ (List.getElem_mem hj)
  obtain ⟨p, hp, hpl⟩ := ev_subject _ l[j] [] (Nat.lt_succ_self _) (by simp only [List.length_nil]; omega)
  have hpl' : p.1.length ≤ 1099511627776 := by simp only [List.length_nil] at hpl; omega
  obtain ⟨u, hu, hub⟩ := ev_at p.1 hpl' _ 0 l[j] rfl (Nat.zero_le _) (by omega)
  obtain ⟨nm, hnm⟩ := ev_number _ (⟨u.1, u.2.1, u.2.2.1⟩ : S27) (Nat.lt_succ_self _)
  have hcl := ev_nclone _ (⟨u.1, u.2.1, u.2.2.1⟩ : S27) (Nat.lt_succ_self _) (by omega)
  dsimp only at hnm hcl
  have hE : ∀ r, Ev (fun k => (anaphora_subject.f k l[j].f0 l[j].f1 l[j].f2).bind fun bt164 => (if bt164.2 = true then ((abstract_At.f k l[j].f0 l[j].f1 l[j].f2 bt164.1).bind fun bt169 => ((anaphora_number.f k bt169.1 bt169.2.1 bt169.2.2.1).bind fun t178 => (if t178.toList = ([] : List UInt8) then (some ((⟨#[]⟩ : ByteArray), ([] : List Int), ([] : List (S27)), (10 : Int))) else ((anaphora_clone.f k bt169.1 bt169.2.1 bt169.2.2.1).bind fun bt179 => (some (bt179.1, bt179.2.1, bt179.2.2, 0)))))) else (some ((⟨#[]⟩ : ByteArray), ([] : List Int), ([] : List (S27)), 10)))) r → Ev (fun k => anaphora_Antecedent.f k l ((j + 1 : Nat) : Int)) r := by
    intro r hr
    refine start _ (Ev.step (fun k => ?_) hr)
    rw [anaphora_Antecedent.j0, if_neg (by decide), if_neg (by omega), hw, if_pos (by omega), if_pos (by omega), rdJ hj]
  have hp' : Ev (fun k => anaphora_subject.f k l[j].f0 l[j].f1 l[j].f2) p := hp
  by_cases hok : p.2 = true
  case neg => exact ⟨_, hE _ (Ev.bind hp' (by simp only [if_neg hok]; exact Ev.now _)), bad 10⟩
  have hu' : Ev (fun k => abstract_At.f k l[j].f0 l[j].f1 l[j].f2 p.1) u := hu
  by_cases hn : nm.toList = ([] : List UInt8)
  · refine ⟨_, hE _ (Ev.bind hp' ?_), bad 10⟩
    simp only [if_pos hok]
    refine Ev.bind (f := fun k bt169 => ((anaphora_number.f k bt169.1 bt169.2.1 bt169.2.2.1).bind fun t178 => (if t178.toList = ([] : List UInt8) then (some ((⟨#[]⟩ : ByteArray), ([] : List Int), ([] : List (S27)), (10 : Int))) else ((anaphora_clone.f k bt169.1 bt169.2.1 bt169.2.2.1).bind fun bt179 => (some (bt179.1, bt179.2.1, bt179.2.2, 0)))))) hu' (Ev.bind hnm ?_)
    simp only [if_pos hn]
    exact Ev.now _
  · refine ⟨(u.1, u.2.1, u.2.2.1, 0), hE _ (Ev.bind hp' ?_), by dsimp only; omega⟩
    simp only [if_pos hok]
    refine Ev.bind (f := fun k bt169 => ((anaphora_number.f k bt169.1 bt169.2.1 bt169.2.2.1).bind fun t178 => (if t178.toList = ([] : List UInt8) then (some ((⟨#[]⟩ : ByteArray), ([] : List Int), ([] : List (S27)), (10 : Int))) else ((anaphora_clone.f k bt169.1 bt169.2.1 bt169.2.2.1).bind fun bt179 => (some (bt179.1, bt179.2.1, bt179.2.2, 0)))))) hu' (Ev.bind hnm ?_)
    simp only [if_neg hn]
    exact Ev.bind (f := fun _ (bt179 : ByteArray × List Int × List S27) => some (bt179.1, bt179.2.1, bt179.2.2, (0 : Int))) hcl (Ev.now _)
theorem ev_equal (x y : List Int) (hx : x.length ≤ 1099511627776) : ∃ b, Ev (fun k => slices_Equal_int_int.f k x y) b := by
  by_cases hl : (x.length : Int) = (y.length : Int)
  case neg => exact ⟨false, Ev.congr (f := fun _ => some false) (fun k => by rw [slices_Equal_int_int.f, if_neg hl]) (Ev.now _)⟩
  have loop : ∀ m j, x.length - j = m → j ≤ x.length → ∃ b, Ev (fun k => slices_Equal_int_int.l0 k x y (x.length : Int) (j : Int)) b := by
    intro m
    induction m with
    | zero =>
      intro j hj hjl
      exact ⟨true, Ev.step (f := fun _ => some true) (fun k => by rw [slices_Equal_int_int.l0, if_neg (by omega)]) (Ev.now _)⟩
    | succ m ih =>
      intro j hj hjl
      by_cases he : rd x (j : Int) = rd y (j : Int)
      case neg => exact ⟨false, Ev.step (f := fun _ => some false) (fun k => by rw [slices_Equal_int_int.l0, if_pos (by omega), if_pos (by omega), if_pos (by omega), if_pos (by omega), if_neg he]) (Ev.now _)⟩
      obtain ⟨b, hb⟩ := ih (j + 1) (by omega) (by omega)
      refine ⟨b, Ev.step (f := fun k => slices_Equal_int_int.l0 k x y (x.length : Int) (wrap64 ((j : Int) + 1))) (fun k => by rw [slices_Equal_int_int.l0, if_pos (by omega), if_pos (by omega), if_pos (by omega), if_pos (by omega), if_pos he]) ?_⟩
      rw [w64 (by omega) (by omega), show ((j : Int) + 1) = ((j + 1 : Nat) : Int) by omega]
      exact hb
  obtain ⟨b, hb⟩ := loop _ 0 rfl (Nat.zero_le _)
  exact ⟨b, Ev.congr (fun k => by rw [slices_Equal_int_int.f, if_pos hl]; rfl) hb⟩
theorem bulkL_set : ∀ (c : List S27) (i : Nat) (x : S27), bulkL27 (c.set i x) ≤ bulkL27 c + bulk27 x
  | [], i, x => by simp [bulkL27]
  | y :: c, 0, x => by rw [List.set_cons_zero, bulkL27, bulkL27]; omega
  | y :: c, i + 1, x => by
    have := bulkL_set c i x
    rw [List.set_cons_succ, bulkL27, bulkL27]
    omega
theorem bulkL_set' : ∀ (c : List S27) (i : Nat) (h : i < c.length) (x : S27), bulkL27 (c.set i x) + bulk27 c[i] = bulkL27 c + bulk27 x
  | y :: c, 0, h, x => by rw [List.set_cons_zero, bulkL27, bulkL27, List.getElem_cons_zero]; omega
  | y :: c, i + 1, h, x => by
    have := bulkL_set' c i (by simpa using h) x
    rw [List.set_cons_succ, bulkL27, bulkL27, List.getElem_cons_succ]
    omega
theorem replG_ends : ∀ (p : List Int) (t u : S27), bulk27 t ≤ 1099511627776 → ∃ r, replG p t u = some r ∧ bulk27 r.1 ≤ bulk27 t + bulk27 u
  | [], t, u, _ => ⟨(u, true), rfl, by dsimp only; omega⟩
  | i :: p, ⟨a, b, c⟩, u, hm => by
    have hz : bulk27 z27 ≤ bulk27 u := by
      have := bulk_pos u
      have h2 : bulk27 z27 = 4 := by decide +kernel
      omega
    have hcl := bulk_kids ⟨a, b, c⟩
    rw [replG]
    dsimp only at hcl ⊢
    by_cases h : i < 0 ∨ (c.length : Int) ≤ i
    · exact ⟨(z27, false), by rw [if_pos h], by dsimp only; omega⟩
    rw [if_neg h]
    obtain ⟨n, rfl⟩ : ∃ n : Nat, i = (n : Int) := ⟨i.toNat, by omega⟩
    have hn : n < c.length := by omega
    have hb := bulk_mem (t := ⟨a, b, c⟩) (List.getElem_mem hn)
    obtain ⟨r, hr, hrb⟩ := replG_ends p c[n] u (by omega)
    rw [rdJ hn, hr, Option.bind_some]
    by_cases h2 : r.2 = true
    · rw [if_pos h2, if_pos (by omega)]
      refine ⟨_, rfl, ?_⟩
      have := bulkL_set' c n hn r.1
      rw [Int.toNat_natCast, bulk27, bulk27]
      omega
    · rw [if_neg h2]
      exact ⟨(z27, false), rfl, by dsimp only; omega⟩
theorem ev_replace (t : S27) (p : List Int) (u : S27) (hm : bulk27 t + bulk27 u ≤ 1099511627776) : ∃ r, Ev (fun k => abstract_Replace.f k t.f0 t.f1 t.f2 p u.f0 u.f1 u.f2) r ∧ bulk27 ⟨r.1, r.2.1, r.2.2.1⟩ ≤ bulk27 t + bulk27 u := by
  obtain ⟨r, hr, hrb⟩ := replG_ends p t u (by omega)
  refine ⟨(r.1.f0, r.1.f1, r.1.f2, r.2), ?_, by rw [eta27]; exact hrb⟩
  refine Ev.congr (f := fun k => (abstract_clone.f k r.1.f0 r.1.f1 r.1.f2).bind fun bt => some (bt.1, bt.2.1, bt.2.2, r.2)) (fun k => ?_) (Ev.bind (f := fun _ (bt : ByteArray × List Int × List S27) => some (bt.1, bt.2.1, bt.2.2, r.2)) (ev_aclone _ r.1 (Nat.lt_succ_self _) (by omega)) (Ev.now _))
  rw [abstract_Replace.f, abstract_replace.f, eta27, eta27, hr]
  rfl
theorem ev_hit (tp : Bool) (p : List Int) (last : Option (List Int)) (hp : p.length ≤ 1099511627776) (hl : last = some [] → tp = true) : ∃ h, Ev (fun k => hitG k tp p last) h := by
  match last, hl with
  | none, _ => exact ⟨_, Ev.congr (fun k => by rw [hitG]) (Ev.now _)⟩
  | some [], hl => exact ⟨_, Ev.congr (f := fun _ => some (decide (0 < p.length))) (fun k => by rw [hitG, if_pos (hl rfl)]) (Ev.now _)⟩
  | some (a :: l), _ =>
    by_cases h : l.length + 1 < p.length
    · obtain ⟨b, hb⟩ := ev_equal (p.take (l.length + 1)) (a :: l) (by rw [List.length_take]; omega)
      exact ⟨_, Ev.congr (f := fun k => (slices_Equal_int_int.f k (p.take (l.length + 1)) (a :: l)).bind fun b => some (b || (decide (0 < p.length) && tp))) (fun k => by rw [hitG, if_pos h]) (Ev.bind (f := fun _ b => some (b || (decide (0 < p.length) && tp))) hb (Ev.now _))⟩
    · exact ⟨_, Ev.congr (f := fun _ => some (decide (0 < p.length) && tp)) (fun k => by rw [hitG, if_neg h]) (Ev.now _)⟩
/-- The paths of the nodes: none is empty but the root's. -/
def Paths (tp : Bool) (ys : List (List Int × S27)) : Prop := ∀ y ∈ ys, y.1.length ≤ 1099511627776 ∧ (y.1 = [] → tp = prB y.2)
theorem ev_fold (num : ByteArray) (tp : Bool) (np : S27) : ∀ (ys : List (List Int × S27)) (u : S27) (last : Option (List Int)), Paths tp ys → (last = some [] → tp = true) → bulk27 u + ys.length * bulk27 np ≤ 1099511627776 → ∃ r, Ev (fun k => resFold k num tp np ys u last) r ∧ ∀ x, r = some x → bulk27 x ≤ 1099511627776
  | [], u, last, _, _, hb => ⟨some u, Ev.congr (f := fun _ => some (some u)) (fun k => by rw [resFold]) (Ev.now _), fun x hx => by rw [← Option.some.inj hx]; omega⟩
  | y :: ys, u, last, hp, hl, hb => by
    have hps : Paths tp ys := fun z hz => hp z (List.mem_cons_of_mem _ hz)
    rw [List.length_cons, Nat.add_mul, Nat.one_mul] at hb
    have step : ∀ (s : Option (S27 × Option (List Int))), Ev (fun k => resStep k num tp np u last y) s → (∀ v lv, s = some (v, lv) → bulk27 v ≤ bulk27 u + bulk27 np ∧ (lv = some [] → tp = true)) → ∃ r, Ev (fun k => resFold k num tp np (y :: ys) u last) r ∧ ∀ x, r = some x → bulk27 x ≤ 1099511627776 := by
      intro s hs hsb
      match s, hs, hsb with
      | none, hs, _ =>
        refine ⟨none, ?_, fun x hx => by cases hx⟩
        exact Ev.congr (fun k => by rw [resFold] <;> rfl) (Ev.bind (f := fun k r => match r with | none => some none | some s => resFold k num tp np ys s.1 s.2) hs (Ev.now _))
      | some (v, lv), hs, hsb =>
        obtain ⟨h1, h2⟩ := hsb v lv rfl
        obtain ⟨r, hr, hrb⟩ := ev_fold num tp np ys v lv hps h2 (by omega)
        exact ⟨r, Ev.congr (fun k => by rw [resFold] <;> rfl) (Ev.bind (f := fun k r => match r with | none => some none | some s => resFold k num tp np ys s.1 s.2) hs hr), hrb⟩
    obtain ⟨hyl, hyr⟩ := hp y List.mem_cons_self
    by_cases h1 : prB y.2 = false
    · exact step (some (u, last)) (Ev.congr (f := fun _ => some (some (u, last))) (fun k => by rw [resStep, if_pos h1]) (Ev.now _)) (fun v lv he => by cases he; exact ⟨by omega, hl⟩)
    by_cases h2 : (y.2.f0.toList == num.toList) = false
    · exact step none (Ev.congr (f := fun _ => some none) (fun k => by rw [resStep, if_neg h1, if_pos h2]) (Ev.now _)) (fun v lv he => by cases he)
    obtain ⟨h, hh⟩ := ev_hit tp y.1 last hyl hl
    by_cases h3 : h = true
    · refine step (some (u, last)) (Ev.congr (f := fun k => (hitG k tp y.1 last).bind fun h => if h = true then some (some (u, last)) else (abstract_Replace.f k u.f0 u.f1 u.f2 y.1 np.f0 np.f1 np.f2).bind fun r => some (some (⟨r.1, r.2.1, r.2.2.1⟩, some y.1))) (fun k => by rw [resStep, if_neg h1, if_neg h2]) (Ev.bind hh ?_)) (fun v lv he => by cases he; exact ⟨by omega, hl⟩)
      simp only [if_pos h3]
      exact Ev.now _
    · obtain ⟨r, hr, hrb⟩ := ev_replace u y.1 np (by omega)
      refine step (some (⟨r.1, r.2.1, r.2.2.1⟩, some y.1)) (Ev.congr (f := fun k => (hitG k tp y.1 last).bind fun h => if h = true then some (some (u, last)) else (abstract_Replace.f k u.f0 u.f1 u.f2 y.1 np.f0 np.f1 np.f2).bind fun r => some (some (⟨r.1, r.2.1, r.2.2.1⟩, some y.1))) (fun k => by rw [resStep, if_neg h1, if_neg h2]) (Ev.bind hh ?_)) (fun v lv he => ?_)
      · simp only [if_neg h3]
        exact Ev.bind (f := fun _ (r : ByteArray × List Int × List S27 × Bool) => some (some ((⟨r.1, r.2.1, r.2.2.1⟩ : S27), some y.1))) hr (Ev.now _)
      · cases he
        refine ⟨hrb, fun he => ?_⟩
        have := hyr (Option.some.inj he)
        rw [this]
        simpa using h1
mutual
/-- The nodes of a tree, with where they are. -/
theorem ev_nodesP : ∀ (t : S27) (p : List Int), bulk27 t ≤ 1048576 → p.length + bulk27 t ≤ 3000000 → ∃ xs, Ev (fun k => nodesO k p t) ((p, t) :: xs) ∧ xs.length + 1 = tsz t ∧ ∀ y ∈ xs, p.length < y.1.length ∧ y.1.length ≤ 3000000
  | ⟨a, b, c⟩, p, hm, hp => by
    have hk : bulkL27 c < bulk27 ⟨a, b, c⟩ := by rw [bulk27]; omega
    obtain ⟨xs, hx, hl, hc⟩ := ev_nodesPL c p 0 (by omega) (by omega)
    refine ⟨xs, ?_, by rw [hl, tsz]; omega, hc⟩
    refine Ev.congr (f := fun k => (slices_Clone_int_int.f p).bind fun q => (abstract_clone.f k a b c).bind fun r => (nodesLO k p 0 c).bind fun l => some ((q, ⟨r.1, r.2.1, r.2.2⟩) :: l)) (fun k => by rw [nodesO]) ?_
    rw [ev_cloneI (by omega)]
    exact Ev.bind (f := fun k r => (nodesLO k p 0 c).bind fun l => some ((p, (⟨r.1, r.2.1, r.2.2⟩ : S27)) :: l)) (ev_aclone _ ⟨a, b, c⟩ (Nat.lt_succ_self _) (by omega)) (Ev.bind (f := fun _ l => some ((p, (⟨a, b, c⟩ : S27)) :: l)) hx (Ev.now _))
theorem ev_nodesPL : ∀ (l : List S27) (p : List Int) (i : Nat), bulkL27 l ≤ 1048576 → p.length + bulkL27 l + 1 ≤ 3000000 → ∃ xs, Ev (fun k => nodesLO k p i l) xs ∧ xs.length = tszL l ∧ ∀ y ∈ xs, p.length < y.1.length ∧ y.1.length ≤ 3000000
  | [], p, i, _, _ => ⟨[], Ev.congr (f := fun _ => some []) (fun k => by rw [nodesLO]) (Ev.now _), rfl, fun y hy => by cases hy⟩
  | x :: l, p, i, hm, hp => by
    rw [bulkL27] at hm hp
    have hx4 := bulk_pos x
    have hpl : (p ++ [(i : Int)]).length = p.length + 1 := by rw [List.length_append]; rfl
    obtain ⟨xs, hx, hl, hc⟩ := ev_nodesP x (p ++ [(i : Int)]) (by omega) (by omega)
    obtain ⟨ys, hy, hl', hc'⟩ := ev_nodesPL l p (i + 1) (by omega) (by omega)
    refine ⟨((p ++ [(i : Int)], x) :: xs) ++ ys, ?_, ?_, ?_⟩
    · refine Ev.congr (f := fun k => (nodesO k (p ++ [(i : Int)]) x).bind fun l' => (nodesLO k p (i + 1) l).bind fun m => some (l' ++ m)) (fun k => by rw [nodesLO]) ?_
      exact Ev.bind (f := fun k l' => (nodesLO k p (i + 1) l).bind fun m => some (l' ++ m)) hx (Ev.bind (f := fun _ m => some (((p ++ [(i : Int)], x) :: xs) ++ m)) hy (Ev.now _))
    · rw [List.length_append, List.length_cons, hl, hl', tszL]
    · intro y hy
      rcases List.mem_append.1 hy with hy | hy
      · rcases List.mem_cons.1 hy with rfl | hy
        · dsimp only
          omega
        · have := hc y hy
          omega
      · exact hc' y hy
end
theorem ev_asize : ∀ (n : Nat) (t : S27), bulk27 t < n → bulk27 t ≤ 1099511627776 → Ev (fun k => abstract_Size.f k t.f0 t.f1 t.f2) (tsz t : Int)
  | 0, t, h, _ => absurd h (Nat.not_lt_zero _)
  | n + 1, ⟨a, b, c⟩, h, hm => by
    have hsz := tsz_bulk ⟨a, b, c⟩
    rw [tsz] at hsz
    have hcl := bulk_kids ⟨a, b, c⟩
    dsimp only at hcl
    have loop : ∀ m j (s : Nat), c.length - j = m → j ≤ c.length → s + tszL (c.drop j) ≤ 1099511627776 → Ev (fun k => abstract_Size.l0 k (s : Int) c (c.length : Int) (j : Int)) ((s + tszL (c.drop j) : Nat) : Int) := by
      intro m
      induction m with
      | zero =>
        intro j s hj hjl hs
        have he : j = c.length := by omega
        subst he
        refine Ev.step (f := fun _ => some (s : Int)) (fun k => ?_) ?_
        · rw [abstract_Size.l0, if_neg (by omega)]
        · rw [List.drop_length, tszL, Nat.add_zero]
          exact Ev.now _
      | succ m ih =>
        intro j s hj hjl hs
        have hj' : j < c.length := by omega
        rw [tszL_drop hj'] at hs ⊢
        have hb := bulk_mem (t := ⟨a, b, c⟩) (List.getElem_mem hj')
        have hx := ev_asize n c[j] (by omega) (by omega)
        refine Ev.step (f := fun k => (abstract_Size.f k c[j].f0 c[j].f1 c[j].f2).bind fun t => abstract_Size.l0 k (wrap64 (s + t)) c (c.length : Int) (wrap64 (j + 1))) (fun k => ?_) ?_
        · rw [abstract_Size.l0, if_pos (by omega), if_pos (by omega), if_pos (by omega), rdJ hj']
        · refine Ev.bind hx ?_
          have := ih (j + 1) (s + tsz c[j]) (by omega) (by omega) (by omega)
          rw [w64 (by omega) (by omega), w64 (by omega) (by omega)]
          rw [show ((s : Int) + (tsz c[j] : Nat)) = ((s + tsz c[j] : Nat) : Int) by omega, show ((j : Int) + 1) = ((j + 1 : Nat) : Int) by omega, ← Nat.add_assoc]
          exact this
    refine Ev.step (f := fun k => abstract_Size.l0 k ((1 : Nat) : Int) c (c.length : Int) ((0 : Nat) : Int)) (fun k => by rw [abstract_Size.f]; rfl) ?_
    have := loop _ 0 1 rfl (Nat.zero_le _) (by rw [List.drop_zero]; omega)
    rw [List.drop_zero] at this
    rw [tsz]
    exact this
/-- One tree: 0 and what it is resolved to, or an error. -/
theorem ev_one (l : List S27) (hl : l.length ≤ 1099511627776) (hm : ∀ t ∈ l, bulk27 t ≤ 1048576) (i : Nat) (hi : i < l.length) (t : S27) (ht : bulk27 t ≤ 1048576) (h60 : tsz t ≤ 60) : ∃ r, Ev (fun k => resOne k l (i : Int) t) r := by
  have hcl := ev_nclone _ t (Nat.lt_succ_self _) (by omega)
  have hpn := ev_pronouns t ht
  have hz : Ev (fun k => abstract_Size.f k z27.f0 z27.f1 z27.f2) (tsz z27 : Int) := ev_asize _ z27 (Nat.lt_succ_self _) (by have h2 : bulk27 z27 = 4 := (by decide +kernel); omega)
  -- what follows when the tree is told
  have fin : ∀ (r : Int × S27), (r.1 = 0 → bulk27 r.2 ≤ 1099511627776) → ∃ v, Ev (fun k => if r.1 = 0 then (abstract_Size.f k r.2.f0 r.2.f1 r.2.f2).bind fun s => if 60 < s then some ((2 : Int), z27) else some ((0 : Int), r.2) else some (r.1, z27)) v := by
    intro r hr
    by_cases h0 : r.1 = 0
    case neg => exact ⟨_, by simp only [if_neg h0]; exact Ev.now _⟩
    have hs := ev_asize _ r.2 (Nat.lt_succ_self _) (hr h0)
    by_cases h6 : (60 : Int) < (tsz r.2 : Int)
    · refine ⟨(2, z27), ?_⟩
      simp only [if_pos h0]
      refine Ev.bind (f := fun _ s => if 60 < s then some ((2 : Int), z27) else some ((0 : Int), r.2)) hs ?_
      simp only [if_pos h6]
      exact Ev.now _
    · refine ⟨(0, r.2), ?_⟩
      simp only [if_pos h0]
      refine Ev.bind (f := fun _ s => if 60 < s then some ((2 : Int), z27) else some ((0 : Int), r.2)) hs ?_
      simp only [if_neg h6]
      exact Ev.now _
  have mid : ∃ r : Int × S27, (r.1 = 0 → bulk27 r.2 ≤ 1099511627776) ∧ Ev (fun k => if (0 : Int) < (cnt isPro t : Int) then (anaphora_Antecedent.f k l (i : Int)).bind fun np => if np.2.2.2 = 0 then (anaphora_number.f k np.1 np.2.1 np.2.2.1).bind fun num => (nodesO k [] t).bind fun xs =>
        (resFold k num (prB t) ⟨np.1, np.2.1, np.2.2.1⟩ xs t none).bind fun r => match r with
          | none => some ((10 : Int), z27)
          | some x => some ((0 : Int), x)
      else some ((10 : Int), z27) else some ((0 : Int), t)) r := by
    by_cases hp : (0 : Int) < (cnt isPro t : Int)
    case neg => exact ⟨(0, t), fun _ => by dsimp only; omega, by simp only [if_neg hp]; exact Ev.now _⟩
    obtain ⟨np, hnp, hnb⟩ := ev_ante l 1048576 hl (Nat.le_refl _) (by omega) hm i hi
    by_cases he : np.2.2.2 = 0
    case neg =>
      refine ⟨(10, z27), fun h => by simp at h, ?_⟩
      simp only [if_pos hp]
      refine Ev.bind (f := fun k (np : ByteArray × List Int × List S27 × Int) => if np.2.2.2 = 0 then (anaphora_number.f k np.1 np.2.1 np.2.2.1).bind fun num => (nodesO k [] t).bind fun xs => (resFold k num (prB t) ⟨np.1, np.2.1, np.2.2.1⟩ xs t none).bind fun r => match r with
          | none => some ((10 : Int), z27)
          | some x => some ((0 : Int), x)
        else some ((10 : Int), z27)) hnp ?_
      simp only [if_neg he]
      exact Ev.now _
    obtain ⟨num, hnum⟩ := ev_number _ (⟨np.1, np.2.1, np.2.2.1⟩ : S27) (Nat.lt_succ_self _)
    obtain ⟨xs, hxs, hxl, hxp⟩ := ev_nodesP t [] ht (by simp only [List.length_nil]; omega)
    have hP : Paths (prB t) (([], t) :: xs) := by
      intro y hy
      rcases List.mem_cons.1 hy with rfl | hy
      · exact ⟨by simp only [List.length_nil]; omega, fun _ => rfl⟩
      · have := hxp y hy
        refine ⟨by omega, fun h => ?_⟩
        rw [h] at this
        simp only [List.length_nil] at this
        omega
    have hbk : bulk27 t + (([], t) :: xs : List (List Int × S27)).length * bulk27 ⟨np.1, np.2.1, np.2.2.1⟩ ≤ 1099511627776 := by
      have h1 : (([], t) :: xs : List (List Int × S27)).length ≤ 60 := by rw [List.length_cons]; omega
      have h2 := Nat.mul_le_mul h1 hnb
      omega
    obtain ⟨r, hr, hrb⟩ := ev_fold num (prB t) ⟨np.1, np.2.1, np.2.2.1⟩ _ t none hP (fun h => by cases h) hbk
    have go : ∀ v, (match r with | none => some ((10 : Int), z27) | some x => some ((0 : Int), x)) = some v → Ev (fun k => if (0 : Int) < (cnt isPro t : Int) then (anaphora_Antecedent.f k l (i : Int)).bind fun np => if np.2.2.2 = 0 then (anaphora_number.f k np.1 np.2.1 np.2.2.1).bind fun num => (nodesO k [] t).bind fun xs =>
        (resFold k num (prB t) ⟨np.1, np.2.1, np.2.2.1⟩ xs t none).bind fun r => match r with
          | none => some ((10 : Int), z27)
          | some x => some ((0 : Int), x)
      else some ((10 : Int), z27) else some ((0 : Int), t)) v := by
      intro v hv
      simp only [if_pos hp]
      refine Ev.bind (f := fun k (np : ByteArray × List Int × List S27 × Int) => if np.2.2.2 = 0 then (anaphora_number.f k np.1 np.2.1 np.2.2.1).bind fun num => (nodesO k [] t).bind fun xs => (resFold k num (prB t) ⟨np.1, np.2.1, np.2.2.1⟩ xs t none).bind fun r => match r with
          | none => some ((10 : Int), z27)
          | some x => some ((0 : Int), x)
        else some ((10 : Int), z27)) hnp ?_
      simp only [if_pos he]
      refine Ev.bind (f := fun k num => (nodesO k [] t).bind fun xs => (resFold k num (prB t) ⟨np.1, np.2.1, np.2.2.1⟩ xs t none).bind fun r => match r with
          | none => some ((10 : Int), z27)
          | some x => some ((0 : Int), x)) hnum ?_
      refine Ev.bind (f := fun k xs => (resFold k num (prB t) ⟨np.1, np.2.1, np.2.2.1⟩ xs t none).bind fun r => match r with
          | none => some ((10 : Int), z27)
          | some x => some ((0 : Int), x)) hxs ?_
      refine Ev.bind (f := fun _ r => match r with
          | none => some ((10 : Int), z27)
          | some x => some ((0 : Int), x)) hr ?_
      exact ⟨0, fun _ _ => hv⟩
    match r, hrb, go with
    | none, _, go => exact ⟨(10, z27), fun h => by simp at h, go _ rfl⟩
    | some x, hrb, go => exact ⟨(0, x), fun _ => hrb x rfl, go _ rfl⟩
  obtain ⟨r, hr0, hr⟩ := mid
  obtain ⟨v, hv⟩ := fin r hr0
  refine ⟨v, ?_⟩
  refine Ev.congr (f := fun k => (anaphora_clone.f k t.f0 t.f1 t.f2).bind fun u => (anaphora_Pronouns.f k t.f0 t.f1 t.f2).bind fun n =>
    (if 0 < n then (anaphora_Antecedent.f k l (i : Int)).bind fun np => if np.2.2.2 = 0 then (anaphora_number.f k np.1 np.2.1 np.2.2.1).bind fun num => (nodesO k [] t).bind fun xs =>
        (resFold k num (prB t) ⟨np.1, np.2.1, np.2.2.1⟩ xs ⟨u.1, u.2.1, u.2.2⟩ none).bind fun r => match r with
          | none => some ((10 : Int), z27)
          | some x => some ((0 : Int), x)
      else some ((10 : Int), z27) else some ((0 : Int), ⟨u.1, u.2.1, u.2.2⟩)).bind fun r => if r.1 = 0 then (abstract_Size.f k r.2.f0 r.2.f1 r.2.f2).bind fun s => if 60 < s then some (2, z27) else some (0, r.2) else some (r.1, z27)) (fun k => rfl) ?_
  refine Ev.bind hcl (Ev.bind hpn ?_)
  simp only [eta27]
  exact Ev.bind hr hv
theorem ev_resL (l : List S27) (hl : l.length ≤ 1000000) (hm : ∀ t ∈ l, bulk27 t ≤ 1048576) (h60 : ∀ t ∈ l, tsz t ≤ 60) : ∀ (m j : Nat) (acc : List S27), l.length - j = m → j ≤ l.length → acc.length = j → ∃ v : List S27 × Int, Ev (fun k => resL k l (l.drop j) j acc) v ∧ (v.2 = 0 → v.1.length = l.length)
  | 0, j, acc, hj, hjl, ha => by
    refine ⟨(acc, 0), Ev.congr (f := fun _ => some (acc, 0)) (fun k => ?_) (Ev.now _), fun _ => by dsimp only; omega⟩
    rw [List.drop_of_length_le (by omega), resL]
  | m + 1, j, acc, hj, hjl, ha => by
    have hj' : j < l.length := by omega
    obtain ⟨r, hr⟩ := ev_one l (by omega) hm j hj' l[j] (hm _ (List.getElem_mem hj')) (h60 _ (List.getElem_mem hj'))
    by_cases h0 : r.1 = 0
    · obtain ⟨v, hv, hv0⟩ := ev_resL l hl hm h60 m (j + 1) (acc ++ [r.2]) (by omega) (by omega) (by rw [List.length_append, ha]; rfl)
      refine ⟨v, ?_, hv0⟩
      refine Ev.congr (f := fun k => (resOne k l (j : Int) l[j]).bind fun r => if r.1 = 0 then resL k l (l.drop (j + 1)) (j + 1) (acc ++ [r.2]) else some ([], r.1)) (fun k => by rw [List.drop_eq_getElem_cons hj', resL]) (Ev.bind hr ?_)
      simp only [if_pos h0]
      exact hv
    · refine ⟨([], r.1), ?_, fun h => absurd h h0⟩
      refine Ev.congr (f := fun k => (resOne k l (j : Int) l[j]).bind fun r => if r.1 = 0 then resL k l (l.drop (j + 1)) (j + 1) (acc ++ [r.2]) else some ([], r.1)) (fun k => by rw [List.drop_eq_getElem_cons hj', resL]) (Ev.bind hr ?_)
      simp only [if_neg h0]
      exact Ev.now _
theorem ev_resolve (l : List S27) (hl : l.length ≤ 1000000) (hm : ∀ t ∈ l, bulk27 t ≤ 1048576) (h60 : ∀ t ∈ l, tsz t ≤ 60) : ∃ v : List S27 × Int, Ev (fun k => anaphora_Resolve.f k l) v ∧ (v.2 = 0 → v.1.length = l.length) := by
  obtain ⟨v, hv, h0⟩ := ev_resL l hl hm h60 _ 0 [] rfl (Nat.zero_le _) rfl
  rw [List.drop_zero] at hv
  exact ⟨v, Ev.congr (fun k => by rw [anaphora_Resolve.f, if_pos hl]) hv, h0⟩
/-! ### the first n sentences -/
theorem ante_take (k : Nat) (l : List S27) (n i : Nat) (hn : n ≤ l.length) (hi : i < n) (hl : l.length ≤ 1000000) : anaphora_Antecedent.f k (l.take n) (i : Int) = anaphora_Antecedent.f k l (i : Int) := by
  have hlen : (l.take n).length = n := by rw [List.length_take]; omega
  rw [anaphora_Antecedent.f, anaphora_Antecedent.f, if_neg (by omega), if_neg (by omega), decide_eq_false (by omega), decide_eq_false (by omega)]
  cases k with
  | zero => rw [anaphora_Antecedent.j0, anaphora_Antecedent.j0]
  | succ k =>
    by_cases h0 : i = 0
    · subst h0
      rw [anaphora_Antecedent.j0, anaphora_Antecedent.j0, if_neg (by decide), if_pos (by omega), if_neg (by decide), if_pos (by omega)]
    · obtain ⟨j, rfl⟩ : ∃ j, i = j + 1 := ⟨i - 1, by omega⟩
      have hw : wrap64 (((j + 1 : Nat) : Int) - 1) = (j : Int) := by rw [w64 (by omega) (by omega)]; omega
      have h1 : j < (l.take n).length := by omega
      have h2 : j < l.length := by omega
      have h3 : (l.take n)[j] = l[j] := List.getElem_take
      rw [anaphora_Antecedent.j0, anaphora_Antecedent.j0, hw, if_neg (by decide), if_neg (by omega), if_pos (by omega), if_pos (by omega), rdJ h1, if_neg (by decide), if_neg (by omega), if_pos (by omega), if_pos (by omega), rdJ h2, h3]
theorem one_take (k : Nat) (l : List S27) (n i : Nat) (hn : n ≤ l.length) (hi : i < n) (hl : l.length ≤ 1000000) (t : S27) : resOne k (l.take n) (i : Int) t = resOne k l (i : Int) t := by
  unfold resOne
  rw [ante_take k l n i hn hi hl]
theorem resL_take (k : Nat) (l : List S27) (n : Nat) (hn : n ≤ l.length) (hl : l.length ≤ 1000000) : ∀ (m j : Nat) (acc r : List S27), n - j = m → j ≤ n → acc.length = j → resL k l (l.drop j) j acc = some (r, 0) → resL k (l.take n) ((l.take n).drop j) j acc = some (r.take n, 0) ∧ acc <+: r
  | 0, j, acc, r, hj, hjl, ha, h => by
    have hjn : j = n := by omega
    subst hjn
    have pre : ∀ (m j : Nat) (acc r : List S27), l.length - j = m → j ≤ l.length → acc.length = j → resL k l (l.drop j) j acc = some (r, 0) → acc <+: r := by
      intro m
      induction m with
      | zero =>
        intro j acc r hj hjl ha h
        rw [List.drop_of_length_le (by omega), resL] at h
        simp only [Option.some.injEq, Prod.mk.injEq] at h
        exact h.1 ▸ List.prefix_refl _
      | succ m ih =>
        intro j acc r hj hjl ha h
        have hj' : j < l.length := by omega
        rw [List.drop_eq_getElem_cons hj', resL] at h
        obtain ⟨x, hx, h⟩ := Option.bind_eq_some_iff.1 h
        by_cases h0 : x.1 = 0
        · rw [if_pos h0] at h
          exact List.IsPrefix.trans (List.prefix_append _ _) (ih (j + 1) _ r (by omega) (by omega) (by rw [List.length_append, ha]; rfl) h)
        · rw [if_neg h0] at h
          simp only [Option.some.injEq, Prod.mk.injEq] at h
          exact absurd h.2 h0
    have hp := pre _ j acc r rfl hn ha h
    refine ⟨?_, hp⟩
    rw [List.drop_of_length_le (by rw [List.length_take]; omega), resL]
    obtain ⟨s, rfl⟩ := hp
    rw [← ha, List.take_left]
  | m + 1, j, acc, r, hj, hjl, ha, h => by
    have hj' : j < l.length := by omega
    have hjt : j < (l.take n).length := by rw [List.length_take]; omega
    rw [List.drop_eq_getElem_cons hj', resL] at h
    obtain ⟨x, hx, h⟩ := Option.bind_eq_some_iff.1 h
    by_cases h0 : x.1 = 0
    · rw [if_pos h0] at h
      obtain ⟨h1, h2⟩ := resL_take k l n hn hl m (j + 1) (acc ++ [x.2]) r (by omega) (by omega) (by rw [List.length_append, ha]; rfl) h
      refine ⟨?_, List.IsPrefix.trans (List.prefix_append _ _) h2⟩
      rw [List.drop_eq_getElem_cons hjt, resL, one_take k l n j hn (by omega) hl, List.getElem_take, hx, Option.bind_some, if_pos h0]
      exact h1
    · rw [if_neg h0] at h
      simp only [Option.some.injEq, Prod.mk.injEq] at h
      exact absurd h.2 h0
theorem resolve_take (k : Nat) (l r : List S27) (n : Nat) (hn : n ≤ l.length) (hl : l.length ≤ 1000000) (h : anaphora_Resolve.f k l = some (r, 0)) : anaphora_Resolve.f k (l.take n) = some (r.take n, 0) := by
  rw [anaphora_Resolve.f, if_pos hl] at h
  rw [anaphora_Resolve.f, if_pos (by rw [List.length_take]; omega)]
  have := (resL_take k l n hn hl _ 0 [] r rfl (Nat.zero_le _) rfl (by rw [List.drop_zero]; exact h)).1
  rwa [List.drop_zero] at this
/-! ### the same trees -/
mutual
theorem sameB_refl : ∀ t : S27, sameB t t = true
  | ⟨a, b, c⟩ => by
    rw [sameB]
    simp only [beq_self_eq_true, sameBL_refl c, Bool.and_self]
theorem sameBL_refl : ∀ l : List S27, sameBL l l = true
  | [] => by rw [sameBL]
  | x :: l => by rw [sameBL, sameB_refl x, sameBL_refl l]; rfl
end
/-! ### what the statements ask first -/
theorem ev_sentences (l : List S27) (hl : l.length ≤ 1000000) (hm : ∀ t ∈ l, bulk27 t ≤ 1048576) : ∃ s, Ev (fun k => pentaglotref46_Sentences.f k l) s ∧ (s = true → ∀ t ∈ l, tsz t ≤ 60) := by
  have loop : ∀ m j, l.length - j = m → j ≤ l.length → ∃ s, Ev (fun k => pentaglotref46_Sentences.l0 k l (j : Int)) s ∧ (s = true → ∀ t ∈ l.drop j, tsz t ≤ 60) := by
    intro m
    induction m with
    | zero =>
      intro j hj hjl
      refine ⟨true, Ev.step (f := fun _ => some true) (fun k => by rw [pentaglotref46_Sentences.l0, if_neg (by omega)]) (Ev.now _), fun _ t ht => ?_⟩
      rw [List.drop_of_length_le (by omega)] at ht
      cases ht
    | succ m ih =>
      intro j hj hjl
      have hj' : j < l.length := by omega
      obtain ⟨s, hs, hs60⟩ := ev_sentence l[j] (by have := hm _ (List.getElem_mem hj'); omega)
      have hE : ∀ r, Ev (fun k => if s = true then pentaglotref46_Sentences.l0 k l (wrap64 ((j : Int) + 1)) else some false) r → Ev (fun k => pentaglotref46_Sentences.l0 k l (j : Int)) r := by
        intro r hr
        refine Ev.step (f := fun k => (pentaglotref39_Sentence.f k l[j].f0 l[j].f1 l[j].f2).bind fun t270 => if t270 = true then pentaglotref46_Sentences.l0 k l (wrap64 ((j : Int) + 1)) else some false) (fun k => ?_) (Ev.bind hs hr)
        rw [pentaglotref46_Sentences.l0, if_pos (by omega), if_pos (by omega), rdJ hj']
      cases s with
      | false => exact ⟨false, hE _ (by simp only [Bool.false_eq_true, if_false]; exact Ev.now _), fun h => by cases h⟩
      | true =>
        obtain ⟨q, hq, hq60⟩ := ih (j + 1) (by omega) (by omega)
        refine ⟨q, hE _ ?_, fun h t ht => ?_⟩
        · simp only [if_pos]
          rw [w64 (by omega) (by omega), show ((j : Int) + 1) = ((j + 1 : Nat) : Int) by omega]
          exact hq
        · rw [List.drop_eq_getElem_cons hj'] at ht
          rcases List.mem_cons.1 ht with rfl | ht
          · exact hs60 rfl
          · exact hq60 h t ht
  obtain ⟨s, hs, h60⟩ := loop _ 0 rfl (Nat.zero_le _)
  exact ⟨s, hs, fun h t ht => h60 h t (by rw [List.drop_zero]; exact ht)⟩
theorem ev_notice (l : List S27) (hm : (l.map bulk27).sum + 1 ≤ 1048576) : ∃ s, Ev (fun k => pentaglotlaw46_notice.f k l) s ∧ (s = true → l.length ≤ 8 ∧ ∀ t ∈ l, bulk27 t ≤ 1048576 ∧ tsz t ≤ 60) := by
  have hb : ∀ t ∈ l, bulk27 t ≤ 1048576 := fun t ht => by
    have h1 := bulk_memL ht
    rw [bulkL27_eq] at h1
    omega
  by_cases h8 : (l.length : Int) ≤ 8
  · obtain ⟨s, hs, h60⟩ := ev_sentences l (by omega) hb
    refine ⟨s, Ev.congr (f := fun k => (pentaglotref46_Sentences.f k l).bind fun t => some t) (fun k => by rw [pentaglotlaw46_notice.f, if_pos h8]) (Ev.bind (f := fun _ t => some t) hs (Ev.now _)), fun h => ⟨by omega, fun t ht => ⟨hb t ht, h60 h t ht⟩⟩⟩
  · exact ⟨false, Ev.congr (f := fun _ => some false) (fun k => by rw [pentaglotlaw46_notice.f, if_neg h8]) (Ev.now _), fun h => by cases h⟩
end Go.Proofs.Ytfampmajmbediaa.An
