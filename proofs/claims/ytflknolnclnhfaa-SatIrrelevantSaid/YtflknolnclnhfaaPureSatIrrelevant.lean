/- Plain law: for all circuits with at most 60 gates and 10 inputs, an input that does not occur is false unless it is fixed to 1, and does not change the others. Condition: none beyond the law's own. -/
import Derived.Test.YtflknolnclnhfaaPx0
import Derived.Test.YtflknolnclnhfaaPx3
import Derived.Test.YtflknolnclnhfaaPx17
import Derived.Test.YtflknolnclnhfaaSvE
namespace Go.Proofs.Ytflknolnclnhfaa.Pure
set_option linter.unusedVariables false
set_option linter.unusedSimpArgs false
open Go.RowKit Go.Proofs.Ytflknolnclnhfaa.P Go.Proofs.Ytflknolnclnhfaa.Sv Go.Proofs.YtflknolnclnhfaaW.PrintWords Go.Proofs.YtflknolnclnhfaaW.PrintLast
theorem okG_more {n0 : Int} {i : Nat} {g : S52} (h : okG n0 i g = true) : okG (n0 + 1) i g = true := by
  unfold okG at h ⊢
  rw [Bool.and_eq_true] at h ⊢
  refine ⟨h.1, ?_⟩
  have h := h.2
  unfold opG at h ⊢
  by_cases h1 : g.f0 = 1 ∨ g.f0 = 2
  · rw [if_pos h1] at h ⊢; exact h
  rw [if_neg h1] at h ⊢
  by_cases h3 : g.f0 = 3
  · rw [if_pos h3] at h ⊢
    simp only [Bool.and_eq_true, decide_eq_true_eq] at h ⊢
    exact ⟨⟨h.1.1, by omega⟩, h.2⟩
  rw [if_neg h3] at h ⊢
  exact h
theorem okL_more {n0 : Int} : ∀ (gs : List S52) (i : Nat), okL n0 i gs = true → okL (n0 + 1) i gs = true
  | [], _, _ => rfl
  | g :: gs, i, h => by
    rw [okL, Bool.and_eq_true] at h ⊢
    exact ⟨okG_more h.1, okL_more gs (i + 1) h.2⟩
theorem okC_more {n0 : Int} {gs : List S52} {n2 : Int} (h : okC n0 gs n2 = true) (hn : n0 ≤ 1000) : okC (n0 + 1) gs n2 = true := by
  obtain ⟨a, b, c, d, e, f, g⟩ := okC_iff.1 h
  exact okC_iff.2 ⟨by omega, by omega, c, d, e, f, okL_more gs 0 g⟩
theorem vstep_more {n0 : Int} {bits vs : List Int} {v : Int} (hl : (bits.length : Int) = n0) {i : Nat} {g : S52} (h : okG n0 i g = true) : vstep (bits ++ [v]) vs g = vstep bits vs g := by
  unfold okG at h
  rw [Bool.and_eq_true] at h
  have h := h.2
  unfold vstep
  by_cases h1 : g.f0 = 1
  · rw [if_pos h1, if_pos h1]
  by_cases h2 : g.f0 = 2
  · rw [if_neg h1, if_neg h1, if_pos h2, if_pos h2]
  by_cases h3 : g.f0 = 3
  · rw [if_neg h1, if_neg h1, if_neg h2, if_neg h2, if_pos h3, if_pos h3]
    unfold opG at h
    rw [if_neg (by omega), if_pos h3] at h
    simp only [Bool.and_eq_true, decide_eq_true_eq] at h
    exact rd_left h.1.1 (by omega)
  rw [if_neg h1, if_neg h1, if_neg h2, if_neg h2, if_neg h3, if_neg h3]
theorem vals_more {n0 : Int} {bits : List Int} {v : Int} (hl : (bits.length : Int) = n0) : ∀ (gs : List S52) (i : Nat) (vs : List Int), okL n0 i gs = true → valsG (bits ++ [v]) gs vs = valsG bits gs vs
  | [], _, _, _ => rfl
  | g :: gs, i, vs, h => by
    rw [okL, Bool.and_eq_true] at h
    rw [valsG, valsG, vstep_more hl h.1, vals_more hl gs (i + 1) _ h.2]
theorem srch_more {n0 : Int} {gs : List S52} {n2 : Int} (hc : okC n0 gs n2 = true) {bits : List Int} {r : Option (List Int)} {c : Nat} (h : Srch gs n0 n2 bits r c) (v : Int) : Tri bits → (bits.length : Int) = n0 → Srch gs (n0 + 1) n2 (bits ++ [v]) (r.map (· ++ [v])) c := by
  obtain ⟨_, _, _, _, _, _, h7⟩ := okC_iff.1 hc
  have hout : ∀ bits : List Int, (bits.length : Int) = n0 → out3 gs n2 (bits ++ [v]) = out3 gs n2 bits := fun bits hl => by unfold out3; rw [vals_more hl gs 0 [] h7]
  have hfirst : ∀ (bits : List Int) (m : Int), Tri bits → (bits.length : Int) = n0 → out3 gs n2 bits = 2 → IsFirst gs (valsG bits gs []) n2.toNat n0 m → IsFirst gs (valsG (bits ++ [v]) gs []) n2.toNat (n0 + 1) m := fun bits m ht hl h2 hm => by
    rw [vals_more hl gs 0 [] h7]
    refine ⟨hm.1, ?_⟩
    have hf := first_at hc ht h2 hm
    rcases hm.2 with e | e
    · omega
    · exact .inr e
  have hset : ∀ (bits : List Int) (m x : Int), 0 ≤ m → m < (bits.length : Int) → (bits ++ [v]).set m.toNat x = bits.set m.toNat x ++ [v] := fun bits m x h0 h1 => List.set_append_left _ _ (by omega)
  induction h with
  | no h0 => intro ht hl; exact .no ((hout _ hl).trans h0)
  | yes h1 => intro ht hl; exact .yes ((hout _ hl).trans h1)
  | left h2 hm hr ih =>
    intro ht hl
    have hf := first_at hc ht h2 hm
    refine .left ((hout _ hl).trans h2) (hfirst _ _ ht hl h2 hm) ?_
    rw [hset _ _ _ hf.1 (by omega)]
    exact ih (tri_set ht _ (by decide) (by decide)) (by rw [List.length_set]; exact hl)
  | right h2 hm hr hr' ih ih' =>
    intro ht hl
    have hf := first_at hc ht h2 hm
    refine .right ((hout _ hl).trans h2) (hfirst _ _ ht hl h2 hm) ?_ ?_
    · rw [hset _ _ _ hf.1 (by omega)]
      exact ih (tri_set ht _ (by decide) (by decide)) (by rw [List.length_set]; exact hl)
    · rw [hset _ _ _ hf.1 (by omega)]
      exact ih' (tri_set ht _ (by decide) (by decide)) (by rw [List.length_set]; exact hl)
theorem SatIrrelevant : pentaglotlaw28_SatIrrelevant.Pure := by
  intro c fixed value _ _ _ hlen
  apply Ev.rounds
  unfold pentaglotlaw28_SatIrrelevant.f
  refine Ev.bind awake ?_
  simp only [if_true]
  have done : ∀ x, x = true → Ev (fun k => pentaglotlaw28_SatIrrelevant.j0 k fixed value x c.f0 c.f1 c.f2) true := fun x hx => by
    subst hx
    exact Ev.step (f := fun _ => some true) (fun k => by simp only [pentaglotlaw28_SatIrrelevant.j0, if_true]) (Ev.now _)
  obtain ⟨b, hb, hs⟩ := large c.f0 c.f1 c.f2
  refine Ev.bind hb ?_
  cases b with
  | true => simp only [if_true]; exact done _ rfl
  | false =>
    simp only [Bool.false_eq_true, if_false]
    have hs := hs rfl
    by_cases q0 : c.f0 < 0
    · simp only [if_pos q0]; exact done _ rfl
    by_cases q1 : c.f0 > 10
    · simp only [if_neg q0, if_pos q1]; exact done _ rfl
    by_cases q2 : (fixed.length : Int) > 10
    · simp only [if_neg q0, if_neg q1, if_pos q2]; exact done _ rfl
    by_cases q3 : value < 0
    · simp only [if_neg q0, if_neg q1, if_neg q2, if_pos q3]; exact done _ rfl
    by_cases q4 : value > 2
    · simp only [if_neg q0, if_neg q1, if_neg q2, if_neg q3]; exact done _ (decide_eq_true q4)
    simp only [if_neg q0, if_neg q1, if_neg q2, if_neg q3, decide_eq_false q4]
    have l1 : (([] : List Int).length + fixed.length < 17592186044416) := by simp; omega
    have l2 : (([] ++ fixed : List Int).length + ([value] : List Int).length < 17592186044416) := by simp; omega
    have w1 : wrap64 (c.f0 + 1) = c.f0 + 1 := w64 (by omega) (by omega)
    by_cases hp : okP c.f0 c.f1 c.f2 fixed = true
    case neg =>
      have hp' : okP c.f0 c.f1 c.f2 fixed = false := by simpa using hp
      refine Ev.step (fun k => by simp only [pentaglotlaw28_SatIrrelevant.j0, Bool.false_eq_true, if_false, Option.bind_some, if_pos l1, if_pos l2]; rfl) (Ev.bind (least_no c.f0 c.f1 c.f2 hs fixed hlen 5000 (.inl hp')) ?_)
      have any : ∃ x, Ev (fun k => sat_Least.f k (wrap64 (c.f0 + 1)) c.f1 c.f2 ([] ++ fixed ++ [value]) 5000) x := by
        rw [w1]
        by_cases hd : okP (c.f0 + 1) c.f1 c.f2 ([] ++ fixed ++ [value]) = true
        · obtain ⟨ht, hc, hl⟩ := okP_iff.1 hd
          obtain ⟨r, n, hr⟩ := srch_ex hc hs _ _ (Nat.le_refl _) ht hl
          exact ⟨_, least_of hs hd (by decide) (by decide) hr⟩
        · exact ⟨_, least_no (c.f0 + 1) c.f1 c.f2 hs _ (by simp; omega) 5000 (.inl (by simpa using hd))⟩
      obtain ⟨x, hx⟩ := any
      refine Ev.bind hx ?_
      simp only [if_true]
      exact Ev.step (f := fun _ => some true) (fun k => by simp only [pentaglotlaw28_SatIrrelevant.j1, if_true]; rfl) (Ev.now _)
    obtain ⟨ht, hc, hl⟩ := okP_iff.1 hp
    obtain ⟨r, n, hr⟩ := srch_ex hc hs _ fixed (Nat.le_refl _) ht hl
    have hr' := srch_more hc hr value ht hl
    have hc' := okC_more hc (by omega)
    have hp' : okP (c.f0 + 1) c.f1 c.f2 (fixed ++ [value]) = true := okP_iff.2 ⟨fun x hx => by
      rcases List.mem_append.1 hx with hx | hx
      · exact ht x hx
      · obtain rfl := List.mem_singleton.1 hx
        omega, hc', by simp; omega⟩
    refine Ev.step (fun k => by simp only [pentaglotlaw28_SatIrrelevant.j0, Bool.false_eq_true, if_false, Option.bind_some, if_pos l1, if_pos l2]; rfl) (Ev.bind (least_of hs hp (by decide : (1 : Int) ≤ 5000) (by decide) hr) ?_)
    have m2 : Ev (fun k => sat_Least.f k (wrap64 (c.f0 + 1)) c.f1 c.f2 ([] ++ fixed ++ [value]) 5000) (leastR 5000 (r.map (· ++ [value])) n) := by
      rw [w1, List.nil_append]
      exact least_of hs hp' (by decide) (by decide) hr'
    refine Ev.bind m2 ?_
    by_cases hq : (n : Int) ≤ 5000
    case neg =>
      unfold leastR
      rw [if_neg hq, if_neg hq]
      simp only [if_neg (by decide : ¬ (7 : Int) = 1), beq_self_eq_true]
      exact Ev.step (f := fun _ => some true) (fun k => by simp only [pentaglotlaw28_SatIrrelevant.j1, if_true]; rfl) (Ev.now _)
    unfold leastR
    rw [if_pos hq, if_pos hq]
    cases r with
    | none =>
      simp only [Option.map_none, if_neg (by decide : ¬ (4 : Int) = 1)]
      exact Ev.step (f := fun _ => some true) (fun k => by simp only [pentaglotlaw28_SatIrrelevant.j1]; rfl) (Ev.now _)
    | some b =>
      obtain ⟨hbt, hbl, _⟩ := hr.found hc ht hl b rfl
      simp only [Option.map_some, if_neg (by decide : ¬ (0 : Int) = 1)]
      have e1 : ((b ++ [value]).map (fun b => b == 1)).take (((b.map (fun b => b == 1)).length : Nat) : Int).toNat = b.map (fun b => b == 1) := by
        rw [Int.toNat_natCast, List.map_append, List.take_left]
      have e2 : rdOf false ((b ++ [value]).map (fun b => b == 1)) (((b.map (fun b => b == 1)).length : Nat) : Int) = (value == 1) := by
        unfold rdOf
        rw [Int.toNat_natCast, List.map_append, List.getD_eq_getElem?_getD, List.getElem?_append_right (Nat.le_refl _), Nat.sub_self]
        rfl
      have hsame := rsame (b.map (fun b => b == 1)) (b.map (fun b => b == 1)) (by simp; omega)
      rw [beq_self_eq_true] at hsame
      refine Ev.step (fun k => by
        simp only [pentaglotlaw28_SatIrrelevant.j1, e1, e2]
        rw [if_neg (by decide), if_pos trivial, if_pos trivial, if_pos trivial, if_pos (by simp; rw [w64 (by omega) (by omega)]), if_pos (by omega), if_pos (by simp; omega)]) (Ev.bind hsame ?_)
      simp only [if_true]
      rw [if_pos (by simp; omega), beq_self_eq_true]
      exact Ev.now _
end Go.Proofs.Ytflknolnclnhfaa.Pure
