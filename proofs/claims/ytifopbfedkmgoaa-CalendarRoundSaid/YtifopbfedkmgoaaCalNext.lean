/- Plain facts on the printed search for a day with a number and a name: the first such day, in the program and in the reference. -/
import Derived.Test.YtifopbfedkmgoaaPx9
import Derived.Test.YtifopbfedkmgoaaCal
namespace Go.Proofs.Ytifopbfedkmgoaa.Cal
set_option linter.unusedVariables false
set_option linter.unusedSimpArgs false
open Go.RowKit Go.Proofs.Ytifopbfedkmgoaa.P Go.Proofs.YtifopbfedkmgoaaW.PrintWords Go.Proofs.YtifopbfedkmgoaaW.PrintLast
/-- The first day from a day on with a number and a name. -/
def fst (a b d : Int) : Int := d + (40 * (a - 1) + 221 * b - d) % 260
theorem fst_has (a b d : Int) (ha : 1 ≤ a) (ha' : a ≤ 13) (hb : 0 ≤ b) (hb' : b ≤ 19) : fst a b d % 13 = a - 1 ∧ fst a b d % 20 = b ∧ d ≤ fst a b d ∧ fst a b d ≤ d + 259 := by unfold fst; omega
theorem fst_first (a b d n : Int) (ha : 1 ≤ a) (ha' : a ≤ 13) (hb : 0 ≤ b) (hb' : b ≤ 19) (h0 : d ≤ n) (h1 : n < fst a b d) : ¬ (n % 13 = a - 1 ∧ n % 20 = b) := by unfold fst at h1; omega
theorem pair (a b : Int) : calendar_pair.f a b = some (decide (1 ≤ a ∧ a ≤ 13 ∧ 0 ≤ b ∧ b < 20)) := by
  unfold calendar_pair.f
  by_cases h1 : a ≥ 1
  · rw [if_pos h1]
    by_cases h2 : a ≤ 13
    · rw [if_pos h2]
      by_cases h3 : b ≥ 0
      · rw [if_pos h3]; congr 1; simp [h1, h2, h3]
      · rw [if_neg h3]; congr 1; symm; rw [decide_eq_false_iff_not]; omega
    · rw [if_neg h2]; congr 1; symm; rw [decide_eq_false_iff_not]; omega
  · rw [if_neg h1]; congr 1; symm; rw [decide_eq_false_iff_not]; omega
def found (a b after : Int) : Int × Int := if fst a b (after + 1) ≤ 999999 then (fst a b (after + 1), 0) else (0, 2)
theorem next_loop (a b after : Int) (ha : 1 ≤ a) (ha' : a ≤ 13) (hb : 0 ≤ b) (hb' : b ≤ 19) (h0 : -1 ≤ after) (h1 : after < 999999) (n : Nat) :
    ∀ i : Int, 0 ≤ i → after + 1 + i ≤ fst a b (after + 1) → (fst a b (after + 1) - (after + 1 + i)).toNat = n → Ev (fun k => calendar_Next.l0 k a b after i) (found a b after) := by
  have hf := fst_has a b (after + 1) ha ha' hb hb'
  induction n with
  | zero =>
    intro i hi hle hn
    have he : after + 1 + i = fst a b (after + 1) := by omega
    refine Ev.step (f := fun _ => some (found a b after)) (fun k => ?_) (Ev.now _)
    simp only [calendar_Next.l0]
    rw [if_pos (by omega), w64 (x := after + 1) (by omega) (by omega), w64 (x := after + 1 + i) (by omega) (by omega), he]
    by_cases hb : fst a b (after + 1) > 999999
    · rw [if_pos hb]; unfold found; rw [if_neg (by omega)]
    · rw [if_neg hb, tm (by omega), tm (by omega), w64 (x := a - 1) (by omega) (by omega), if_pos hf.1, if_pos hf.2.1]
      unfold found; rw [if_pos (by omega)]
  | succ n ih =>
    intro i hi hle hn
    have hne := fst_first a b (after + 1) (after + 1 + i) ha ha' hb hb' (by omega) (by omega)
    by_cases hbig : after + 1 + i > 999999
    · refine Ev.step (f := fun _ => some (found a b after)) (fun k => ?_) (Ev.now _)
      simp only [calendar_Next.l0]
      rw [if_pos (by omega), w64 (x := after + 1) (by omega) (by omega), w64 (x := after + 1 + i) (by omega) (by omega), if_pos hbig]
      unfold found; rw [if_neg (by omega)]
    · refine Ev.step (f := fun k => calendar_Next.l0 k a b after (i + 1)) (fun k => ?_) (ih (i + 1) (by omega) (by omega) (by omega))
      simp only [calendar_Next.l0]
      rw [if_pos (by omega), w64 (x := after + 1) (by omega) (by omega), w64 (x := after + 1 + i) (by omega) (by omega), if_neg hbig, tm (by omega), tm (by omega), w64 (x := a - 1) (by omega) (by omega), w64 (x := i + 1) (by omega) (by omega)]
      by_cases c1 : (after + 1 + i) % 13 = a - 1
      · rw [if_pos c1, if_neg (fun c2 => hne ⟨c1, c2⟩)]
      · rw [if_neg c1]
/-- Next, whatever it is asked. -/
def nxt (a b after : Int) : Int × Int := if 1 ≤ a ∧ a ≤ 13 ∧ 0 ≤ b ∧ b < 20 ∧ -1 ≤ after then (if after ≥ 999999 then (0, 2) else found a b after) else (0, 1)
theorem next (a b after : Int) : Ev (fun k => calendar_Next.f k a b after) (nxt a b after) := by
  unfold nxt
  by_cases hp : 1 ≤ a ∧ a ≤ 13 ∧ 0 ≤ b ∧ b < 20
  · obtain ⟨g1, g2, g3, g4⟩ := hp
    refine Ev.congr (f := fun k => calendar_Next.j0 k a b after (decide (after < (-1)))) (fun k => ?_) ?_
    · unfold calendar_Next.f
      rw [pair, decide_eq_true ⟨g1, g2, g3, g4⟩]; rfl
    · by_cases h0 : after < -1
      · rw [if_neg (by omega)]
        refine Ev.step (f := fun _ => some (0, 1)) (fun k => ?_) (Ev.now _)
        simp only [calendar_Next.j0, h0, decide_true, if_true]
      · rw [if_pos (by omega)]
        by_cases h1 : after ≥ 999999
        · rw [if_pos h1]
          refine Ev.step (f := fun _ => some (0, 2)) (fun k => ?_) (Ev.now _)
          simp only [calendar_Next.j0, h0, decide_false]
          rw [if_neg (by decide), if_pos h1]
        · rw [if_neg h1]
          have hf := fst_has a b (after + 1) g1 g2 g3 (by omega)
          refine Ev.step (f := fun k => calendar_Next.l0 k a b after 0) (fun k => ?_) (next_loop a b after g1 g2 g3 (by omega) (by omega) (by omega) _ 0 (by omega) (by omega) rfl)
          simp only [calendar_Next.j0, h0, decide_false]
          rw [if_neg (by decide), if_neg h1]
  · rw [if_neg (by omega)]
    refine Ev.congr (f := fun k => calendar_Next.j0 k a b after true) (fun k => ?_) ?_
    · unfold calendar_Next.f
      rw [pair, decide_eq_false hp]; rfl
    · refine Ev.step (f := fun _ => some (0, 1)) (fun k => ?_) (Ev.now _)
      simp only [calendar_Next.j0, if_true]
theorem rnext_loop (a b after : Int) (ha : 1 ≤ a) (ha' : a ≤ 13) (hb : 0 ≤ b) (hb' : b ≤ 19) (h0 : -1 ≤ after) (h1 : after < 999999) (n : Nat) :
    ∀ i : Int, after + 1 ≤ i → i ≤ fst a b (after + 1) → (fst a b (after + 1) - i).toNat = n → Ev (fun k => pentaglotref17_Next.l0 k a b i) (found a b after) := by
  have hf := fst_has a b (after + 1) ha ha' hb hb'
  induction n with
  | zero =>
    intro i hi hle hn
    have he : i = fst a b (after + 1) := by omega
    refine Ev.step (f := fun _ => some (found a b after)) (fun k => ?_) (Ev.now _)
    simp only [pentaglotref17_Next.l0]
    rw [tm (by omega), tm (by omega), w64 (x := a - 1) (by omega) (by omega), he, if_pos hf.1, if_pos hf.2.1]
    unfold found
    by_cases hb : fst a b (after + 1) > 999999
    · rw [if_pos hb, if_neg (by omega)]
    · rw [if_neg hb, if_pos (by omega)]
  | succ n ih =>
    intro i hi hle hn
    have hne := fst_first a b (after + 1) i ha ha' hb hb' (by omega) (by omega)
    refine Ev.step (f := fun k => pentaglotref17_Next.l0 k a b (i + 1)) (fun k => ?_) (ih (i + 1) (by omega) (by omega) (by omega))
    simp only [pentaglotref17_Next.l0]
    rw [tm (by omega), tm (by omega), w64 (x := a - 1) (by omega) (by omega), w64 (x := i + 1) (by omega) (by omega)]
    by_cases c1 : i % 13 = a - 1
    · rw [if_pos c1, if_neg (fun c2 => hne ⟨c1, c2⟩)]
    · rw [if_neg c1]
theorem rnext (a b after : Int) : Ev (fun k => pentaglotref17_Next.f k a b after) (nxt a b after) := by
  unfold nxt
  have jt : Ev (fun k => pentaglotref17_Next.j0 k a b after true) (0, 1) := by
    refine Ev.step (f := fun _ => some (0, 1)) (fun k => ?_) (Ev.now _)
    simp only [pentaglotref17_Next.j0, if_true]
  by_cases hp : 1 ≤ a ∧ a ≤ 13 ∧ 0 ≤ b ∧ b < 20
  · obtain ⟨g1, g2, g3, g4⟩ := hp
    refine Ev.congr (f := fun k => pentaglotref17_Next.j0 k a b after (decide (after < (-1)))) (fun k => ?_) ?_
    · unfold pentaglotref17_Next.f
      rw [if_neg (by omega), if_neg (by omega), if_neg (by omega), if_neg (by omega)]
    · by_cases h0 : after < -1
      · rw [if_neg (by omega), decide_eq_true h0]; exact jt
      · rw [if_pos (by omega)]
        by_cases h1 : after ≥ 999999
        · rw [if_pos h1]
          refine Ev.step (f := fun _ => some (0, 2)) (fun k => ?_) (Ev.now _)
          simp only [pentaglotref17_Next.j0, h0, decide_false]
          rw [if_neg (by decide), if_pos h1]
        · rw [if_neg h1]
          have hf := fst_has a b (after + 1) g1 g2 g3 (by omega)
          refine Ev.step (f := fun k => pentaglotref17_Next.l0 k a b (after + 1)) (fun k => ?_) (rnext_loop a b after g1 g2 g3 (by omega) (by omega) (by omega) _ (after + 1) (by omega) (by omega) rfl)
          simp only [pentaglotref17_Next.j0, h0, decide_false]
          rw [if_neg (by decide), if_neg h1, w64 (by omega) (by omega)]
  · rw [if_neg (by omega)]
    refine Ev.congr (f := fun k => pentaglotref17_Next.j0 k a b after true) (fun k => ?_) jt
    unfold pentaglotref17_Next.f
    by_cases c1 : a < 1
    · rw [if_pos c1]
    · rw [if_neg c1]
      by_cases c2 : a > 13
      · rw [if_pos c2]
      · rw [if_neg c2]
        by_cases c3 : b < 0
        · rw [if_pos c3]
        · rw [if_neg c3, if_pos (by omega)]
theorem nxt_ok (a b after : Int) (h : (nxt a b after).2 = 0) : 1 ≤ a ∧ a ≤ 13 ∧ 0 ≤ b ∧ b < 20 ∧ -1 ≤ after ∧ after < 999999 ∧ fst a b (after + 1) ≤ 999999 ∧ (nxt a b after).1 = fst a b (after + 1) := by
  unfold nxt at h ⊢
  by_cases c1 : 1 ≤ a ∧ a ≤ 13 ∧ 0 ≤ b ∧ b < 20 ∧ -1 ≤ after
  · rw [if_pos c1] at h ⊢
    by_cases c2 : after ≥ 999999
    · rw [if_pos c2] at h; simp at h
    · rw [if_neg c2] at h ⊢
      unfold found at h ⊢
      by_cases c3 : fst a b (after + 1) ≤ 999999
      · rw [if_pos c3]; exact ⟨c1.1, c1.2.1, c1.2.2.1, c1.2.2.2.1, c1.2.2.2.2, by omega, c3, rfl⟩
      · rw [if_neg c3] at h; simp at h
  · rw [if_neg c1] at h; simp at h
theorem nxt_err (a b after : Int) (h : ¬ (nxt a b after).2 = 0) : (nxt a b after).1 = 0 := by
  unfold nxt at h ⊢
  split
  · split
    · rfl
    · unfold found
      split
      · rename_i c1 c2 c3
        rw [if_pos c1, if_neg c2] at h
        unfold found at h
        rw [if_pos c3] at h
        exact absurd rfl h
      · rfl
  · rfl
end Go.Proofs.Ytifopbfedkmgoaa.Cal
