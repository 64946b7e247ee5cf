/- Plain facts on the printed functions SolarDay of the program and of the reference: the day of a solar date. -/
import Derived.Test.YtifopbfedkmgoaaPx8
import Derived.Test.YtifopbfedkmgoaaCalRef
namespace Go.Proofs.Ytifopbfedkmgoaa.Cal
set_option linter.unusedVariables false
set_option linter.unusedSimpArgs false
open Go.RowKit Go.Proofs.Ytifopbfedkmgoaa.P Go.Proofs.YtifopbfedkmgoaaW.PrintWords Go.Proofs.YtifopbfedkmgoaaW.PrintLast
theorem md_ok (y m d : Int) (h1 : 1 ≤ d) (h2 : d ≤ md y m) : 0 ≤ y ∧ 1 ≤ m ∧ m ≤ 12 := by
  unfold md at h2
  by_cases c1 : y < 0
  · rw [if_pos c1] at h2; omega
  · rw [if_neg c1] at h2
    by_cases c2 : m < 1
    · rw [if_pos c2] at h2; omega
    · rw [if_neg c2] at h2
      by_cases c3 : m > 12
      · rw [if_pos c3] at h2; omega
      · omega
/-- The day of a solar date, or its error. -/
def sd (c y m d : Int) (leap : Bool) : Int × Int :=
  if c = 1 ∧ leap = false ∧ 1 ≤ d ∧ d ≤ md y m then (if st y ≤ 999999 ∧ st y + cum m + (d - 1) ≤ 999999 then (st y + cum m + (d - 1), 0) else (0, 2)) else (0, 1)
theorem sd_year (y : Int) (h0 : 0 ≤ y) : (if y ≤ 999999 ∧ st y ≤ 999999 then (st y, (0 : Int)) else (0, 2)) = (if st y ≤ 999999 then (st y, 0) else (0, 2)) := by
  have := st_bd y h0
  by_cases h : st y ≤ 999999
  · rw [if_pos ⟨by omega, h⟩, if_pos h]
  · rw [if_neg (by omega), if_neg h]
theorem sday_loop (c y m d : Int) (leap : Bool) (h0 : 0 ≤ y) (hs : st y ≤ 999999) (hm : 1 ≤ m) (hm2 : m ≤ 12) (hd : 1 ≤ d) (hd2 : d ≤ 31) (n : Nat) : ∀ (i : Int), 1 ≤ i → i ≤ m → (m - i).toNat = n →
    Ev (fun k => calendar_SolarDay.l0 k (st y + cum i) i c y m d leap) (if st y + cum m + (d - 1) ≤ 999999 then (st y + cum m + (d - 1), 0) else (0, 2)) := by
  have hsb := st_bd y h0
  induction n with
  | zero =>
    intro i h1 h2 hn
    obtain rfl : i = m := by omega
    have hc := cum_bd i h1 hm2
    refine Ev.step (f := fun _ => some (if st y + cum i + (d - 1) ≤ 999999 then (st y + cum i + (d - 1), 0) else (0, 2))) (fun k => ?_) (Ev.now _)
    simp only [calendar_SolarDay.l0]
    rw [if_neg (by omega), w64 (x := d - 1) (by omega) (by omega), w64 (x := st y + cum i + (d - 1)) (by omega) (by omega)]
    by_cases hb : st y + cum i + (d - 1) ≤ 999999
    · rw [if_neg (by omega), if_pos hb]
    · rw [if_pos (by omega), if_neg hb]
  | succ n ih =>
    intro i h1 h2 hn
    have hc := cum_bd i h1 (by omega)
    have hb := md_bd y i
    have hs' := cum_succ y i h0 h1 (by omega)
    have := ih (i + 1) (by omega) (by omega) (by omega)
    rw [hs'] at this
    refine Ev.step (f := fun k => calendar_SolarDay.l0 k (st y + (cum i + md y i)) (i + 1) c y m d leap) (fun k => ?_) this
    simp only [calendar_SolarDay.l0]
    rw [if_pos (by omega), monthDays]
    simp only [Option.bind_some]
    rw [w64 (x := st y + cum i + md y i) (by omega) (by omega), w64 (x := i + 1) (by omega) (by omega), Int.add_assoc]
theorem solarDay (c y m d : Int) (leap : Bool) : Ev (fun k => calendar_SolarDay.f k c y m d leap) (sd c y m d leap) := by
  have jt : Ev (fun k => calendar_SolarDay.j0 k true c y m d leap) (0, 1) := Ev.step (f := fun _ => some (0, 1)) (fun k => rfl) (Ev.now _)
  unfold sd
  by_cases h : c = 1 ∧ leap = false ∧ 1 ≤ d ∧ d ≤ md y m
  · rw [if_pos h]
    obtain ⟨rfl, rfl, h1, h2⟩ := h
    obtain ⟨g0, g1, g2⟩ := md_ok y m d h1 h2
    have hb := md_bd y m
    refine Ev.congr (f := fun k => calendar_SolarDay.j0 k false 1 y m d false) (fun k => ?_) ?_
    · unfold calendar_SolarDay.f
      rw [if_neg (by decide), if_neg (by omega), monthDays]
      simp only [Option.bind_some]
      rw [decide_eq_false (by omega)]
    · by_cases hs : st y ≤ 999999
      · refine Ev.step (f := fun k => calendar_SolarDay.l0 k (st y) 1 1 y m d false) (fun k => ?_) ?_
        · simp only [calendar_SolarDay.j0]
          rw [if_neg (by decide), yearStart y g0, sd_year y g0, if_pos hs]
          simp only [Option.bind_some, if_true]
        · have := sday_loop 1 y m d false g0 hs g1 g2 h1 (by omega) _ 1 (by omega) g1 rfl
          rw [cum_one, Int.add_zero] at this
          have e : (if st y ≤ 999999 ∧ st y + cum m + (d - 1) ≤ 999999 then (st y + cum m + (d - 1), (0 : Int)) else (0, 2)) = (if st y + cum m + (d - 1) ≤ 999999 then (st y + cum m + (d - 1), 0) else (0, 2)) := by
            by_cases hx : st y + cum m + (d - 1) ≤ 999999
            · rw [if_pos ⟨hs, hx⟩, if_pos hx]
            · rw [if_neg (fun hh => hx hh.2), if_neg hx]
          rw [e]
          exact this
      · rw [if_neg (fun hh => hs hh.1)]
        refine Ev.step (f := fun _ => some (0, 2)) (fun k => ?_) (Ev.now _)
        simp only [calendar_SolarDay.j0]
        rw [if_neg (by decide), yearStart y g0, sd_year y g0, if_neg hs]
        rfl
  · rw [if_neg h]
    refine Ev.congr (f := fun k => calendar_SolarDay.j0 k true c y m d leap) (fun k => ?_) jt
    unfold calendar_SolarDay.f
    by_cases c1 : (!(c == 1) || leap) = true
    · rw [if_pos c1]
    · rw [if_neg c1]
      by_cases c2 : d < 1
      · rw [if_pos c2]
      · rw [if_neg c2, monthDays]
        simp only [Option.bind_some]
        rw [decide_eq_true]
        simp only [Bool.or_eq_true, Bool.not_eq_true', beq_eq_false_iff_ne, not_or] at c1
        have e1 : c = 1 := Classical.byContradiction fun hh => c1.1 hh
        have e2 : leap = false := by simpa using c1.2
        exact Classical.byContradiction fun hh => h ⟨e1, e2, by omega, by omega⟩
theorem rsday_loop (c y m d : Int) (leap : Bool) (h0 : 0 ≤ y) (hs : st y ≤ 999999) (hm : 1 ≤ m) (hm2 : m ≤ 12) (hd : 1 ≤ d) (hd2 : d ≤ 31) (n : Nat) : ∀ (i : Int), 1 ≤ i → i ≤ m → (m - i).toNat = n →
    Ev (fun k => pentaglotref17_SolarDay.l0 k (st y + cum i) i c y m d leap) (if st y + cum m + (d - 1) ≤ 999999 then (st y + cum m + (d - 1), 0) else (0, 2)) := by
  have hsb := st_bd y h0
  induction n with
  | zero =>
    intro i h1 h2 hn
    obtain rfl : i = m := by omega
    have hc := cum_bd i h1 hm2
    refine Ev.step (f := fun _ => some (if st y + cum i + (d - 1) ≤ 999999 then (st y + cum i + (d - 1), 0) else (0, 2))) (fun k => ?_) (Ev.now _)
    simp only [pentaglotref17_SolarDay.l0]
    rw [if_neg (by omega), w64 (x := d - 1) (by omega) (by omega), w64 (x := st y + cum i + (d - 1)) (by omega) (by omega)]
    by_cases hb : st y + cum i + (d - 1) ≤ 999999
    · rw [if_neg (by omega), if_pos hb]
    · rw [if_pos (by omega), if_neg hb]
  | succ n ih =>
    intro i h1 h2 hn
    have hc := cum_bd i h1 (by omega)
    have hb := md_bd y i
    have hs' := cum_succ y i h0 h1 (by omega)
    have := ih (i + 1) (by omega) (by omega) (by omega)
    rw [hs'] at this
    refine Ev.step (f := fun k => (pentaglotref17_MonthDays.f k y i).bind fun t => pentaglotref17_SolarDay.l0 k (wrap64 (st y + cum i + t)) (wrap64 (i + 1)) c y m d leap) (fun k => ?_) ?_
    · simp only [pentaglotref17_SolarDay.l0]
      rw [if_pos (by omega)]
    · refine Ev.bind (rmonthDays y i) ?_
      rw [w64 (x := st y + cum i + md y i) (by omega) (by omega), w64 (x := i + 1) (by omega) (by omega), Int.add_assoc]
      exact this
theorem rsolarDay (c y m d : Int) (leap : Bool) (hy : y ≤ 9223372036854775807) : Ev (fun k => pentaglotref17_SolarDay.f k c y m d leap) (sd c y m d leap) := by
  have jt : Ev (fun k => pentaglotref17_SolarDay.j0 k true c y m d leap) (0, 1) := Ev.step (f := fun _ => some (0, 1)) (fun k => rfl) (Ev.now _)
  unfold sd
  by_cases h : c = 1 ∧ leap = false ∧ 1 ≤ d ∧ d ≤ md y m
  · rw [if_pos h]
    obtain ⟨rfl, rfl, h1, h2⟩ := h
    obtain ⟨g0, g1, g2⟩ := md_ok y m d h1 h2
    have hb := md_bd y m
    refine Ev.congr (f := fun k => (pentaglotref17_MonthDays.f k y m).bind fun t => pentaglotref17_SolarDay.j0 k (decide (d > t)) 1 y m d false) (fun k => ?_) ?_
    · unfold pentaglotref17_SolarDay.f
      rw [if_pos rfl, if_neg (by decide), if_neg (by omega)]
    · refine Ev.bind (rmonthDays y m) ?_
      rw [decide_eq_false (by omega)]
      refine Ev.step (f := fun k => (pentaglotref17_YearStart.f k y).bind fun b => if b.2 = 0 then pentaglotref17_SolarDay.l0 k b.1 1 1 y m d false else some (0, b.2)) (fun k => rfl) ?_
      refine Ev.bind (ryearStart y g0 hy) ?_
      rw [sd_year y g0]
      by_cases hs : st y ≤ 999999
      · rw [if_pos hs]
        simp only [if_true]
        have := rsday_loop 1 y m d false g0 hs g1 g2 h1 (by omega) _ 1 (by omega) g1 rfl
        rw [cum_one, Int.add_zero] at this
        have e : (if st y ≤ 999999 ∧ st y + cum m + (d - 1) ≤ 999999 then (st y + cum m + (d - 1), (0 : Int)) else (0, 2)) = (if st y + cum m + (d - 1) ≤ 999999 then (st y + cum m + (d - 1), 0) else (0, 2)) := by
          by_cases hx : st y + cum m + (d - 1) ≤ 999999
          · rw [if_pos ⟨hs, hx⟩, if_pos hx]
          · rw [if_neg (fun hh => hx hh.2), if_neg hx]
        rw [e]
        exact this
      · rw [if_neg hs, if_neg (fun hh => hs hh.1)]
        exact Ev.now _
  · rw [if_neg h]
    have key : ∀ k, pentaglotref17_SolarDay.f k c y m d leap = (pentaglotref17_SolarDay.j0 k true c y m d leap) ∨ (c = 1 ∧ leap = false ∧ 1 ≤ d ∧ pentaglotref17_SolarDay.f k c y m d leap = (pentaglotref17_MonthDays.f k y m).bind fun t => pentaglotref17_SolarDay.j0 k (decide (d > t)) c y m d leap) := by
      intro k
      unfold pentaglotref17_SolarDay.f
      by_cases c1 : c = 1
      · rw [if_pos c1]
        by_cases c2 : leap = true
        · rw [if_pos c2]; exact .inl rfl
        · rw [if_neg c2]
          by_cases c3 : d < 1
          · rw [if_pos c3]; exact .inl rfl
          · rw [if_neg c3]; exact .inr ⟨c1, by simpa using c2, by omega, rfl⟩
      · rw [if_neg c1]; exact .inl rfl
    obtain ⟨K1, h1⟩ := jt
    obtain ⟨K2, h2⟩ := rmonthDays y m
    refine ⟨max K1 K2, fun k hk => ?_⟩
    show pentaglotref17_SolarDay.f k c y m d leap = _
    have h1 : pentaglotref17_SolarDay.j0 k true c y m d leap = some (0, 1) := h1 k (by omega)
    have h2 : pentaglotref17_MonthDays.f k y m = some (md y m) := h2 k (by omega)
    rcases key k with e | ⟨e1, e2, e3, e⟩
    · rw [e]; exact h1
    · rw [e, h2]
      simp only [Option.bind_some]
      rw [decide_eq_true (Classical.byContradiction fun hh => h ⟨e1, e2, e3, by omega⟩)]
      exact h1
end Go.Proofs.Ytifopbfedkmgoaa.Cal
