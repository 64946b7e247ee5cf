/- Plain facts on the printed functions of the calendar's reference: the lengths of months and years, the first day of a year, the solar date of a day. -/
import Derived.Test.YtifopbfedkmgoaaPx4
import Derived.Test.YtifopbfedkmgoaaCal
namespace Go.Proofs.Ytifopbfedkmgoaa.Cal
set_option linter.unusedVariables false
set_option linter.unusedSimpArgs false
open Go.RowKit Go.Proofs.Ytifopbfedkmgoaa.P Go.Proofs.YtifopbfedkmgoaaW.PrintWords Go.Proofs.YtifopbfedkmgoaaW.PrintLast

theorem rleap (y : Int) : pentaglotref17_Leap.f y = some (lp y) := leap y
theorem rmonthDays1 (y m : Int) (k : Nat) : pentaglotref17_MonthDays.f (k + 1) y m = some (md y m) := by
  unfold pentaglotref17_MonthDays.f md
  by_cases h0 : y < 0
  · rw [if_pos h0, if_pos h0]; rfl
  · rw [if_neg h0, if_neg h0]
    by_cases h1 : m < 1
    · rw [if_pos h1, if_pos h1]; rfl
    · rw [if_neg h1, if_neg h1]
      by_cases h2 : m > 12
      · rw [if_pos h2]; simp only [pentaglotref17_MonthDays.j0, h2, decide_true, if_true]
      · rw [if_neg h2]
        simp only [pentaglotref17_MonthDays.j0, h2, decide_false]
        rw [if_neg (by decide), tm (by omega)]
        by_cases h3 : m % 2 = 1
        · rw [if_pos h3, if_neg (by omega), if_pos h3]
        · rw [if_neg h3]
          by_cases h4 : m < 12
          · rw [if_pos h4, if_neg (by omega), if_neg h3]
          · rw [if_neg h4, if_pos (by omega), rleap]
            simp only [Option.bind_some]
            split <;> rfl
theorem rmonthDays (y m : Int) : Ev (fun k => pentaglotref17_MonthDays.f k y m) (md y m) :=
  Ev.step (f := fun _ => some (md y m)) (fun k => rmonthDays1 y m k) (Ev.now _)
theorem yearDays_loop (y : Int) (h0 : 0 ≤ y) (n : Nat) : ∀ (m s : Int), 1 ≤ m → m ≤ 13 → (13 - m).toNat = n → s = (if m = 13 then yd y else cum m) →
    Ev (fun k => pentaglotref17_YearDays.l0 k y s m) (yd y) := by
  induction n with
  | zero =>
    intro m s h1 h2 hn hs
    obtain rfl : m = 13 := by omega
    rw [if_pos rfl] at hs
    subst hs
    refine Ev.step (f := fun _ => some (yd y)) (fun k => ?_) (Ev.now _)
    simp only [pentaglotref17_YearDays.l0]
    rw [if_neg (by omega)]
  | succ n ih =>
    intro m s h1 h2 hn hs
    have hm : m ≤ 12 := by omega
    rw [if_neg (by omega)] at hs
    subst hs
    have hb := md_bd y m
    have hc := cum_bd m h1 hm
    have hn' : cum m + md y m = if m + 1 = 13 then yd y else cum (m + 1) := by
      by_cases e : m = 12
      · subst e; rw [if_pos (by omega)]; exact cum_12 y h0
      · rw [if_neg (by omega)]; exact (cum_succ y m h0 h1 (by omega)).symm
    have := ih (m + 1) (cum m + md y m) (by omega) (by omega) (by omega) hn'
    refine Ev.step (f := fun k => (pentaglotref17_MonthDays.f k y m).bind fun t => pentaglotref17_YearDays.l0 k y (wrap64 (cum m + t)) (wrap64 (m + 1))) (fun k => ?_) ?_
    · simp only [pentaglotref17_YearDays.l0]
      rw [if_pos hm]
    · refine Ev.bind (rmonthDays y m) ?_
      rw [w64 (x := cum m + md y m) (by omega) (by omega), w64 (x := m + 1) (by omega) (by omega)]
      exact this
theorem yearDays (y : Int) (h0 : 0 ≤ y) : Ev (fun k => pentaglotref17_YearDays.f k y) (yd y) := by
  unfold pentaglotref17_YearDays.f
  exact yearDays_loop y h0 12 1 0 (by omega) (by omega) (by omega) (by rw [if_neg (by omega), cum_one])
theorem yearStart_loop (year : Int) (hy : year ≤ 9223372036854775807) (n : Nat) : ∀ (y : Int), 0 ≤ y → y ≤ year → y ≤ 99999 → (99999 - y).toNat = n → (∀ z, 0 ≤ z → z < y → st z ≤ 999999) →
    Ev (fun k => pentaglotref17_YearStart.l0 k year (st y) y) (if st year ≤ 999999 then (st year, 0) else (0, 2)) := by
  induction n with
  | zero =>
    intro y h0 h1 h2 hn hz
    have := st_bd 99998 (by omega)
    have := hz 99998 (by omega) (by omega)
    omega
  | succ n ih =>
    intro y h0 h1 h2 hn hz
    have hb := st_bd y h0
    by_cases hlt : y < year
    · by_cases hs : st y ≤ 999999
      · have hyd := yd_bd y
        have := ih (y + 1) (by omega) (by omega) (by omega) (by omega) (fun z g0 g1 => by
          by_cases e : z = y
          · subst e; exact hs
          · exact hz z g0 (by omega))
        refine Ev.step (f := fun k => (pentaglotref17_YearDays.f k y).bind fun t => pentaglotref17_YearStart.l0 k year (wrap64 (st y + t)) (wrap64 (y + 1))) (fun k => ?_) ?_
        · simp only [pentaglotref17_YearStart.l0]
          rw [if_pos hlt, if_pos hs]
        · refine Ev.bind (yearDays y h0) ?_
          rw [w64 (x := st y + yd y) (by omega) (by omega), w64 (x := y + 1) (by omega) (by omega), ← st_succ y h0]
          exact this
      · have hm := st_mono y year h0 h1
        refine Ev.step (f := fun _ => some (0, 2)) (fun k => ?_) ?_
        · simp only [pentaglotref17_YearStart.l0]
          rw [if_pos hlt, if_neg hs, if_pos (by omega)]
        · rw [if_neg (by omega)]; exact Ev.now _
    · obtain rfl : y = year := by omega
      refine Ev.step (f := fun _ => (if st y ≤ 999999 then some (st y, 0) else some (0, 2))) (fun k => ?_) ?_
      · simp only [pentaglotref17_YearStart.l0]
        rw [if_neg hlt]
        by_cases hs : st y ≤ 999999
        · rw [if_neg (by omega), if_pos hs]
        · rw [if_pos (by omega), if_neg hs]
      · split <;> exact Ev.now _
/-- YearStart is the reference's. -/
theorem ryearStart (y : Int) (h0 : 0 ≤ y) (h1 : y ≤ 9223372036854775807) : Ev (fun k => pentaglotref17_YearStart.f k y) (if y ≤ 999999 ∧ st y ≤ 999999 then (st y, 0) else (0, 2)) := by
  have := yearStart_loop y h1 99999 0 (by omega) h0 (by omega) (by omega) (fun z g0 g1 => by omega)
  rw [st_zero] at this
  have e : (if y ≤ 999999 ∧ st y ≤ 999999 then (st y, (0 : Int)) else (0, 2)) = (if st y ≤ 999999 then (st y, 0) else (0, 2)) := by
    by_cases h : st y ≤ 999999
    · have := st_bd y h0
      rw [if_pos h, if_pos ⟨by omega, h⟩]
    · rw [if_neg h, if_neg (by omega)]
  rw [e]
  refine Ev.congr (f := fun k => pentaglotref17_YearStart.l0 k y 0 0) (fun k => ?_) this
  unfold pentaglotref17_YearStart.f
  rw [if_neg (by omega)]
theorem ryearStart_neg (y : Int) (h0 : y < 0) (k : Nat) : pentaglotref17_YearStart.f k y = some (0, 1) := by
  unfold pentaglotref17_YearStart.f
  rw [if_pos h0]
theorem rmonths_loop (y : Int) (h0 : 0 ≤ y) (n : Nat) : ∀ (m d : Int), 1 ≤ m → m ≤ 12 → (12 - m).toNat ≤ n → 0 ≤ d → cum m + d < yd y →
    ∃ m' d', 1 ≤ m' ∧ m' ≤ 12 ∧ 0 ≤ d' ∧ d' < md y m' ∧ cum m' + d' = cum m + d ∧ Ev (fun k => pentaglotref17_SolarDate.l1 k d 1 y m 0 false) (1, y, m', d' + 1, false, 0) := by
  induction n with
  | zero =>
    intro m d h1 h2 hn hd hlt
    obtain rfl : m = 12 := by omega
    have h12 := cum_12 y h0
    have hb := md_bd y 12
    refine ⟨12, d, by omega, by omega, hd, by omega, rfl, Ev.step (f := fun k => (pentaglotref17_MonthDays.f k y 12).bind fun t => if d ≥ t then ((pentaglotref17_MonthDays.f k y 12).bind fun t => (pentaglotref17_SolarDate.l1 k (wrap64 (d - t)) 1 y (wrap64 (12 + 1)) 0 false)) else some (1, y, 12, wrap64 (d + 1), false, 0)) (fun k => rfl) ?_⟩
    refine Ev.bind (rmonthDays y 12) ?_
    rw [w64 (x := d + 1) (by omega) (by omega)]
    refine Ev.congr (f := fun _ => some (1, y, 12, d + 1, false, 0)) (fun k => ?_) (Ev.now _)
    show ite _ _ _ = _
    rw [if_neg (by omega)]
  | succ n ih =>
    intro m d h1 h2 hn hd hlt
    have hb := md_bd y m
    have hy := yd_bd y
    have hcb := cum_bd m h1 h2
    by_cases hc : md y m ≤ d
    · have hm : m ≤ 11 := by
        by_cases e : m = 12
        · subst e; have := cum_12 y h0; omega
        · omega
      have hs := cum_succ y m h0 h1 hm
      obtain ⟨m', d', g1, g2, g3, g4, g5, g6⟩ := ih (m + 1) (d - md y m) (by omega) (by omega) (by omega) (by omega) (by omega)
      refine ⟨m', d', g1, g2, g3, g4, by omega, Ev.step (f := fun k => (pentaglotref17_MonthDays.f k y m).bind fun t => if d ≥ t then ((pentaglotref17_MonthDays.f k y m).bind fun t => (pentaglotref17_SolarDate.l1 k (wrap64 (d - t)) 1 y (wrap64 (m + 1)) 0 false)) else some (1, y, m, wrap64 (d + 1), false, 0)) (fun k => rfl) ?_⟩
      refine Ev.bind (rmonthDays y m) ?_
      refine Ev.congr (f := fun k => (pentaglotref17_MonthDays.f k y m).bind fun t => (pentaglotref17_SolarDate.l1 k (wrap64 (d - t)) 1 y (wrap64 (m + 1)) 0 false)) (fun k => ?_) ?_
      · show ite _ _ _ = _
        rw [if_pos (by omega)]
      · refine Ev.bind (rmonthDays y m) ?_
        rw [w64 (x := d - md y m) (by omega) (by omega), w64 (x := m + 1) (by omega) (by omega)]
        exact g6
    · refine ⟨m, d, h1, h2, hd, by omega, rfl, Ev.step (f := fun k => (pentaglotref17_MonthDays.f k y m).bind fun t => if d ≥ t then ((pentaglotref17_MonthDays.f k y m).bind fun t => (pentaglotref17_SolarDate.l1 k (wrap64 (d - t)) 1 y (wrap64 (m + 1)) 0 false)) else some (1, y, m, wrap64 (d + 1), false, 0)) (fun k => rfl) ?_⟩
      refine Ev.bind (rmonthDays y m) ?_
      rw [w64 (x := d + 1) (by omega) (by omega)]
      refine Ev.congr (f := fun _ => some (1, y, m, d + 1, false, 0)) (fun k => ?_) (Ev.now _)
      show ite _ _ _ = _
      rw [if_neg (by omega)]
theorem ryears_loop (day : Int) (hd2 : day ≤ 999999) (n : Nat) : ∀ (y d : Int), 0 ≤ y → st y + d = day → 0 ≤ d → d.toNat ≤ n →
    ∃ y' m d', 0 ≤ y' ∧ y' ≤ 99999999 ∧ 1 ≤ m ∧ m ≤ 12 ∧ 0 ≤ d' ∧ d' < md y' m ∧ st y' + cum m + d' = day ∧ Ev (fun k => pentaglotref17_SolarDate.l0 k d 1 y 1 0 false) (1, y', m, d' + 1, false, 0) := by
  induction n with
  | zero =>
    intro y d h0 he hd hn
    obtain rfl : d = 0 := by omega
    have hyd := yd_bd y
    have hb := st_bd y h0
    obtain ⟨m', d', g1, g2, g3, g4, g5, g6⟩ := rmonths_loop y h0 12 1 0 (by omega) (by omega) (by omega) (by omega) (by rw [cum_one]; omega)
    rw [cum_one] at g5
    refine ⟨y, m', d', h0, by omega, g1, g2, g3, g4, by omega, Ev.step (f := fun k => (pentaglotref17_YearDays.f k y).bind fun t => if 0 ≥ t then ((pentaglotref17_YearDays.f k y).bind fun t => (pentaglotref17_SolarDate.l0 k (wrap64 (0 - t)) 1 (wrap64 (y + 1)) 1 0 false)) else pentaglotref17_SolarDate.l1 k 0 1 y 1 0 false) (fun k => rfl) ?_⟩
    refine Ev.bind (yearDays y h0) ?_
    refine Ev.congr (fun k => ?_) g6
    show ite _ _ _ = _
    rw [if_neg (by omega)]
  | succ n ih =>
    intro y d h0 he hd hn
    have hyd := yd_bd y
    have hb := st_bd y h0
    by_cases hc : yd y ≤ d
    · have hs := st_succ y h0
      obtain ⟨y', m', d', g1, g2, g3, g4, g5, g6, g7, g8⟩ := ih (y + 1) (d - yd y) (by omega) (by omega) (by omega) (by omega)
      refine ⟨y', m', d', g1, g2, g3, g4, g5, g6, g7, Ev.step (f := fun k => (pentaglotref17_YearDays.f k y).bind fun t => if d ≥ t then ((pentaglotref17_YearDays.f k y).bind fun t => (pentaglotref17_SolarDate.l0 k (wrap64 (d - t)) 1 (wrap64 (y + 1)) 1 0 false)) else pentaglotref17_SolarDate.l1 k d 1 y 1 0 false) (fun k => rfl) ?_⟩
      refine Ev.bind (yearDays y h0) ?_
      refine Ev.congr (f := fun k => (pentaglotref17_YearDays.f k y).bind fun t => (pentaglotref17_SolarDate.l0 k (wrap64 (d - t)) 1 (wrap64 (y + 1)) 1 0 false)) (fun k => ?_) ?_
      · show ite _ _ _ = _
        rw [if_pos (by omega)]
      · refine Ev.bind (yearDays y h0) ?_
        rw [w64 (x := d - yd y) (by omega) (by omega), w64 (x := y + 1) (by omega) (by omega)]
        exact g8
    · obtain ⟨m', d', g1, g2, g3, g4, g5, g6⟩ := rmonths_loop y h0 12 1 d (by omega) (by omega) (by omega) (by omega) (by rw [cum_one]; omega)
      rw [cum_one] at g5
      refine ⟨y, m', d', h0, by omega, g1, g2, g3, g4, by omega, Ev.step (f := fun k => (pentaglotref17_YearDays.f k y).bind fun t => if d ≥ t then ((pentaglotref17_YearDays.f k y).bind fun t => (pentaglotref17_SolarDate.l0 k (wrap64 (d - t)) 1 (wrap64 (y + 1)) 1 0 false)) else pentaglotref17_SolarDate.l1 k d 1 y 1 0 false) (fun k => rfl) ?_⟩
      refine Ev.bind (yearDays y h0) ?_
      refine Ev.congr (fun k => ?_) g6
      show ite _ _ _ = _
      rw [if_neg (by omega)]
/-- The reference's solar date of a day. -/
theorem rsolarDate (day : Int) (h0 : 0 ≤ day) (h1 : day ≤ 999999) :
    ∃ y m d, 0 ≤ y ∧ y ≤ 99999999 ∧ 1 ≤ m ∧ m ≤ 12 ∧ 0 ≤ d ∧ d < md y m ∧ st y + cum m + d = day ∧ Ev (fun k => pentaglotref17_SolarDate.f k day) (1, y, m, d + 1, false, 0) := by
  obtain ⟨y, m, d, g1, g2, g3, g4, g5, g6, g7, g8⟩ := ryears_loop day h1 day.toNat 0 day (by omega) (by rw [st_zero]; omega) h0 (Nat.le_refl _)
  refine ⟨y, m, d, g1, g2, g3, g4, g5, g6, g7, Ev.congr (fun k => ?_) g8⟩
  unfold pentaglotref17_SolarDate.f
  rw [if_neg (by omega), if_neg (by omega)]
end Go.Proofs.Ytifopbfedkmgoaa.Cal
