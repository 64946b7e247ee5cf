/- Plain facts on the calendar's printed functions: the days before a year, leap years, lengths of months, the solar date of a day, and that the chapter's examples hold. -/
import Derived.Test.YtifopbfedkmgoaaPx2
namespace Go.Proofs.Ytifopbfedkmgoaa.Cal
set_option linter.unusedVariables false
set_option linter.unusedSimpArgs false
open Go.RowKit Go.Proofs.Ytifopbfedkmgoaa.P Go.Proofs.YtifopbfedkmgoaaW.PrintWords Go.Proofs.YtifopbfedkmgoaaW.PrintLast

theorem w64 {x : Int} (h0 : -9223372036854775808 ≤ x) (h1 : x ≤ 9223372036854775807) : wrap64 x = x := by unfold wrap64; omega
theorem wf_lo {x : Int} (h : (Lit.int .i64 x).wf = true) : -9223372036854775808 ≤ x ∧ x ≤ 9223372036854775807 := by
  simp [Lit.wf, IntKind.min, IntKind.max, IntKind.signed, IntKind.bits] at h
  omega
theorem tm {a b : Int} (h : 0 ≤ a) : Int.tmod a b = a % b := Int.tmod_eq_emod_of_nonneg h
theorem td {a b : Int} (h : 0 ≤ a) : Int.tdiv a b = a / b := Int.tdiv_eq_ediv_of_nonneg h

/-- Is a year a leap year. -/
def lp (y : Int) : Bool := decide (0 ≤ y) && decide (y % 4 = 0) && decide (¬ y % 128 = 0)
theorem lp_iff (y : Int) : lp y = true ↔ 0 ≤ y ∧ y % 4 = 0 ∧ ¬ y % 128 = 0 := by unfold lp; simp [and_assoc]
theorem leap (y : Int) : calendar_Leap.f y = some (lp y) := by
  unfold calendar_Leap.f
  by_cases h : y ≥ 0
  · rw [if_pos h, tm h, tm h]
    by_cases h4 : y % 4 = 0
    · rw [if_pos h4]; simp [lp, h, h4, bne]
      by_cases h128 : y % 128 = 0 <;> simp [h128]
    · rw [if_neg h4]; simp [lp, h4]
  · rw [if_neg h]; simp [lp]; intro h'; omega
/-- The days before a year. -/
def st (y : Int) : Int := 365 * y + (y + 3) / 4 - (y + 127) / 128
theorem start (y : Int) (h0 : 0 ≤ y) (h1 : y ≤ 100000000) : calendar_start.f y = some (st y) := by
  unfold calendar_start.f st
  rw [w64 (x := y + 3) (by omega) (by omega), w64 (x := y + 127) (by omega) (by omega), td (by omega), td (by omega),
    w64 (x := 365 * y) (by omega) (by omega), w64 (x := (y + 3) / 4) (by omega) (by omega), w64 (x := (y + 127) / 128) (by omega) (by omega),
    w64 (x := 365 * y + (y + 3) / 4) (by omega) (by omega), w64 (by omega) (by omega)]
/-- The days of a year. -/
def yd (y : Int) : Int := if lp y = true then 366 else 365
theorem yd_bd (y : Int) : 365 ≤ yd y ∧ yd y ≤ 366 := by unfold yd; split <;> omega
theorem st_succ (y : Int) (h : 0 ≤ y) : st (y + 1) = st y + yd y := by
  unfold st yd
  by_cases h1 : lp y = true
  · rw [if_pos h1]; rw [lp_iff] at h1; omega
  · rw [if_neg h1]; rw [lp_iff] at h1; omega
theorem st_bd (y : Int) (h : 0 ≤ y) : 365 * y ≤ st y ∧ st y ≤ 366 * y := by unfold st; omega
theorem st_mono (a b : Int) (h0 : 0 ≤ a) (h : a ≤ b) : st a ≤ st b := by unfold st; omega
theorem st_zero : st 0 = 0 := by decide
theorem yearStart (y : Int) (h0 : 0 ≤ y) : calendar_YearStart.f y = some (if y ≤ 999999 ∧ st y ≤ 999999 then (st y, 0) else (0, 2)) := by
  unfold calendar_YearStart.f
  rw [if_neg (by omega)]
  by_cases h1 : y > 999999
  · rw [if_pos h1, if_neg (by omega)]
  · rw [if_neg h1, start y h0 (by omega)]
    simp only [Option.bind_some]
    by_cases h2 : st y > 999999
    · rw [if_pos h2, if_neg (by omega)]
    · rw [if_neg h2, if_pos (by omega)]
theorem yearStart_neg (y : Int) (h0 : y < 0) : calendar_YearStart.f y = some (0, 1) := by
  unfold calendar_YearStart.f
  rw [if_pos h0]
/-- The length of a month. -/
def md (y m : Int) : Int := if y < 0 then 0 else if m < 1 then 0 else if m > 12 then 0 else if m = 12 then (if lp y = true then 30 else 29) else if m % 2 = 1 then 31 else 30
theorem monthDays (y m : Int) : calendar_MonthDays.f y m = some (md y m) := by
  unfold calendar_MonthDays.f md
  rw [leap]
  simp only [Option.bind_some]
  split
  · rfl
  · split
    · rfl
    · split
      · rfl
      · split <;> rfl
theorem md_in (y m : Int) (h0 : 0 ≤ y) (h1 : 1 ≤ m) (h2 : m ≤ 12) : md y m = if m = 12 then (if lp y = true then 30 else 29) else if m % 2 = 1 then 31 else 30 := by
  unfold md; rw [if_neg (by omega), if_neg (by omega), if_neg (by omega)]
theorem md_bd (y m : Int) : 0 ≤ md y m ∧ md y m ≤ 31 := by
  unfold md
  split
  · omega
  · split
    · omega
    · split
      · omega
      · split
        · split <;> omega
        · split <;> omega
theorem md_pos (y m : Int) (h0 : 0 ≤ y) (h1 : 1 ≤ m) (h2 : m ≤ 12) : 29 ≤ md y m := by
  rw [md_in y m h0 h1 h2]
  split
  · split <;> omega
  · split <;> omega
/-- The days of a year before a month. -/
def cum (m : Int) : Int := 30 * (m - 1) + m / 2
theorem cum_succ (y m : Int) (h0 : 0 ≤ y) (h1 : 1 ≤ m) (h2 : m ≤ 11) : cum (m + 1) = cum m + md y m := by
  rw [md_in y m h0 h1 (by omega), if_neg (by omega)]
  unfold cum
  split <;> omega
theorem cum_12 (y : Int) (h0 : 0 ≤ y) : cum 12 + md y 12 = yd y := by
  rw [md_in y 12 h0 (by omega) (by omega), if_pos rfl]
  unfold yd
  split <;> decide
theorem cum_bd (m : Int) (h1 : 1 ≤ m) (h2 : m ≤ 12) : 0 ≤ cum m ∧ cum m ≤ 336 := by unfold cum; omega
theorem cum_one : cum 1 = 0 := by decide

/-- The months' loop of SolarDate. -/
theorem months_loop (y : Int) (h0 : 0 ≤ y) (n : Nat) : ∀ (m d : Int), 1 ≤ m → m ≤ 12 → (12 - m).toNat ≤ n → 0 ≤ d → cum m + d < yd y →
    ∃ m' d', 1 ≤ m' ∧ m' ≤ 12 ∧ 0 ≤ d' ∧ d' < md y m' ∧ cum m' + d' = cum m + d ∧ Ev (fun k => calendar_SolarDate.l1 k d y m) (1, y, m', d' + 1, false, 0) := by
  induction n with
  | zero =>
    intro m d h1 h2 hn hd hlt
    obtain rfl : m = 12 := by omega
    have h12 := cum_12 y h0
    have hb := md_bd y 12
    refine ⟨12, d, by omega, by omega, hd, by omega, rfl, Ev.step (f := fun _ => some (1, y, 12, d + 1, false, 0)) (fun k => ?_) (Ev.now _)⟩
    simp only [calendar_SolarDate.l1, monthDays, Option.bind_some]
    rw [if_neg (by omega), w64 (by omega) (by omega)]
  | succ n ih =>
    intro m d h1 h2 hn hd hlt
    have hb := md_bd y m
    have hy := yd_bd y
    by_cases hc : md y m ≤ d
    · have hm : m ≤ 11 := by
        by_cases e : m = 12
        · subst e; have := cum_12 y h0; omega
        · omega
      have hs := cum_succ y m h0 h1 hm
      have hcb := cum_bd m h1 h2
      obtain ⟨m', d', g1, g2, g3, g4, g5, g6⟩ := ih (m + 1) (d - md y m) (by omega) (by omega) (by omega) (by omega) (by omega)
      refine ⟨m', d', g1, g2, g3, g4, by omega, Ev.step (f := fun k => calendar_SolarDate.l1 k (d - md y m) y (m + 1)) (fun k => ?_) g6⟩
      simp only [calendar_SolarDate.l1, monthDays, Option.bind_some]
      rw [if_pos (by omega), w64 (x := d - md y m) (by omega) (by omega), w64 (x := m + 1) (by omega) (by omega)]
    · have hcb := cum_bd m h1 h2
      refine ⟨m, d, h1, h2, hd, by omega, rfl, Ev.step (f := fun _ => some (1, y, m, d + 1, false, 0)) (fun k => ?_) (Ev.now _)⟩
      simp only [calendar_SolarDate.l1, monthDays, Option.bind_some]
      rw [if_neg (by omega), w64 (by omega) (by omega)]
/-- The years' loop of SolarDate. -/
theorem years_loop (day : Int) (hd : 0 ≤ day) (hd2 : day ≤ 999999) (n : Nat) : ∀ (y : Int), 0 ≤ y → y ≤ 99999999 → y.toNat ≤ n → day < st (y + 1) →
    ∃ y' m d, 0 ≤ y' ∧ y' ≤ 99999999 ∧ 1 ≤ m ∧ m ≤ 12 ∧ 0 ≤ d ∧ d < md y' m ∧ st y' + cum m + d = day ∧ Ev (fun k => calendar_SolarDate.l0 k day y) (1, y', m, d + 1, false, 0) := by
  induction n with
  | zero =>
    intro y h0 h1 hn hlt
    obtain rfl : y = 0 := by omega
    have hs := st_succ 0 (by omega)
    rw [st_zero] at hs
    obtain ⟨m', d', g1, g2, g3, g4, g5, g6⟩ := months_loop 0 (by omega) 12 1 day (by omega) (by omega) (by omega) hd (by rw [cum_one]; omega)
    refine ⟨0, m', d', by omega, by omega, g1, g2, g3, g4, by rw [st_zero]; rw [cum_one] at g5; omega, Ev.step (f := fun k => calendar_SolarDate.l1 k day 0 1) (fun k => ?_) g6⟩
    simp only [calendar_SolarDate.l0]
    rw [start 0 (by omega) (by omega), st_zero]; simp only [Option.bind_some]
    rw [if_neg (by omega), w64 (by omega) (by omega), Int.sub_zero]
  | succ n ih =>
    intro y h0 h1 hn hlt
    have hbd := st_bd y h0
    by_cases hc : day < st y
    · have hy : 1 ≤ y := by
        by_cases e : y = 0
        · subst e; rw [st_zero] at hc; omega
        · omega
      obtain ⟨y', m, d, g1, g2, g3, g4, g5, g6, g7, g8⟩ := ih (y - 1) (by omega) (by omega) (by omega) (by rw [show y - 1 + 1 = y by omega]; exact hc)
      refine ⟨y', m, d, g1, g2, g3, g4, g5, g6, g7, Ev.step (f := fun k => calendar_SolarDate.l0 k day (y - 1)) (fun k => ?_) g8⟩
      simp only [calendar_SolarDate.l0]
      rw [start y h0 (by omega)]; simp only [Option.bind_some]
      rw [if_pos (by omega), w64 (by omega) (by omega)]
    · have hs := st_succ y h0
      obtain ⟨m', d', g1, g2, g3, g4, g5, g6⟩ := months_loop y h0 12 1 (day - st y) (by omega) (by omega) (by omega) (by omega) (by rw [cum_one]; omega)
      rw [cum_one] at g5
      refine ⟨y, m', d', h0, h1, g1, g2, g3, g4, by omega, Ev.step (f := fun k => calendar_SolarDate.l1 k (day - st y) y 1) (fun k => ?_) g6⟩
      simp only [calendar_SolarDate.l0]
      rw [start y h0 (by omega)]; simp only [Option.bind_some]
      rw [if_neg (by omega), w64 (by omega) (by omega)]
theorem check (d : Int) : calendar_check.f d = some (if d < 0 then 1 else if d > 999999 then 2 else 0) := by
  unfold calendar_check.f
  split
  · rfl
  · split <;> rfl
/-- THE SOLAR DATE OF A DAY. -/
theorem solarDate (day : Int) (h0 : 0 ≤ day) (h1 : day ≤ 999999) :
    ∃ y m d, 0 ≤ y ∧ y ≤ 99999999 ∧ 1 ≤ m ∧ m ≤ 12 ∧ 0 ≤ d ∧ d < md y m ∧ st y + cum m + d = day ∧ Ev (fun k => calendar_SolarDate.f k day) (1, y, m, d + 1, false, 0) := by
  have hbd := st_bd (day / 365 + 1) (by omega)
  obtain ⟨y, m, d, g1, g2, g3, g4, g5, g6, g7, g8⟩ := years_loop day h0 h1 (day / 365).toNat (day / 365) (by omega) (by omega) (Nat.le_refl _) (by omega)
  refine ⟨y, m, d, g1, g2, g3, g4, g5, g6, g7, Ev.congr (f := fun k => calendar_SolarDate.l0 k day (day / 365)) (fun k => ?_) g8⟩
  unfold calendar_SolarDate.f
  rw [check, if_neg (by omega), if_neg (by omega), td h0, w64 (by omega) (by omega)]
  rfl
theorem solarDate_neg (day : Int) (h0 : day < 0) (k : Nat) : calendar_SolarDate.f k day = some (0, 0, 0, 0, false, 1) := by
  unfold calendar_SolarDate.f
  rw [check, if_pos h0]; rfl
theorem solarDate_big (day : Int) (h0 : day > 999999) (k : Nat) : calendar_SolarDate.f k day = some (0, 0, 0, 0, false, 2) := by
  unfold calendar_SolarDate.f
  rw [check, if_neg (by omega), if_pos h0]; rfl
/-- One day has one date. -/
theorem date_unique (y m d y' m' d' : Int) (h0 : 0 ≤ y) (h0' : 0 ≤ y') (h1 : 1 ≤ m) (h2 : m ≤ 12) (h3 : 0 ≤ d) (h4 : d < md y m) (h1' : 1 ≤ m') (h2' : m' ≤ 12) (h3' : 0 ≤ d') (h4' : d' < md y' m')
    (he : st y + cum m + d = st y' + cum m' + d') : y = y' ∧ m = m' ∧ d = d' := by
  have key : ∀ (y m d : Int), 0 ≤ y → 1 ≤ m → m ≤ 12 → d < md y m → cum m + d < yd y := by
    intro y m d h0 h1 h2 h4
    by_cases e : m = 12
    · subst e; have := cum_12 y h0; omega
    · have hs := cum_succ y m h0 h1 (by omega)
      have hc : cum (m + 1) ≤ 336 := (cum_bd (m + 1) (by omega) (by omega)).2
      have := yd_bd y
      omega
  have k1 := key y m d h0 h1 h2 h4
  have k2 := key y' m' d' h0' h1' h2' h4'
  have b1 := cum_bd m h1 h2
  have b2 := cum_bd m' h1' h2'
  have ey : y = y' := by
    rcases Int.lt_trichotomy y y' with h | h | h
    · have := st_succ y h0; have := st_mono (y + 1) y' (by omega) (by omega); omega
    · exact h
    · have := st_succ y' h0'; have := st_mono (y' + 1) y (by omega) (by omega); omega
  subst ey
  have cm : ∀ a b : Int, a ≤ b → cum a ≤ cum b := by intro a b h; unfold cum; omega
  have em : m = m' := by
    rcases Int.lt_trichotomy m m' with h | h | h
    · have := cum_succ y m h0 h1 (by omega); have := cm (m + 1) m' (by omega); omega
    · exact h
    · have := cum_succ y m' h0 h1' (by omega); have := cm (m' + 1) m (by omega); omega
  subst em
  exact ⟨rfl, rfl, by omega⟩
/-- The examples hold. -/
theorem awake : Ev (fun k => pentaglotlaw17_awake.f k) true := Ev.of (pentaglotlaw17_awake.mono) (k := 40) (by decide +kernel)
end Go.Proofs.Ytifopbfedkmgoaa.Cal
