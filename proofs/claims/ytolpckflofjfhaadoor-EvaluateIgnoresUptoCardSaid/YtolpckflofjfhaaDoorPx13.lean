-- printed by wip/tools/xprint.py
import Derived.Test.YtolpckflofjfhaaDoorPx0
namespace Go.Proofs.YtolpckflofjfhaaDoor.P
open Go.RowKit Go.Proofs.YtolpckflofjfhaaDoorW.PrintWords Go.Proofs.YtolpckflofjfhaaDoorW.PrintLast Go.Proofs.YtolpckflofjfhaaDoorW.PrintMore
attribute [local go_sem] max2_int min2_int max_two min_two max_three min_three max_four min_four
set_option linter.unusedVariables false
set_option maxHeartbeats 8000000
set_option maxRecDepth 100000
set_option linter.unusedSimpArgs false

mutual
def pentaglotref26_Proper.l0 : Nat → Int → List (S73) → List Int → Int → Option (Bool)
 | 0, _, _, _, _ => none
 | k + 1, x3, x209000, x209001, x209002 => if x3 < (x209001.length : Int) then (if 0 ≤ x3 then (if (rd x209001 x3) < 0 then (some false) else (if (rd x209001 x3) > 1439999999 then (some false) else (if x3 > 0 then (if 0 ≤ (wrap64 (x3 - 1)) then (if (wrap64 (x3 - 1)) < (x209001.length : Int) then (if (rd x209001 x3) ≤ (rd x209001 (wrap64 (x3 - 1))) then (some false) else (pentaglotref26_Proper.l0 k (wrap64 (x3 + 1)) x209000 x209001 x209002)) else (none)) else (none)) else (pentaglotref26_Proper.l0 k (wrap64 (x3 + 1)) x209000 x209001 x209002)))) else (none)) else (pentaglotref26_Proper.l1 k 0 x209000 x209001 x209002)
def pentaglotref26_Proper.l1 : Nat → Int → List (S73) → List Int → Int → Option (Bool)
 | 0, _, _, _, _ => none
 | k + 1, x4, x209000, x209001, x209002 => if x4 < (x209000.length : Int) then (pentaglotref26_Proper.l2 k x4 0 x209000 x209001 x209002) else (if x209002 = 1 then (some true) else (some (x209002 == 2)))
def pentaglotref26_Proper.l2 : Nat → Int → Int → List (S73) → List Int → Int → Option (Bool)
 | 0, _, _, _, _, _ => none
 | k + 1, x4, x5, x209000, x209001, x209002 => if x5 < x4 then (if 0 ≤ x4 then (if x4 < (x209000.length : Int) then (if 0 ≤ x5 then (if x5 < (x209000.length : Int) then (if ((rd_T73 x209000 x4).f0).toList = ((rd_T73 x209000 x5).f0).toList then (some false) else (pentaglotref26_Proper.l2 k x4 (wrap64 (x5 + 1)) x209000 x209001 x209002)) else (none)) else (none)) else (none)) else (none)) else (pentaglotref26_Proper.l1 k (wrap64 (x4 + 1)) x209000 x209001 x209002)
end
def pentaglotref26_Proper.f (k : Nat) (l0_0 : List (S73)) (l0_1 : List Int) (a0_2 : Int) : Option (Bool) := pentaglotref26_Proper.l0 k 0 l0_0 l0_1 a0_2
theorem pentaglotref26_Proper.calls (k : Nat) (A0_0 : Option Addr) (c0_0 : Nat) (l0_0 : List (S73)) (A0_1 : Option Addr) (c0_1 : Nat) (l0_1 : List Int) (a0_2 : Int) (r : Bool) (w : World) (hr0_0 : Kd.C k73 w A0_0 l0_0.length l0_0) (hc0_0 : l0_0.length ≤ c0_0) (hr0_1 : Kd.C (Kd.int .i64) w A0_1 l0_1.length l0_1) (hc0_1 : l0_1.length ≤ c0_1) (h : pentaglotref26_Proper.f k l0_0 l0_1 a0_2 = some r) :
  Calls Tryd.prog 24 #[.agg #[.slice A0_0 l0_0.length c0_0, .slice A0_1 l0_1.length c0_1, .int .i64 a0_2]] w fun e w' => e = .returned (.bool r) ∧ Below w.heap.size w w' := by
 have hu25 := Tryd.underlying25
 have HR0_0 := mk_ hr0_0
 have HC0_0 := mk_ hc0_0
 clear hr0_0 hc0_0
 have HR0_1 := mk_ hr0_1
 have HC0_1 := mk_ hc0_1
 clear hr0_1 hc0_1
 have HB := mk_ (Below.refl w.heap.size w)
 have H : (pentaglotref26_Proper.l0 k 0 l0_0 l0_1 a0_2) = some r := h
 clear h
 have H' := mk_ H
 clear H
 go_enter Tryd.func24, Tryd.ntmps24
 go_wp2_with (first | ((with_reducible refine gate_dst (N := 1) rfl ?_); refine bx_ 1 #[.slice A0_0 l0_0.length c0_0, .slice A0_1 l0_1.length c0_1, .int .i64 a0_2] 25 ?_; intro gb208 hg w2 hbox hb; have BK208 := mk_ (hbox); have GW208 := mk_ (gs_ hg (be_ HB)); have GE208 := mk_ (gs_ hg (be_ HB)); replace HB := mk_ (below_step (be_ HB) hb); clear hb hbox hg))
 repeat (go_quiet (first | ((with_reducible refine gate_dst (N := 1) rfl ?_); refine bx_ 1 #[.slice A0_0 l0_0.length c0_0, .slice A0_1 l0_1.length c0_1, .int .i64 a0_2] 25 ?_; intro gb208 hg w2 hbox hb; have BK208 := mk_ (hbox); have GW208 := mk_ (gs_ hg (be_ HB)); have GE208 := mk_ (gs_ hg (be_ HB)); replace HB := mk_ (below_step (be_ HB) hb); clear hb hbox hg)); try go_wp2_with (first | ((with_reducible refine gate_dst (N := 1) rfl ?_); refine bx_ 1 #[.slice A0_0 l0_0.length c0_0, .slice A0_1 l0_1.length c0_1, .int .i64 a0_2] 25 ?_; intro gb208 hg w2 hbox hb; have BK208 := mk_ (hbox); have GW208 := mk_ (gs_ hg (be_ HB)); have GE208 := mk_ (gs_ hg (be_ HB)); replace HB := mk_ (below_step (be_ HB) hb); clear hb hbox hg)))
 go_loopg [3] k (fun kq v3 w' => ∃ (x3_1 : Int), v3 = .int .i64 x3_1 ∧ Aside0 (pentaglotref26_Proper.l0 kq x3_1 l0_0 l0_1 a0_2 = some r) ∧ Aside0 (kq ≤ k) ∧ Aside0 (w'.heap[gb208]? = some (.cells #[(.slice A0_0 l0_0.length c0_0), (.slice A0_1 l0_1.length c0_1), .int .i64 a0_2] 25 (0, 0))) ∧ Aside0 (Below w.heap.size w w'))
 case atStart => exact ⟨(0), fi_, H', ⟨Nat.le_refl _⟩, ⟨bq_ BK208⟩, ⟨be1_ HB GE208⟩⟩
 case round =>
  clear H'
  obtain ⟨x3_1, rfl, HA, HK1, BK208, HB⟩ := hrel
  cases gk with
  | zero => exact absurd HA.out (by simp [pentaglotref26_Proper.l0])
  | succ k1 =>
   have H := HA.out
   clear HA
   simp only [pentaglotref26_Proper.l0] at H
   by_cases c3 : x3_1 < (l0_1.length : Int)
   ·rw [if_pos c3] at H
    have c3b0 : decide (x3_1 < (l0_1.length : Int)) = true := decide_eq_true c3
    clear c3
    by_cases c4 : 0 ≤ x3_1
    ·rw [if_pos c4] at H
     have c4b0 : decide (0 ≤ x3_1) = true := decide_eq_true c4
     clear c4
     by_cases c5 : (rd l0_1 x3_1) < 0
     ·rw [if_pos c5] at H
      have c5b0 : decide ((rd l0_1 x3_1) < 0) = true := decide_eq_true c5
      clear c5
      obtain rfl := Option.some.inj H
      obtain ⟨_, _, _, _, _, _⟩ := hb3_ BK208
      have p209 : 0 ≤ (x3_1 : Int) := of_decide_eq_true (by first | (with_reducible assumption) | assumption)
      have q209 : x3_1 < (l0_1.length : Int) := of_decide_eq_true (by first | (with_reducible assumption) | assumption)
      obtain ⟨ad209, e209, hx209_0⟩ := Kd.at_int HR0_1.out x3_1 p209 q209
      cases e209
      replace hx209_0 := cb_ HB hx209_0
      replace p209 := eq_true p209
      replace q209 := eq_true q209
      go_wp2
      repeat (go_quiet (fail); try go_wp2)
      go_ret
      exact ⟨er_, be1_ HB GE208⟩
     ·rw [if_neg c5] at H
      have c5b0 : decide ((rd l0_1 x3_1) < 0) = false := decide_eq_false c5
      clear c5
      by_cases c7 : (rd l0_1 x3_1) > 1439999999
      ·rw [if_pos c7] at H
       have c7b0 : decide (1439999999 < (rd l0_1 x3_1)) = true := decide_eq_true c7
       clear c7
       obtain rfl := Option.some.inj H
       obtain ⟨_, _, _, _, _, _⟩ := hb3_ BK208
       have p209 : 0 ≤ (x3_1 : Int) := of_decide_eq_true (by first | (with_reducible assumption) | assumption)
       have q209 : x3_1 < (l0_1.length : Int) := of_decide_eq_true (by first | (with_reducible assumption) | assumption)
       obtain ⟨ad209, e209, hx209_0⟩ := Kd.at_int HR0_1.out x3_1 p209 q209
       cases e209
       replace hx209_0 := cb_ HB hx209_0
       replace p209 := eq_true p209
       replace q209 := eq_true q209
       have p210 : 0 ≤ (x3_1 : Int) := of_decide_eq_true (by first | (with_reducible assumption) | assumption)
       have q210 : x3_1 < (l0_1.length : Int) := of_decide_eq_true (by first | (with_reducible assumption) | assumption)
       obtain ⟨ad210, e210, hx210_0⟩ := Kd.at_int HR0_1.out x3_1 p210 q210
       obtain rfl : ad209 = ad210 := (by injection e210)
       replace hx210_0 := cb_ HB hx210_0
       replace p210 := eq_true p210
       replace q210 := eq_true q210
       go_wp2
       repeat (go_quiet (fail); try go_wp2)
       go_ret
       exact ⟨er_, be1_ HB GE208⟩
      ·rw [if_neg c7] at H
       have c7b0 : decide (1439999999 < (rd l0_1 x3_1)) = false := decide_eq_false c7
       clear c7
       by_cases c9 : x3_1 > 0
       ·rw [if_pos c9] at H
        have c9b0 : decide (0 < x3_1) = true := decide_eq_true c9
        clear c9
        obtain ⟨ji10, hji10⟩ : ∃ j_ : Int, (wrap64 (x3_1 - 1)) = j_ := ⟨_, rfl⟩
        replace H : (if 0 ≤ (ji10) then (if (ji10) < (l0_1.length : Int) then (if (rd l0_1 x3_1) ≤ (rd l0_1 (ji10)) then (some false) else (pentaglotref26_Proper.l0 k1 (wrap64 (x3_1 + 1)) l0_0 l0_1 a0_2)) else (none)) else (none)) = some r := by first | (rw [hji10] at H; exact H) | (simp only [hji10] at H ⊢; exact H)
        have hji10w : (IntKind.i64.wrap (x3_1 - 1)) = ji10 := (i64_w _).trans hji10
        by_cases c11 : 0 ≤ (ji10)
        ·rw [if_pos c11] at H
         have c11b0 : decide (0 ≤ (ji10)) = true := decide_eq_true c11
         clear c11
         by_cases c12 : (ji10) < (l0_1.length : Int)
         ·rw [if_pos c12] at H
          have c12b0 : decide ((ji10) < (l0_1.length : Int)) = true := decide_eq_true c12
          clear c12
          by_cases c13 : (rd l0_1 x3_1) ≤ (rd l0_1 (ji10))
          ·rw [if_pos c13] at H
           have c13b0 : decide ((rd l0_1 x3_1) ≤ (rd l0_1 (ji10))) = true := decide_eq_true c13
           clear c13
           obtain rfl := Option.some.inj H
           obtain ⟨_, _, _, _, _, _⟩ := hb3_ BK208
           have p209 : 0 ≤ (x3_1 : Int) := of_decide_eq_true (by first | (with_reducible assumption) | assumption)
           have q209 : x3_1 < (l0_1.length : Int) := of_decide_eq_true (by first | (with_reducible assumption) | assumption)
           obtain ⟨ad209, e209, hx209_0⟩ := Kd.at_int HR0_1.out x3_1 p209 q209
           cases e209
           replace hx209_0 := cb_ HB hx209_0
           replace p209 := eq_true p209
           replace q209 := eq_true q209
           have p210 : 0 ≤ (x3_1 : Int) := of_decide_eq_true (by first | (with_reducible assumption) | assumption)
           have q210 : x3_1 < (l0_1.length : Int) := of_decide_eq_true (by first | (with_reducible assumption) | assumption)
           obtain ⟨ad210, e210, hx210_0⟩ := Kd.at_int HR0_1.out x3_1 p210 q210
           obtain rfl : ad209 = ad210 := (by injection e210)
           replace hx210_0 := cb_ HB hx210_0
           replace p210 := eq_true p210
           replace q210 := eq_true q210
           have p211 : 0 ≤ (x3_1 : Int) := of_decide_eq_true (by first | (with_reducible assumption) | assumption)
           have q211 : x3_1 < (l0_1.length : Int) := of_decide_eq_true (by first | (with_reducible assumption) | assumption)
           obtain ⟨ad211, e211, hx211_0⟩ := Kd.at_int HR0_1.out x3_1 p211 q211
           obtain rfl : ad209 = ad211 := (by injection e211)
           replace hx211_0 := cb_ HB hx211_0
           replace p211 := eq_true p211
           replace q211 := eq_true q211
           have p212 : 0 ≤ ((ji10) : Int) := of_decide_eq_true (by first | (with_reducible assumption) | assumption)
           have q212 : (ji10) < (l0_1.length : Int) := of_decide_eq_true (by first | (with_reducible assumption) | assumption)
           obtain ⟨ad212, e212, hx212_0⟩ := Kd.at_int HR0_1.out (ji10) p212 q212
           obtain rfl : ad209 = ad212 := (by injection e212)
           replace hx212_0 := cb_ HB hx212_0
           replace p212 := eq_true p212
           replace q212 := eq_true q212
           go_wp2
           repeat (go_quiet (fail); try go_wp2)
           go_ret
           exact ⟨by first | rfl | (simp [errW_none, errW_some] <;> rfl) | (simp only [← hji10]; first | rfl | (simp [errW_none, errW_some] <;> rfl)) | (simp [*, errW_none, errW_some] <;> rfl), be1_ HB GE208⟩
          ·rw [if_neg c13] at H
           have c13b0 : decide ((rd l0_1 x3_1) ≤ (rd l0_1 (ji10))) = false := decide_eq_false c13
           clear c13
           have H' := mk_ H
           clear H
           obtain ⟨_, _, _, _, _, _⟩ := hb3_ BK208
           have p209 : 0 ≤ (x3_1 : Int) := of_decide_eq_true (by first | (with_reducible assumption) | assumption)
           have q209 : x3_1 < (l0_1.length : Int) := of_decide_eq_true (by first | (with_reducible assumption) | assumption)
           obtain ⟨ad209, e209, hx209_0⟩ := Kd.at_int HR0_1.out x3_1 p209 q209
           cases e209
           replace hx209_0 := cb_ HB hx209_0
           replace p209 := eq_true p209
           replace q209 := eq_true q209
           have p210 : 0 ≤ (x3_1 : Int) := of_decide_eq_true (by first | (with_reducible assumption) | assumption)
           have q210 : x3_1 < (l0_1.length : Int) := of_decide_eq_true (by first | (with_reducible assumption) | assumption)
           obtain ⟨ad210, e210, hx210_0⟩ := Kd.at_int HR0_1.out x3_1 p210 q210
           obtain rfl : ad209 = ad210 := (by injection e210)
           replace hx210_0 := cb_ HB hx210_0
           replace p210 := eq_true p210
           replace q210 := eq_true q210
           have p211 : 0 ≤ (x3_1 : Int) := of_decide_eq_true (by first | (with_reducible assumption) | assumption)
           have q211 : x3_1 < (l0_1.length : Int) := of_decide_eq_true (by first | (with_reducible assumption) | assumption)
           obtain ⟨ad211, e211, hx211_0⟩ := Kd.at_int HR0_1.out x3_1 p211 q211
           obtain rfl : ad209 = ad211 := (by injection e211)
           replace hx211_0 := cb_ HB hx211_0
           replace p211 := eq_true p211
           replace q211 := eq_true q211
           have p212 : 0 ≤ ((ji10) : Int) := of_decide_eq_true (by first | (with_reducible assumption) | assumption)
           have q212 : (ji10) < (l0_1.length : Int) := of_decide_eq_true (by first | (with_reducible assumption) | assumption)
           obtain ⟨ad212, e212, hx212_0⟩ := Kd.at_int HR0_1.out (ji10) p212 q212
           obtain rfl : ad209 = ad212 := (by injection e212)
           replace hx212_0 := cb_ HB hx212_0
           replace p212 := eq_true p212
           replace q212 := eq_true q212
           go_wp2
           repeat (go_quiet (fail); try go_wp2)
           go_roundg k1
           case measure => have := HK1.out; omega
           case rel => exact ⟨(wrap64 (x3_1 + 1)), fi_, H', ⟨by have := HK1.out; omega⟩, ⟨bq_ BK208⟩, ⟨be1_ HB GE208⟩⟩
         ·rw [if_neg c12] at H
          exact absurd H (by simp)
        ·rw [if_neg c11] at H
         exact absurd H (by simp)
       ·rw [if_neg c9] at H
        have c9b0 : decide (0 < x3_1) = false := decide_eq_false c9
        clear c9
        have H' := mk_ H
        clear H
        obtain ⟨_, _, _, _, _, _⟩ := hb3_ BK208
        have p209 : 0 ≤ (x3_1 : Int) := of_decide_eq_true (by first | (with_reducible assumption) | assumption)
        have q209 : x3_1 < (l0_1.length : Int) := of_decide_eq_true (by first | (with_reducible assumption) | assumption)
        obtain ⟨ad209, e209, hx209_0⟩ := Kd.at_int HR0_1.out x3_1 p209 q209
        cases e209
        replace hx209_0 := cb_ HB hx209_0
        replace p209 := eq_true p209
        replace q209 := eq_true q209
        have p210 : 0 ≤ (x3_1 : Int) := of_decide_eq_true (by first | (with_reducible assumption) | assumption)
        have q210 : x3_1 < (l0_1.length : Int) := of_decide_eq_true (by first | (with_reducible assumption) | assumption)
        obtain ⟨ad210, e210, hx210_0⟩ := Kd.at_int HR0_1.out x3_1 p210 q210
        obtain rfl : ad209 = ad210 := (by injection e210)
        replace hx210_0 := cb_ HB hx210_0
        replace p210 := eq_true p210
        replace q210 := eq_true q210
        go_wp2
        repeat (go_quiet (fail); try go_wp2)
        go_roundg k1
        case measure => have := HK1.out; omega
        case rel => exact ⟨(wrap64 (x3_1 + 1)), fi_, H', ⟨by have := HK1.out; omega⟩, ⟨bq_ BK208⟩, ⟨be1_ HB GE208⟩⟩
    ·rw [if_neg c4] at H
     exact absurd H (by simp)
   ·rw [if_neg c3] at H
    have c3b0 : decide (x3_1 < (l0_1.length : Int)) = false := decide_eq_false c3
    clear c3
    have H' := mk_ H
    clear H
    obtain ⟨_, _, _, _, _, _⟩ := hb3_ BK208
    go_wp2
    repeat (go_quiet (fail); try go_wp2)
    go_loopg [4] k1 (fun kq v4 w' => ∃ (x4_2 : Int), v4 = .int .i64 x4_2 ∧ Aside0 (pentaglotref26_Proper.l1 kq x4_2 l0_0 l0_1 a0_2 = some r) ∧ Aside0 (kq ≤ k1) ∧ Aside0 (w'.heap[gb208]? = some (.cells #[(.slice A0_0 l0_0.length c0_0), (.slice A0_1 l0_1.length c0_1), .int .i64 a0_2] 25 (0, 0))) ∧ Aside0 (Below w.heap.size w w'))
    case atStart => exact ⟨(0), fi_, H', ⟨Nat.le_refl _⟩, ⟨bq_ BK208⟩, ⟨be1_ HB GE208⟩⟩
    case round =>
     clear H'
     obtain ⟨x4_2, rfl, HA, HK2, BK208, HB⟩ := hrel
     cases gk with
     | zero => exact absurd HA.out (by simp [pentaglotref26_Proper.l1])
     | succ k2 =>
      have H := HA.out
      clear HA
      simp only [pentaglotref26_Proper.l1] at H
      by_cases c18 : x4_2 < (l0_0.length : Int)
      ·rw [if_pos c18] at H
       have c18b0 : decide (x4_2 < (l0_0.length : Int)) = true := decide_eq_true c18
       clear c18
       have H' := mk_ H
       clear H
       obtain ⟨_, _, _, _, _, _⟩ := hb3_ BK208
       go_wp2
       repeat (go_quiet (fail); try go_wp2)
       go_loopg [5] k2 (fun kq v5 w' => ∃ (x5_3 : Int), v5 = .int .i64 x5_3 ∧ Aside0 (pentaglotref26_Proper.l2 kq x4_2 x5_3 l0_0 l0_1 a0_2 = some r) ∧ Aside0 (kq ≤ k2) ∧ Aside0 (w'.heap[gb208]? = some (.cells #[(.slice A0_0 l0_0.length c0_0), (.slice A0_1 l0_1.length c0_1), .int .i64 a0_2] 25 (0, 0))) ∧ Aside0 (Below w.heap.size w w'))
       case atStart => exact ⟨(0), fi_, H', ⟨Nat.le_refl _⟩, ⟨bq_ BK208⟩, ⟨be1_ HB GE208⟩⟩
       case round =>
        clear H'
        obtain ⟨x5_3, rfl, HA, HK3, BK208, HB⟩ := hrel
        cases gk with
        | zero => exact absurd HA.out (by simp [pentaglotref26_Proper.l2])
        | succ k3 =>
         have H := HA.out
         clear HA
         simp only [pentaglotref26_Proper.l2] at H
         by_cases c20 : x5_3 < x4_2
         ·rw [if_pos c20] at H
          have c20b0 : decide (x5_3 < x4_2) = true := decide_eq_true c20
          clear c20
          by_cases c21 : 0 ≤ x4_2
          ·rw [if_pos c21] at H
           have c21b0 : decide (0 ≤ x4_2) = true := decide_eq_true c21
           clear c21
           by_cases c22 : x4_2 < (l0_0.length : Int)
           ·rw [if_pos c22] at H
            have c22b0 : decide (x4_2 < (l0_0.length : Int)) = true := decide_eq_true c22
            clear c22
            by_cases c23 : 0 ≤ x5_3
            ·rw [if_pos c23] at H
             have c23b0 : decide (0 ≤ x5_3) = true := decide_eq_true c23
             clear c23
             by_cases c24 : x5_3 < (l0_0.length : Int)
             ·rw [if_pos c24] at H
              have c24b0 : decide (x5_3 < (l0_0.length : Int)) = true := decide_eq_true c24
              clear c24
              by_cases c25 : ((rd_T73 l0_0 x4_2).f0).toList = ((rd_T73 l0_0 x5_3).f0).toList
              ·rw [if_pos c25] at H
               obtain ⟨c25b0, c25b1⟩ := eb_ c25
               clear c25
               obtain rfl := Option.some.inj H
               obtain ⟨_, _, _, _, _, _⟩ := hb3_ BK208
               have p213 : 0 ≤ (x4_2 : Int) := of_decide_eq_true (by first | (with_reducible assumption) | assumption)
               have q213 : x4_2 < (l0_0.length : Int) := of_decide_eq_true (by first | (with_reducible assumption) | assumption)
               obtain ⟨ad213, A213_1, c213_1, e213, hx213_0, hx213_1, hl213_1, hi213_1⟩ := at_T73 HR0_0.out x4_2 p213 q213
               cases e213
               replace hx213_0 := cb_ HB hx213_0
               replace hx213_1 := cb_ HB hx213_1
               have HR213_1 := mk_ hi213_1
               have HC213_1 := mk_ hl213_1
               clear hi213_1 hl213_1
               replace p213 := eq_true p213
               replace q213 := eq_true q213
               have p214 : 0 ≤ (x5_3 : Int) := of_decide_eq_true (by first | (with_reducible assumption) | assumption)
               have q214 : x5_3 < (l0_0.length : Int) := of_decide_eq_true (by first | (with_reducible assumption) | assumption)
               obtain ⟨ad214, A214_1, c214_1, e214, hx214_0, hx214_1, hl214_1, hi214_1⟩ := at_T73 HR0_0.out x5_3 p214 q214
               obtain rfl : ad213 = ad214 := (by injection e214)
               replace hx214_0 := cb_ HB hx214_0
               replace hx214_1 := cb_ HB hx214_1
               have HR214_1 := mk_ hi214_1
               have HC214_1 := mk_ hl214_1
               clear hi214_1 hl214_1
               replace p214 := eq_true p214
               replace q214 := eq_true q214
               go_wp2
               repeat (go_quiet (fail); try go_wp2)
               go_ret
               exact ⟨er_, be1_ HB GE208⟩
              ·rw [if_neg c25] at H
               obtain ⟨c25b0, c25b1⟩ := en_ c25
               have H' := mk_ H
               clear H
               obtain ⟨_, _, _, _, _, _⟩ := hb3_ BK208
               have p213 : 0 ≤ (x4_2 : Int) := of_decide_eq_true (by first | (with_reducible assumption) | assumption)
               have q213 : x4_2 < (l0_0.length : Int) := of_decide_eq_true (by first | (with_reducible assumption) | assumption)
               obtain ⟨ad213, A213_1, c213_1, e213, hx213_0, hx213_1, hl213_1, hi213_1⟩ := at_T73 HR0_0.out x4_2 p213 q213
               cases e213
               replace hx213_0 := cb_ HB hx213_0
               replace hx213_1 := cb_ HB hx213_1
               have HR213_1 := mk_ hi213_1
               have HC213_1 := mk_ hl213_1
               clear hi213_1 hl213_1
               replace p213 := eq_true p213
               replace q213 := eq_true q213
               have p214 : 0 ≤ (x5_3 : Int) := of_decide_eq_true (by first | (with_reducible assumption) | assumption)
               have q214 : x5_3 < (l0_0.length : Int) := of_decide_eq_true (by first | (with_reducible assumption) | assumption)
               obtain ⟨ad214, A214_1, c214_1, e214, hx214_0, hx214_1, hl214_1, hi214_1⟩ := at_T73 HR0_0.out x5_3 p214 q214
               obtain rfl : ad213 = ad214 := (by injection e214)
               replace hx214_0 := cb_ HB hx214_0
               replace hx214_1 := cb_ HB hx214_1
               have HR214_1 := mk_ hi214_1
               have HC214_1 := mk_ hl214_1
               clear hi214_1 hl214_1
               replace p214 := eq_true p214
               replace q214 := eq_true q214
               go_wp2
               repeat (go_quiet (fail); try go_wp2)
               go_roundg k3
               case measure => have := HK1.out; have := HK2.out; have := HK3.out; omega
               case rel => exact ⟨(wrap64 (x5_3 + 1)), fi_, H', ⟨by have := HK1.out; have := HK2.out; have := HK3.out; omega⟩, ⟨bq_ BK208⟩, ⟨be1_ HB GE208⟩⟩
             ·rw [if_neg c24] at H
              exact absurd H (by simp)
            ·rw [if_neg c23] at H
             exact absurd H (by simp)
           ·rw [if_neg c22] at H
            exact absurd H (by simp)
          ·rw [if_neg c21] at H
           exact absurd H (by simp)
         ·rw [if_neg c20] at H
          have c20b0 : decide (x5_3 < x4_2) = false := decide_eq_false c20
          clear c20
          have H' := mk_ H
          clear H
          go_wp2
          repeat (go_quiet (fail); try go_wp2)
          go_roundg k3
          case measure => have := HK1.out; have := HK2.out; have := HK3.out; omega
          case rel => exact ⟨(wrap64 (x4_2 + 1)), fi_, H', ⟨by have := HK1.out; have := HK2.out; have := HK3.out; omega⟩, ⟨bq_ BK208⟩, ⟨be1_ HB GE208⟩⟩
      ·rw [if_neg c18] at H
       have c18b0 : decide (x4_2 < (l0_0.length : Int)) = false := decide_eq_false c18
       clear c18
       by_cases c28 : a0_2 = 1
       ·rw [if_pos c28] at H
        obtain ⟨c28b0, c28b1⟩ := eb_ c28
        clear c28
        obtain rfl := Option.some.inj H
        obtain ⟨_, _, _, _, _, _⟩ := hb3_ BK208
        go_wp2
        repeat (go_quiet (fail); try go_wp2)
        go_ret
        exact ⟨er_, be1_ HB GE208⟩
       ·rw [if_neg c28] at H
        obtain ⟨c28b0, c28b1⟩ := en_ c28
        obtain rfl := Option.some.inj H
        obtain ⟨_, _, _, _, _, _⟩ := hb3_ BK208
        go_wp2
        repeat (go_quiet (fail); try go_wp2)
        go_ret
        exact ⟨er_, be1_ HB GE208⟩

end Go.Proofs.YtolpckflofjfhaaDoor.P
