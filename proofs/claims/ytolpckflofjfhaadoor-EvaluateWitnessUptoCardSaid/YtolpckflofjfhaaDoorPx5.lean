import Derived.Test.YtolpckflofjfhaaDoorPx0
import Derived.Test.YtolpckflofjfhaaDoorPx4
namespace Go.Proofs.YtolpckflofjfhaaDoor.P
open Go.RowKit Go.Proofs.YtolpckflofjfhaaDoorW.PrintWords Go.Proofs.YtolpckflofjfhaaDoorW.PrintLast Go.Proofs.YtolpckflofjfhaaDoorW.PrintMore
attribute [local go_sem] max2_int min2_int max_two min_two max_three min_three max_four min_four
set_option linter.unusedVariables false
set_option maxHeartbeats 8000000
set_option maxRecDepth 100000
set_option linter.unusedSimpArgs false
def slices_BinarySearch_int_int.l0 : Nat → List Int → Int → Int → Int → Int → Option (Int × Bool)
 | 0, _, _, _, _, _ => none
 | k + 1, x0, x1, x6, x7, x8 => if x7 < x8 then (if 0 ≤ (wrap64 ((IntKind.u64.wrap (wrap64 (x7 + x8))) / 2)) then (if (wrap64 ((IntKind.u64.wrap (wrap64 (x7 + x8))) / 2)) < (x0.length : Int) then ((cmp_Less_int.f (rd x0 (wrap64 ((IntKind.u64.wrap (wrap64 (x7 + x8))) / 2))) x1).bind fun t138 => (if t138 = true then (slices_BinarySearch_int_int.l0 k x0 x1 x6 (wrap64 ((wrap64 ((IntKind.u64.wrap (wrap64 (x7 + x8))) / 2)) + 1)) x8) else (slices_BinarySearch_int_int.l0 k x0 x1 x6 x7 (wrap64 ((IntKind.u64.wrap (wrap64 (x7 + x8))) / 2))))) else (none)) else (none)) else (if x7 < x6 then (if 0 ≤ x7 then (if x7 < (x0.length : Int) then (if (rd x0 x7) = x1 then (some (x7, true)) else ((slices_isNaN_int.f (rd x0 x7)).bind fun t141 => (if t141 = true then ((slices_isNaN_int.f x1).bind fun t142 => (some (x7, t142))) else (some (x7, false))))) else (none)) else (none)) else (some (x7, false)))
def slices_BinarySearch_int_int.f (k : Nat) (l0 : List Int) (a1 : Int) : Option (Int × Bool) := slices_BinarySearch_int_int.l0 k l0 a1 (l0.length : Int) 0 (l0.length : Int)
theorem slices_BinarySearch_int_int.calls (k : Nat) (A0 : Option Addr) (c0 : Nat) (l0 : List Int) (a1 : Int) (r1 : Int) (r2 : Bool) (w : World) (hr0 : Kd.C (Kd.int .i64) w A0 l0.length l0) (hc0 : l0.length ≤ c0) (h : slices_BinarySearch_int_int.f k l0 a1 = some (r1, r2)) :
  Calls Tryd.prog 60 #[.slice A0 l0.length c0, .int .i64 a1] w fun e w' => e = .returned (.tuple #[.int .i64 r1, .bool r2]) ∧ Drawn0 w w' := by
 have HR0 := mk_ hr0; have HC0 := mk_ hc0; clear hr0 hc0
 have H : (slices_BinarySearch_int_int.l0 k l0 a1 (l0.length : Int) 0 (l0.length : Int)) = some (r1, r2) := h
 clear h
 have H' := mk_ H
 clear H
 go_enter Tryd.func60, Tryd.ntmps60
 go_wp2
 go_loopg [7, 8] k (fun kq v7 v8 w' => ∃ (x7_1 : Int) (x8_1 : Int), v7 = .int .i64 x7_1 ∧ v8 = .int .i64 x8_1 ∧ Aside0 (slices_BinarySearch_int_int.l0 kq l0 a1 (l0.length : Int) x7_1 x8_1 = some (r1, r2)) ∧ Aside0 (kq ≤ k) ∧ Drawn0 w w')
 case atStart => exact ⟨(0), ((l0.length : Int)), fi_, fi_, H', ⟨Nat.le_refl _⟩, by repeat (first | exact Drawn0.refl _ | apply Drawn0.step)⟩
 case round =>
  clear H'
  obtain ⟨x7_1, x8_1, rfl, rfl, HA, HK1, ⟨m1, rfl⟩⟩ := hrel
  cases gk with
  | zero => exact absurd HA.out (by simp [slices_BinarySearch_int_int.l0])
  | succ k1 =>
   have H := HA.out
   clear HA
   simp only [slices_BinarySearch_int_int.l0] at H
   by_cases c3 : x7_1 < x8_1
   ·rw [if_pos c3] at H
    have c3b0 : decide (x7_1 < x8_1) = true := decide_eq_true c3
    clear c3
    obtain ⟨ji4, hji4⟩ : ∃ j_ : Int, (wrap64 ((IntKind.u64.wrap (wrap64 (x7_1 + x8_1))) / 2)) = j_ := ⟨_, rfl⟩
    replace H : (if 0 ≤ (ji4) then (if (ji4) < (l0.length : Int) then ((cmp_Less_int.f (rd l0 (ji4)) a1).bind fun t138 => (if t138 = true then (slices_BinarySearch_int_int.l0 k1 l0 a1 (l0.length : Int) (wrap64 ((ji4) + 1)) x8_1) else (slices_BinarySearch_int_int.l0 k1 l0 a1 (l0.length : Int) x7_1 ji4))) else (none)) else (none)) = some (r1, r2) := by first | (rw [hji4] at H; exact H) | (simp only [hji4] at H ⊢; exact H)
    have hji4w : (IntKind.i64.wrap ((IntKind.u64.wrap (wrap64 (x7_1 + x8_1))) / 2)) = ji4 := (i64_w _).trans hji4
    by_cases c5 : 0 ≤ (ji4)
    ·rw [if_pos c5] at H
     have c5b0 : decide (0 ≤ (ji4)) = true := decide_eq_true c5
     clear c5
     by_cases c6 : (ji4) < (l0.length : Int)
     ·rw [if_pos c6] at H
      have c6b0 : decide ((ji4) < (l0.length : Int)) = true := decide_eq_true c6
      clear c6
      replace H := Option.bind_eq_some_iff.mp H
      obtain ⟨t138, A70, H⟩ := H
      replace H : (if t138 = true then (slices_BinarySearch_int_int.l0 k1 l0 a1 (l0.length : Int) (wrap64 ((ji4) + 1)) x8_1) else (slices_BinarySearch_int_int.l0 k1 l0 a1 (l0.length : Int) x7_1 ji4)) = some (r1, r2) := H
      have A7 := mk_ A70
      clear A70
      by_cases c8 : t138 = true
      ·subst c8
       rw [if_pos rfl] at H
       have H' := mk_ H
       clear H
       have p137 : 0 ≤ ((ji4) : Int) := of_decide_eq_true (by first | (with_reducible assumption) | assumption)
       have q137 : (ji4) < (l0.length : Int) := of_decide_eq_true (by first | (with_reducible assumption) | assumption)
       obtain ⟨ad137, e137, hx137_0⟩ := Kd.at_int HR0.out (ji4) p137 q137
       cases e137
       replace p137 := eq_true p137
       replace q137 := eq_true q137
       go_wp2_with (first | ((with_reducible refine gate_callee (f := 68) rfl ?_); refine goesL_ (some 27) rfl rfl Tryd.func68 (by kernel_rfl) rfl #[.int .i64 (rd l0 (ji4)), .int .i64 a1] rfl (by (try simp only [List.map_toArray, List.map_cons, List.map_nil]); first | done | (simp only [hji4]; rfl) | rfl | (simp only [List.length_drop, List.length_take]; rfl)) ?_; (with_reducible refine (cmp_Less_int.calls (rd l0 (ji4)) a1 true _ A7.out).mono ?_); rintro e w' ⟨rfl, ⟨nd, rfl⟩⟩; refine ⟨_, rfl, ?_⟩))
       go_roundg k1
       case measure => have := HK1.out; omega
       case rel => exact ⟨(wrap64 ((ji4) + 1)), (x8_1), (by first | rfl | (simp; done) | (simp only [← hji4] <;> (first | rfl | simp)) | (simp [*]; done)), fi_, H', ⟨by have := HK1.out; omega⟩, by repeat (first | exact Drawn0.refl _ | apply Drawn0.step)⟩
      ·replace c8 := Bool.eq_false_iff.mpr c8
       subst c8
       rw [if_neg nf_] at H
       have H' := mk_ H
       clear H
       have p137 : 0 ≤ ((ji4) : Int) := of_decide_eq_true (by first | (with_reducible assumption) | assumption)
       have q137 : (ji4) < (l0.length : Int) := of_decide_eq_true (by first | (with_reducible assumption) | assumption)
       obtain ⟨ad137, e137, hx137_0⟩ := Kd.at_int HR0.out (ji4) p137 q137
       cases e137
       replace p137 := eq_true p137
       replace q137 := eq_true q137
       go_wp2_with (first | ((with_reducible refine gate_callee (f := 68) rfl ?_); refine goesL_ (some 27) rfl rfl Tryd.func68 (by kernel_rfl) rfl #[.int .i64 (rd l0 (ji4)), .int .i64 a1] rfl (by (try simp only [List.map_toArray, List.map_cons, List.map_nil]); first | done | (simp only [hji4]; rfl) | rfl | (simp only [List.length_drop, List.length_take]; rfl)) ?_; (with_reducible refine (cmp_Less_int.calls (rd l0 (ji4)) a1 false _ A7.out).mono ?_); rintro e w' ⟨rfl, ⟨nd, rfl⟩⟩; refine ⟨_, rfl, ?_⟩))
       go_roundg k1
       case measure => have := HK1.out; omega
       case rel => exact ⟨(x7_1), (ji4), fi_, (by first | rfl | (simp; done) | (simp only [← hji4] <;> (first | rfl | simp)) | (simp [*]; done)), H', ⟨by have := HK1.out; omega⟩, by repeat (first | exact Drawn0.refl _ | apply Drawn0.step)⟩
     ·rw [if_neg c6] at H
      exact absurd H (by simp)
    ·rw [if_neg c5] at H
     exact absurd H (by simp)
   ·rw [if_neg c3] at H
    have c3b0 : decide (x7_1 < x8_1) = false := decide_eq_false c3
    clear c3
    by_cases c9 : x7_1 < (l0.length : Int)
    ·rw [if_pos c9] at H
     have c9b0 : decide (x7_1 < (l0.length : Int)) = true := decide_eq_true c9
     clear c9
     by_cases c10 : 0 ≤ x7_1
     ·rw [if_pos c10] at H
      have c10b0 : decide (0 ≤ x7_1) = true := decide_eq_true c10
      clear c10
      by_cases c11 : x7_1 < (l0.length : Int)
      ·rw [if_pos c11] at H
       have c11b0 : decide (x7_1 < (l0.length : Int)) = true := decide_eq_true c11
       clear c11
       by_cases c12 : (rd l0 x7_1) = a1
       ·rw [if_pos c12] at H
        obtain ⟨c12b0, c12b1⟩ := eb_ c12
        clear c12
        simp only [Option.some.injEq, Prod.mk.injEq] at H
        obtain ⟨rfl, rfl⟩ := H
        have p139 : 0 ≤ (x7_1 : Int) := of_decide_eq_true (by first | (with_reducible assumption) | assumption)
        have q139 : x7_1 < (l0.length : Int) := of_decide_eq_true (by first | (with_reducible assumption) | assumption)
        obtain ⟨ad139, e139, hx139_0⟩ := Kd.at_int HR0.out x7_1 p139 q139
        cases e139
        replace p139 := eq_true p139
        replace q139 := eq_true q139
        go_wp2
        go_ret2
        exact ⟨by first | rfl | (simp [pw_isEmpty]; done) | (simp; done) | (simp [*]; done), by repeat (first | exact Drawn0.refl _ | apply Drawn0.step)⟩
       ·rw [if_neg c12] at H
        obtain ⟨c12b0, c12b1⟩ := en_ c12
        replace H := Option.bind_eq_some_iff.mp H
        obtain ⟨t141, A130, H⟩ := H
        replace H : (if t141 = true then ((slices_isNaN_int.f a1).bind fun t142 => (some (x7_1, t142))) else (some (x7_1, false))) = some (r1, r2) := H
        have A13 := mk_ A130
        clear A130
        by_cases c14 : t141 = true
        ·subst c14
         rw [if_pos rfl] at H
         replace H := Option.bind_eq_some_iff.mp H
         obtain ⟨t142, A150, H⟩ := H
         replace H : (some (x7_1, t142)) = some (r1, r2) := H
         have A15 := mk_ A150
         clear A150
         simp only [Option.some.injEq, Prod.mk.injEq] at H
         obtain ⟨rfl, rfl⟩ := H
         have p139 : 0 ≤ (x7_1 : Int) := of_decide_eq_true (by first | (with_reducible assumption) | assumption)
         have q139 : x7_1 < (l0.length : Int) := of_decide_eq_true (by first | (with_reducible assumption) | assumption)
         obtain ⟨ad139, e139, hx139_0⟩ := Kd.at_int HR0.out x7_1 p139 q139
         cases e139
         replace p139 := eq_true p139
         replace q139 := eq_true q139
         have p140 : 0 ≤ (x7_1 : Int) := of_decide_eq_true (by first | (with_reducible assumption) | assumption)
         have q140 : x7_1 < (l0.length : Int) := of_decide_eq_true (by first | (with_reducible assumption) | assumption)
         obtain ⟨ad140, e140, hx140_0⟩ := Kd.at_int HR0.out x7_1 p140 q140
         obtain rfl : ad139 = ad140 := (by injection e140)
         replace p140 := eq_true p140
         replace q140 := eq_true q140
         go_wp2_with (first | (go_at_call 69; (with_reducible refine (slices_isNaN_int.calls (rd l0 x7_1) true _ A13.out).mono ?_); rintro e w' ⟨rfl, ⟨nd, rfl⟩⟩) | (go_at_call 69; (with_reducible refine (slices_isNaN_int.calls a1 t142 _ A15.out).mono ?_); rintro e w' ⟨rfl, ⟨nd, rfl⟩⟩))
         go_ret2
         exact ⟨by first | rfl | (simp [pw_isEmpty]; done) | (simp; done) | (simp [*]; done), by repeat (first | exact Drawn0.refl _ | apply Drawn0.step)⟩
        ·replace c14 := Bool.eq_false_iff.mpr c14
         subst c14
         rw [if_neg nf_] at H
         simp only [Option.some.injEq, Prod.mk.injEq] at H
         obtain ⟨rfl, rfl⟩ := H
         have p139 : 0 ≤ (x7_1 : Int) := of_decide_eq_true (by first | (with_reducible assumption) | assumption)
         have q139 : x7_1 < (l0.length : Int) := of_decide_eq_true (by first | (with_reducible assumption) | assumption)
         obtain ⟨ad139, e139, hx139_0⟩ := Kd.at_int HR0.out x7_1 p139 q139
         cases e139
         replace p139 := eq_true p139
         replace q139 := eq_true q139
         have p140 : 0 ≤ (x7_1 : Int) := of_decide_eq_true (by first | (with_reducible assumption) | assumption)
         have q140 : x7_1 < (l0.length : Int) := of_decide_eq_true (by first | (with_reducible assumption) | assumption)
         obtain ⟨ad140, e140, hx140_0⟩ := Kd.at_int HR0.out x7_1 p140 q140
         obtain rfl : ad139 = ad140 := (by injection e140)
         replace p140 := eq_true p140
         replace q140 := eq_true q140
         go_wp2_with (first | (go_at_call 69; (with_reducible refine (slices_isNaN_int.calls (rd l0 x7_1) false _ A13.out).mono ?_); rintro e w' ⟨rfl, ⟨nd, rfl⟩⟩))
         go_ret2
         exact ⟨by first | rfl | (simp [pw_isEmpty]; done) | (simp; done) | (simp [*]; done), by repeat (first | exact Drawn0.refl _ | apply Drawn0.step)⟩
      ·rw [if_neg c11] at H
       exact absurd H (by simp)
     ·rw [if_neg c10] at H
      exact absurd H (by simp)
    ·rw [if_neg c9] at H
     have c9b0 : decide (x7_1 < (l0.length : Int)) = false := decide_eq_false c9
     clear c9
     simp only [Option.some.injEq, Prod.mk.injEq] at H
     obtain ⟨rfl, rfl⟩ := H
     go_wp2
     go_ret2
     exact ⟨by first | rfl | (simp [pw_isEmpty]; done) | (simp; done) | (simp [*]; done), by repeat (first | exact Drawn0.refl _ | apply Drawn0.step)⟩
def evaluate_interval.j0 : Nat → Int → Int → Int → List (S73) → List Int → Int → Option (Int × Int × Bool)
 | 0, _, _, _, _, _, _ => none
 | k + 1, x2, x9, x10, x144000, x144001, x144002 => if x2 = (-1) then (some (x9, mx x9 x10, true)) else ((slices_BinarySearch_int_int.f k x144001 x2).bind fun bt146 => (if bt146.2 = true then (some (x9, mx x9 (wrap64 ((wrap64 (2 * bt146.1)) + 1)), true)) else (some (0, 0, false))))
def evaluate_interval.f (k : Nat) (l0_0 : List (S73)) (l0_1 : List Int) (a0_2 : Int) (a1 : Int) (a2 : Int) : Option (Int × Int × Bool) := if a1 = (-1) then (evaluate_interval.j0 k a2 0 (wrap64 ((wrap64 (2 * (l0_1.length : Int))) + 1)) l0_0 l0_1 a0_2) else ((slices_BinarySearch_int_int.f k l0_1 a1).bind fun bt144 => (if bt144.2 = true then (evaluate_interval.j0 k a2 (wrap64 ((wrap64 (2 * bt144.1)) + 1)) (wrap64 ((wrap64 (2 * (l0_1.length : Int))) + 1)) l0_0 l0_1 a0_2) else (some (0, 0, false))))
theorem evaluate_interval.calls (k : Nat) (A0_0 : Option Addr) (c0_0 : Nat) (l0_0 : List (S73)) (A0_1 : Option Addr) (c0_1 : Nat) (l0_1 : List Int) (a0_2 : Int) (a1 : Int) (a2 : Int) (r1 : Int) (r2 : Int) (r3 : Bool) (w : World) (hr0_0 : Kd.C k73 w A0_0 l0_0.length l0_0) (hc0_0 : l0_0.length ≤ c0_0) (hr0_1 : Kd.C (Kd.int .i64) w A0_1 l0_1.length l0_1) (hc0_1 : l0_1.length ≤ c0_1) (h : evaluate_interval.f k l0_0 l0_1 a0_2 a1 a2 = some (r1, r2, r3)) :
  Calls Tryd.prog 45 #[.agg #[.slice A0_0 l0_0.length c0_0, .slice A0_1 l0_1.length c0_1, .int .i64 a0_2], .int .i64 a1, .int .i64 a2] w fun e w' => e = .returned (.tuple #[.int .i64 r1, .int .i64 r2, .bool r3]) ∧ Below w.heap.size w w' := by
 have hu25 := Tryd.underlying25
 have HR0_0 := mk_ hr0_0; have HC0_0 := mk_ hc0_0; clear hr0_0 hc0_0
 have HR0_1 := mk_ hr0_1; have HC0_1 := mk_ hc0_1; clear hr0_1 hc0_1
 have HB := mk_ (Below.refl w.heap.size w)
 have H : (if a1 = (-1) then (evaluate_interval.j0 k a2 0 (wrap64 ((wrap64 (2 * (l0_1.length : Int))) + 1)) l0_0 l0_1 a0_2) else ((slices_BinarySearch_int_int.f k l0_1 a1).bind fun bt144 => (if bt144.2 = true then (evaluate_interval.j0 k a2 (wrap64 ((wrap64 (2 * bt144.1)) + 1)) (wrap64 ((wrap64 (2 * (l0_1.length : Int))) + 1)) l0_0 l0_1 a0_2) else (some (0, 0, false))))) = some (r1, r2, r3) := h
 clear h
 have HC4 := mk_ H
 clear H
 go_enter Tryd.func45, Tryd.ntmps45
 go_upto_if 21 with (first | ((with_reducible refine gate_dst (N := 3) rfl ?_); refine bx_ 3 #[.slice A0_0 l0_0.length c0_0, .slice A0_1 l0_1.length c0_1, .int .i64 a0_2] 25 ?_; intro gb143 hg w5 hbox hb; have BK143 := mk_ (hbox); have GW143 := mk_ (gs_ hg (be_ HB)); have GE143 := mk_ (gs_ hg (be_ HB)); replace HB := mk_ (below_step (be_ HB) hb); clear hb hbox hg; obtain ⟨_, _, _, _, _, _⟩ := hb3_ BK143))
 repeat (go_quiet (first | ((with_reducible refine gate_dst (N := 3) rfl ?_); refine bx_ 3 #[.slice A0_0 l0_0.length c0_0, .slice A0_1 l0_1.length c0_1, .int .i64 a0_2] 25 ?_; intro gb143 hg w5 hbox hb; have BK143 := mk_ (hbox); have GW143 := mk_ (gs_ hg (be_ HB)); have GE143 := mk_ (gs_ hg (be_ HB)); replace HB := mk_ (below_step (be_ HB) hb); clear hb hbox hg; obtain ⟨_, _, _, _, _, _⟩ := hb3_ BK143)); go_upto_if 21 with (first | ((with_reducible refine gate_dst (N := 3) rfl ?_); refine bx_ 3 #[.slice A0_0 l0_0.length c0_0, .slice A0_1 l0_1.length c0_1, .int .i64 a0_2] 25 ?_; intro gb143 hg w5 hbox hb; have BK143 := mk_ (hbox); have GW143 := mk_ (gs_ hg (be_ HB)); have GE143 := mk_ (gs_ hg (be_ HB)); replace HB := mk_ (below_step (be_ HB) hb); clear hb hbox hg; obtain ⟨_, _, _, _, _, _⟩ := hb3_ BK143)))
 (try simp only [Act.put, List.setIfInBounds_toArray, List.set_cons_zero, List.set_cons_succ])
 go_cut [9] (fun v9 wc => ∃ (kq : Nat) (x9_3 : Int), v9 = .int .i64 x9_3 ∧ Aside0 (evaluate_interval.j0 kq a2 x9_3 (wrap64 ((wrap64 (2 * (l0_1.length : Int))) + 1)) l0_0 l0_1 a0_2 = some (r1, r2, r3)) ∧ Aside0 (kq ≤ k) ∧ Aside0 (wc.heap[gb143]? = some (.cells #[(.slice A0_0 l0_0.length c0_0), (.slice A0_1 l0_1.length c0_1), .int .i64 a0_2] 25 (0, 0))) ∧ Aside0 (Below w.heap.size w wc))
 case first =>
  have H := HC4.out
  clear HC4
  by_cases c7 : a1 = (-1)
  ·rw [if_pos c7] at H
   obtain ⟨c7b0, c7b1⟩ := eb_ c7
   clear c7
   (first | rw [c7b0] | (simp only [i64_w, i32_w]; rw [c7b0]) | skip)
   have H' := mk_ H
   clear H
   go_wp2
   repeat (go_quiet (fail); try go_wp2)
   go_meet
   case rel => exact ⟨_, (0), fi_, H', ⟨by first | omega | exact Nat.le_refl _⟩, ⟨bq_ BK143⟩, ⟨be1_ HB GE143⟩⟩
  ·rw [if_neg c7] at H
   obtain ⟨c7b0, c7b1⟩ := en_ c7
   (first | rw [c7b0] | (simp only [i64_w, i32_w]; rw [c7b0]) | skip)
   replace H := Option.bind_eq_some_iff.mp H
   obtain ⟨⟨t144, t145⟩, A80, H⟩ := H
   replace H : (if t145 = true then (evaluate_interval.j0 k a2 (wrap64 ((wrap64 (2 * t144)) + 1)) (wrap64 ((wrap64 (2 * (l0_1.length : Int))) + 1)) l0_0 l0_1 a0_2) else (some (0, 0, false))) = some (r1, r2, r3) := H
   have A8 := mk_ A80
   clear A80
   by_cases c9 : t145 = true
   ·subst c9
    rw [if_pos rfl] at H
    have H' := mk_ H
    clear H
    obtain ⟨_, _, _, _, _, _⟩ := hb3_ BK143
    go_wp2_with (first | (go_at_call 60; (with_reducible refine (slices_BinarySearch_int_int.calls k _ _ l0_1 a1 t144 true _ ?side1 ?side2 A8.out).mono ?_); (case side1 => exact cs_ (Kd.C_below HR0_1.out HB.out)); (case side2 => exact HC0_1.out); rintro e w' ⟨rfl, ⟨nd, rfl⟩⟩; (try first | exact ⟨rfl, _, World.drewN_drewN _ _ _⟩ | exact ⟨rfl, _, Eq.trans (World.drewN_drewN _ _ _) (congrArg (World.drewN _) (Nat.add_assoc _ _ _))⟩)))
    repeat (go_quiet (first | (go_at_call 60; (with_reducible refine (slices_BinarySearch_int_int.calls k _ _ l0_1 a1 t144 true _ ?side1 ?side2 A8.out).mono ?_); (case side1 => exact cs_ (Kd.C_below HR0_1.out HB.out)); (case side2 => exact HC0_1.out); rintro e w' ⟨rfl, ⟨nd, rfl⟩⟩; (try first | exact ⟨rfl, _, World.drewN_drewN _ _ _⟩ | exact ⟨rfl, _, Eq.trans (World.drewN_drewN _ _ _) (congrArg (World.drewN _) (Nat.add_assoc _ _ _))⟩))); try go_wp2_with (first | (go_at_call 60; (with_reducible refine (slices_BinarySearch_int_int.calls k _ _ l0_1 a1 t144 true _ ?side1 ?side2 A8.out).mono ?_); (case side1 => exact cs_ (Kd.C_below HR0_1.out HB.out)); (case side2 => exact HC0_1.out); rintro e w' ⟨rfl, ⟨nd, rfl⟩⟩; (try first | exact ⟨rfl, _, World.drewN_drewN _ _ _⟩ | exact ⟨rfl, _, Eq.trans (World.drewN_drewN _ _ _) (congrArg (World.drewN _) (Nat.add_assoc _ _ _))⟩))))
    go_meet
    case rel => exact ⟨_, (wrap64 ((wrap64 (2 * t144)) + 1)), fi_, H', ⟨by first | omega | exact Nat.le_refl _⟩, ⟨bq_ BK143⟩, ⟨be1_ HB GE143⟩⟩
   ·replace c9 := Bool.eq_false_iff.mpr c9
    subst c9
    rw [if_neg nf_] at H
    simp only [Option.some.injEq, Prod.mk.injEq] at H
    obtain ⟨rfl, rfl, rfl⟩ := H
    obtain ⟨_, _, _, _, _, _⟩ := hb3_ BK143
    go_wp2_with (first | (go_at_call 60; (with_reducible refine (slices_BinarySearch_int_int.calls k _ _ l0_1 a1 t144 false _ ?side1 ?side2 A8.out).mono ?_); (case side1 => exact cs_ (Kd.C_below HR0_1.out HB.out)); (case side2 => exact HC0_1.out); rintro e w' ⟨rfl, ⟨nd, rfl⟩⟩; (try first | exact ⟨rfl, _, World.drewN_drewN _ _ _⟩ | exact ⟨rfl, _, Eq.trans (World.drewN_drewN _ _ _) (congrArg (World.drewN _) (Nat.add_assoc _ _ _))⟩)))
    repeat (go_quiet (first | (go_at_call 60; (with_reducible refine (slices_BinarySearch_int_int.calls k _ _ l0_1 a1 t144 false _ ?side1 ?side2 A8.out).mono ?_); (case side1 => exact cs_ (Kd.C_below HR0_1.out HB.out)); (case side2 => exact HC0_1.out); rintro e w' ⟨rfl, ⟨nd, rfl⟩⟩; (try first | exact ⟨rfl, _, World.drewN_drewN _ _ _⟩ | exact ⟨rfl, _, Eq.trans (World.drewN_drewN _ _ _) (congrArg (World.drewN _) (Nat.add_assoc _ _ _))⟩))); try go_wp2_with (first | (go_at_call 60; (with_reducible refine (slices_BinarySearch_int_int.calls k _ _ l0_1 a1 t144 false _ ?side1 ?side2 A8.out).mono ?_); (case side1 => exact cs_ (Kd.C_below HR0_1.out HB.out)); (case side2 => exact HC0_1.out); rintro e w' ⟨rfl, ⟨nd, rfl⟩⟩; (try first | exact ⟨rfl, _, World.drewN_drewN _ _ _⟩ | exact ⟨rfl, _, Eq.trans (World.drewN_drewN _ _ _) (congrArg (World.drewN _) (Nat.add_assoc _ _ _))⟩))))
    go_ret3
    exact ⟨er_, be1_ HB GE143⟩
 case rest =>
  clear HC4
  obtain ⟨kq, x9_3, rfl, HA, HJ3, BK143, HB⟩ := hcut
  cases kq with
  | zero => exact absurd HA.out (by simp [evaluate_interval.j0])
  | succ kj3 =>
   have H := HA.out
   clear HA
   simp only [evaluate_interval.j0] at H
   by_cases c12 : a2 = (-1)
   ·rw [if_pos c12] at H
    obtain ⟨c12b0, c12b1⟩ := eb_ c12
    clear c12
    obtain ⟨ji13, hji13⟩ : ∃ j_ : Int, (mx x9_3 (wrap64 ((wrap64 (2 * (l0_1.length : Int))) + 1))) = j_ := ⟨_, rfl⟩
    replace H : (some (x9_3, ji13, true)) = some (r1, r2, r3) := by first | (rw [hji13] at H; exact H) | (simp only [hji13] at H ⊢; exact H)
    have hji13_ : (if x9_3 < (wrap64 ((wrap64 (2 * (l0_1.length : Int))) + 1)) then (wrap64 ((wrap64 (2 * (l0_1.length : Int))) + 1)) else x9_3) = ji13 := hji13
    simp only [Option.some.injEq, Prod.mk.injEq] at H
    obtain ⟨rfl, rfl, rfl⟩ := H
    go_wp2
    repeat (go_quiet (fail); try go_wp2)
    go_ret3
    exact ⟨by first | rfl | (simp [errW_none, errW_some] <;> rfl) | (simp only [← hji13]; first | rfl | (simp [errW_none, errW_some] <;> rfl)) | (simp [*, errW_none, errW_some] <;> rfl), be1_ HB GE143⟩
   ·rw [if_neg c12] at H
    obtain ⟨c12b0, c12b1⟩ := en_ c12
    replace H := Option.bind_eq_some_iff.mp H
    obtain ⟨⟨t146, t147⟩, A140, H⟩ := H
    replace H : (if t147 = true then (some (x9_3, mx x9_3 (wrap64 ((wrap64 (2 * t146)) + 1)), true)) else (some (0, 0, false))) = some (r1, r2, r3) := H
    have A14 := mk_ A140
    clear A140
    by_cases c15 : t147 = true
    ·subst c15
     rw [if_pos rfl] at H
     obtain ⟨ji16, hji16⟩ : ∃ j_ : Int, (mx x9_3 (wrap64 ((wrap64 (2 * t146)) + 1))) = j_ := ⟨_, rfl⟩
     replace H : (some (x9_3, ji16, true)) = some (r1, r2, r3) := by first | (rw [hji16] at H; exact H) | (simp only [hji16] at H ⊢; exact H)
     (try rw [hji16] at A14)
     have hji16_ : (if x9_3 < (wrap64 ((wrap64 (2 * t146)) + 1)) then (wrap64 ((wrap64 (2 * t146)) + 1)) else x9_3) = ji16 := hji16
     simp only [Option.some.injEq, Prod.mk.injEq] at H
     obtain ⟨rfl, rfl, rfl⟩ := H
     obtain ⟨_, _, _, _, _, _⟩ := hb3_ BK143
     go_wp2_with (first | (go_at_call 60; (with_reducible refine (slices_BinarySearch_int_int.calls kj3 _ _ l0_1 a2 t146 true _ ?side1 ?side2 A14.out).mono ?_); (case side1 => exact cs_ (Kd.C_below HR0_1.out HB.out)); (case side2 => exact HC0_1.out); rintro e w' ⟨rfl, ⟨nd, rfl⟩⟩; (try first | exact ⟨rfl, _, World.drewN_drewN _ _ _⟩ | exact ⟨rfl, _, Eq.trans (World.drewN_drewN _ _ _) (congrArg (World.drewN _) (Nat.add_assoc _ _ _))⟩)))
     repeat (go_quiet (first | (go_at_call 60; (with_reducible refine (slices_BinarySearch_int_int.calls kj3 _ _ l0_1 a2 t146 true _ ?side1 ?side2 A14.out).mono ?_); (case side1 => exact cs_ (Kd.C_below HR0_1.out HB.out)); (case side2 => exact HC0_1.out); rintro e w' ⟨rfl, ⟨nd, rfl⟩⟩; (try first | exact ⟨rfl, _, World.drewN_drewN _ _ _⟩ | exact ⟨rfl, _, Eq.trans (World.drewN_drewN _ _ _) (congrArg (World.drewN _) (Nat.add_assoc _ _ _))⟩))); try go_wp2_with (first | (go_at_call 60; (with_reducible refine (slices_BinarySearch_int_int.calls kj3 _ _ l0_1 a2 t146 true _ ?side1 ?side2 A14.out).mono ?_); (case side1 => exact cs_ (Kd.C_below HR0_1.out HB.out)); (case side2 => exact HC0_1.out); rintro e w' ⟨rfl, ⟨nd, rfl⟩⟩; (try first | exact ⟨rfl, _, World.drewN_drewN _ _ _⟩ | exact ⟨rfl, _, Eq.trans (World.drewN_drewN _ _ _) (congrArg (World.drewN _) (Nat.add_assoc _ _ _))⟩))))
     go_ret3
     exact ⟨by first | rfl | (simp [errW_none, errW_some] <;> rfl) | (simp only [← hji16]; first | rfl | (simp [errW_none, errW_some] <;> rfl)) | (simp [*, errW_none, errW_some] <;> rfl), be1_ HB GE143⟩
    ·replace c15 := Bool.eq_false_iff.mpr c15
     subst c15
     rw [if_neg nf_] at H
     simp only [Option.some.injEq, Prod.mk.injEq] at H
     obtain ⟨rfl, rfl, rfl⟩ := H
     obtain ⟨_, _, _, _, _, _⟩ := hb3_ BK143
     go_wp2_with (first | (go_at_call 60; (with_reducible refine (slices_BinarySearch_int_int.calls kj3 _ _ l0_1 a2 t146 false _ ?side1 ?side2 A14.out).mono ?_); (case side1 => exact cs_ (Kd.C_below HR0_1.out HB.out)); (case side2 => exact HC0_1.out); rintro e w' ⟨rfl, ⟨nd, rfl⟩⟩; (try first | exact ⟨rfl, _, World.drewN_drewN _ _ _⟩ | exact ⟨rfl, _, Eq.trans (World.drewN_drewN _ _ _) (congrArg (World.drewN _) (Nat.add_assoc _ _ _))⟩)))
     repeat (go_quiet (first | (go_at_call 60; (with_reducible refine (slices_BinarySearch_int_int.calls kj3 _ _ l0_1 a2 t146 false _ ?side1 ?side2 A14.out).mono ?_); (case side1 => exact cs_ (Kd.C_below HR0_1.out HB.out)); (case side2 => exact HC0_1.out); rintro e w' ⟨rfl, ⟨nd, rfl⟩⟩; (try first | exact ⟨rfl, _, World.drewN_drewN _ _ _⟩ | exact ⟨rfl, _, Eq.trans (World.drewN_drewN _ _ _) (congrArg (World.drewN _) (Nat.add_assoc _ _ _))⟩))); try go_wp2_with (first | (go_at_call 60; (with_reducible refine (slices_BinarySearch_int_int.calls kj3 _ _ l0_1 a2 t146 false _ ?side1 ?side2 A14.out).mono ?_); (case side1 => exact cs_ (Kd.C_below HR0_1.out HB.out)); (case side2 => exact HC0_1.out); rintro e w' ⟨rfl, ⟨nd, rfl⟩⟩; (try first | exact ⟨rfl, _, World.drewN_drewN _ _ _⟩ | exact ⟨rfl, _, Eq.trans (World.drewN_drewN _ _ _) (congrArg (World.drewN _) (Nat.add_assoc _ _ _))⟩))))
     go_ret3
     exact ⟨er_, be1_ HB GE143⟩
def evaluate_individuals.l0 : Nat → ByteArray → List (S73) → Int → Int → Option (List ByteArray × Bool)
 | 0, _, _, _, _ => none
 | k + 1, x1, x9, x10, x11 => if x11 < x10 then (if 0 ≤ x11 then (if x11 < (x9.length : Int) then (if ((rd_T73 x9 x11).f0).toList = x1.toList then (some ((rd_T73 x9 x11).f1, true)) else (evaluate_individuals.l0 k x1 x9 x10 (wrap64 (x11 + 1)))) else (none)) else (none)) else (some (([] : List ByteArray), false))
def evaluate_individuals.f (k : Nat) (l0_0 : List (S73)) (l0_1 : List Int) (a0_2 : Int) (a1 : ByteArray) : Option (List ByteArray × Bool) := evaluate_individuals.l0 k a1 l0_0 (l0_0.length : Int) 0
theorem evaluate_individuals.calls (k : Nat) (P0_0_ : Nat → Prop) (A0_0 : Option Addr) (c0_0 : Nat) (l0_0 : List (S73)) (A0_1 : Option Addr) (c0_1 : Nat) (l0_1 : List Int) (a0_2 : Int) (a1 : ByteArray) (r1 : List ByteArray) (r2 : Bool) (w : World) (hs0_0 : Kd.V k73 73 w w.heap.size (fun k_ => P0_0_ k_) (.slice A0_0 l0_0.length c0_0) l0_0) (hr0_1 : Kd.C (Kd.int .i64) w A0_1 l0_1.length l0_1) (hc0_1 : l0_1.length ≤ c0_1) (h : evaluate_individuals.f k l0_0 l0_1 a0_2 a1 = some (r1, r2)) :
  Calls Tryd.prog 47 #[.agg #[.slice A0_0 l0_0.length c0_0, .slice A0_1 l0_1.length c0_1, .int .i64 a0_2], .string a1] w fun e w' => ∃ v0_ : Value, e = .returned (.tuple #[v0_, .bool r2]) ∧ Kd.V Kd.string 9 w' w.heap.size (fun k_ => (P0_0_ k_ ∨ w.heap.size ≤ k_)) v0_ r1 ∧ Below w.heap.size w w' := by
 have hu25 := Tryd.underlying25
 have hu73 := Tryd.underlying73
 have HO0_0 := mk_ (show Kd.V k73 73 w w.heap.size (fun k_ => (P0_0_ k_ ∨ w.heap.size ≤ k_)) (.slice A0_0 l0_0.length c0_0) l0_0 from Kd.V_mono hs0_0 (fun k_ hk => .inl hk))
 have HR0_1 := mk_ hr0_1; have HC0_1 := mk_ hc0_1; clear hr0_1 hc0_1
 have HB := mk_ (Below.refl w.heap.size w)
 have H : (evaluate_individuals.l0 k a1 l0_0 (l0_0.length : Int) 0) = some (r1, r2) := h
 clear h
 have H' := mk_ H
 clear H
 go_enter Tryd.func47, Tryd.ntmps47
 go_wp2_with (first | ((with_reducible refine gate_dst (N := 2) rfl ?_); refine bx_ 2 #[.slice A0_0 l0_0.length c0_0, .slice A0_1 l0_1.length c0_1, .int .i64 a0_2] 25 ?_; intro gb148 hg w3 hbox hb; have BK148 := mk_ (hbox); have GW148 := mk_ (gs_ hg (be_ HB)); have GE148 := mk_ (gs_ hg (be_ HB)); replace HO0_0 := mk_ (Kd.V_below (Kd.V_elderB (vq_ HO0_0) gb148 (Nat.le_of_eq hg.symm)) hb); replace HB := mk_ (below_step (be_ HB) hb); clear hb hbox hg; obtain ⟨_, _, _, _, _, _⟩ := hb3_ BK148))
 go_loopg [11] k (fun kq v11 w' => ∃ (x11_1 : Int), v11 = .int .i64 x11_1 ∧ Aside0 (evaluate_individuals.l0 kq a1 l0_0 (l0_0.length : Int) x11_1 = some (r1, r2)) ∧ Aside0 (kq ≤ k) ∧ Aside0 (Kd.V k73 73 w' w.heap.size (fun k_ => (P0_0_ k_ ∨ w.heap.size ≤ k_) ∧ k_ ≠ gb148) (.slice A0_0 l0_0.length c0_0) l0_0) ∧ Aside0 (Kd.V k73 73 w' w.heap.size (fun k_ => (P0_0_ k_ ∨ w.heap.size ≤ k_) ∧ k_ ≠ gb148) (.slice A0_0 l0_0.length c0_0) l0_0) ∧ Aside0 (w'.heap[gb148]? = some (.cells #[(.slice A0_0 l0_0.length c0_0), (.slice A0_1 l0_1.length c0_1), .int .i64 a0_2] 25 (0, 0))) ∧ Aside0 (Below w.heap.size w w'))
 case atStart => exact ⟨(0), fi_, H', ⟨Nat.le_refl _⟩, ⟨vq_ HO0_0⟩, ⟨vq_ HO0_0⟩, ⟨bq_ BK148⟩, ⟨be1_ HB GE148⟩⟩
 case round =>
  clear H'
  obtain ⟨x11_1, rfl, HA, HK1, HO_9, HO_149000, BK148, HB⟩ := hrel
  cases gk with
  | zero => exact absurd HA.out (by simp [evaluate_individuals.l0])
  | succ k1 =>
   have H := HA.out
   clear HA
   simp only [evaluate_individuals.l0] at H
   by_cases c5 : x11_1 < (l0_0.length : Int)
   ·rw [if_pos c5] at H
    have c5b0 : decide (x11_1 < (l0_0.length : Int)) = true := decide_eq_true c5
    clear c5
    by_cases c6 : 0 ≤ x11_1
    ·rw [if_pos c6] at H
     have c6b0 : decide (0 ≤ x11_1) = true := decide_eq_true c6
     clear c6
     by_cases c7 : x11_1 < (l0_0.length : Int)
     ·rw [if_pos c7] at H
      have c7b0 : decide (x11_1 < (l0_0.length : Int)) = true := decide_eq_true c7
      clear c7
      by_cases c8 : ((rd_T73 l0_0 x11_1).f0).toList = a1.toList
      ·rw [if_pos c8] at H
       obtain ⟨c8b0, c8b1⟩ := eb_ c8
       clear c8
       simp only [Option.some.injEq, Prod.mk.injEq] at H
       obtain ⟨rfl, rfl⟩ := H
       have p149 : 0 ≤ (x11_1 : Int) := of_decide_eq_true (by first | (with_reducible assumption) | assumption)
       have q149 : x11_1 < (l0_0.length : Int) := of_decide_eq_true (by first | (with_reducible assumption) | assumption)
       obtain ⟨ad149, A149_1, c149_1, e149, hx149_0, hx149_1, hl149_1, hi149_1⟩ := at_T73 (Kd.V_reads' HO_9.out).2.2 x11_1 p149 q149
       cases e149
       obtain ⟨ce149, hce149, hMe149, hcc149⟩ := Kd.V_get HO_9.out z73 x11_1 p149 (by first | exact q149 | exact of_decide_eq_true (by first | (with_reducible assumption) | assumption) | (have e_ := (Kd.V_reads' HO_9.out).1; omega))
       obtain ⟨ua149_1, uc149_1, rfl, ul149_1, ge149_1⟩ := k73_openF hMe149
       have hv149_1 := hcc149 1 _ rfl
       rw [add_field _ _ 1 (by omega)] at hv149_1
       replace hv149_1 := Option.some.inj (hv149_1.symm.trans hx149_1)
       injection hv149_1 with hva_ hvn_ hvc_
       rw [hva_] at ge149_1
       rw [hvc_] at ul149_1
       have HL149_1 := mk_ (show Kd.V Kd.string 9 _ w.heap.size _ _ ((rd_T73 l0_0 x11_1).f1) from Kd.V_mk ul149_1 ge149_1)
       clear hva_ hvn_ hvc_ ge149_1 ul149_1
       clear hcc149 hce149
       have HR149_1 := mk_ hi149_1; have HC149_1 := mk_ hl149_1; clear hi149_1 hl149_1
       replace p149 := eq_true p149
       replace q149 := eq_true q149
       go_wp2_with (first | ((with_reducible refine gate_dst (N := 7) rfl ?_); refine bx_ 7 #[.string (⟨#[]⟩ : ByteArray), .slice none 0 0] 73 ?_; intro gb150 hg w9 hbox hb; have n0_ := mk_ (Kd.V_below (Kd.V_elderB (vq_ HO_9) gb150 (Nat.le_of_eq hg.symm)) hb); have n1_ := mk_ (Kd.V_below (Kd.V_elderB (vq_ HO_149000) gb150 (Nat.le_of_eq hg.symm)) hb); have n2_ := mk_ (Kd.V_below (Kd.V_elderB (vq_ HL149_1) gb150 (Nat.le_of_eq hg.symm)) hb); have n3_ := mk_ (bb_ BK148 hb); have n4_ := mk_ (Kd.C_below (cq_ HR149_1) hb); have n5_ := mk_ (below_step (be1_ HB GE148) hb); have n6_ := mk_ (hbox); have n7_ := mk_ (gs_ hg (be1_ HB GE148)); have n8_ := mk_ (gs_ hg (be1_ HB GE148)); have n9_ := mk_ ((by rw [hg]; exact Nat.ne_of_lt (blk_lt (g := gb148) (o := .cells #[.slice (some ad149) l0_0.length c0_0, .slice A0_1 l0_1.length c0_1, .int .i64 a0_2] 25 (0, 0)) (bq_ BK148)) : gb148 ≠ gb150)); have n10_ := mk_ ((by rw [hg]; exact Nat.ne_of_gt (blk_lt (g := gb148) (o := .cells #[.slice (some ad149) l0_0.length c0_0, .slice A0_1 l0_1.length c0_1, .int .i64 a0_2] 25 (0, 0)) (bq_ BK148)) : gb150 ≠ gb148)); clear HO_9; clear HO_149000; clear HL149_1; clear BK148; clear HR149_1; clear HB; have HO_9 := n0_; have HO_149000 := n1_; have HL149_1 := n2_; have BK148 := n3_; have HR149_1 := n4_; have HB := n5_; have BK150 := n6_; have GW150 := n7_; have GE150 := n8_; have NB148_150 := n9_; have NB150_148 := n10_; clear n0_ n1_ n2_ n3_ n4_ n5_ n6_ n7_ n8_ n9_ n10_; clear hb hbox hg; have hnb10 := NB150_148.out; have hnc10 := NB148_150.out; obtain ⟨_, _, _, _⟩ := hb2_ BK150))
       go_ret2
       exact ⟨_, er_, by refine sv_ ?_; exact Kd.V_mono (Kd.V_far (p := ⟨gb150, 1, none⟩) (Kd.V_far (p := ⟨gb150, 0, none⟩) (Kd.V_mono HL149_1.out (fun k_ hk => (⟨hk, hk.2⟩ : _ ∧ k_ ≠ gb150))) (fun _ hk => hk.2) (.string ((rd_T73 l0_0 x11_1).f0))) (fun _ hk => hk.2) (.slice A149_1 ((rd_T73 l0_0 x11_1).f1).length c149_1)) (fun _ hk => hk.1.1.1), be2_ HB GE148 GE150⟩
      ·rw [if_neg c8] at H
       obtain ⟨c8b0, c8b1⟩ := en_ c8
       have H' := mk_ H
       clear H
       have p149 : 0 ≤ (x11_1 : Int) := of_decide_eq_true (by first | (with_reducible assumption) | assumption)
       have q149 : x11_1 < (l0_0.length : Int) := of_decide_eq_true (by first | (with_reducible assumption) | assumption)
       obtain ⟨ad149, A149_1, c149_1, e149, hx149_0, hx149_1, hl149_1, hi149_1⟩ := at_T73 (Kd.V_reads' HO_9.out).2.2 x11_1 p149 q149
       cases e149
       obtain ⟨ce149, hce149, hMe149, hcc149⟩ := Kd.V_get HO_9.out z73 x11_1 p149 (by first | exact q149 | exact of_decide_eq_true (by first | (with_reducible assumption) | assumption) | (have e_ := (Kd.V_reads' HO_9.out).1; omega))
       obtain ⟨ua149_1, uc149_1, rfl, ul149_1, ge149_1⟩ := k73_openF hMe149
       have hv149_1 := hcc149 1 _ rfl
       rw [add_field _ _ 1 (by omega)] at hv149_1
       replace hv149_1 := Option.some.inj (hv149_1.symm.trans hx149_1)
       injection hv149_1 with hva_ hvn_ hvc_
       rw [hva_] at ge149_1
       rw [hvc_] at ul149_1
       have HL149_1 := mk_ (show Kd.V Kd.string 9 _ w.heap.size _ _ ((rd_T73 l0_0 x11_1).f1) from Kd.V_mk ul149_1 ge149_1)
       clear hva_ hvn_ hvc_ ge149_1 ul149_1
       clear hcc149 hce149
       have HR149_1 := mk_ hi149_1; have HC149_1 := mk_ hl149_1; clear hi149_1 hl149_1
       replace p149 := eq_true p149
       replace q149 := eq_true q149
       go_wp2_with (first | ((with_reducible refine gate_dst (N := 7) rfl ?_); refine bx_ 7 #[.string (⟨#[]⟩ : ByteArray), .slice none 0 0] 73 ?_; intro gb150 hg w12 hbox hb; have n0_ := mk_ (Kd.V_below (Kd.V_elderB (vq_ HO_9) gb150 (Nat.le_of_eq hg.symm)) hb); have n1_ := mk_ (Kd.V_below (Kd.V_elderB (vq_ HO_149000) gb150 (Nat.le_of_eq hg.symm)) hb); have n2_ := mk_ (Kd.V_below (Kd.V_elderB (vq_ HL149_1) gb150 (Nat.le_of_eq hg.symm)) hb); have n3_ := mk_ (bb_ BK148 hb); have n4_ := mk_ (Kd.C_below (cq_ HR149_1) hb); have n5_ := mk_ (below_step (be1_ HB GE148) hb); have n6_ := mk_ (hbox); have n7_ := mk_ (gs_ hg (be1_ HB GE148)); have n8_ := mk_ (gs_ hg (be1_ HB GE148)); have n9_ := mk_ ((by rw [hg]; exact Nat.ne_of_lt (blk_lt (g := gb148) (o := .cells #[.slice (some ad149) l0_0.length c0_0, .slice A0_1 l0_1.length c0_1, .int .i64 a0_2] 25 (0, 0)) (bq_ BK148)) : gb148 ≠ gb150)); have n10_ := mk_ ((by rw [hg]; exact Nat.ne_of_gt (blk_lt (g := gb148) (o := .cells #[.slice (some ad149) l0_0.length c0_0, .slice A0_1 l0_1.length c0_1, .int .i64 a0_2] 25 (0, 0)) (bq_ BK148)) : gb150 ≠ gb148)); clear HO_9; clear HO_149000; clear HL149_1; clear BK148; clear HR149_1; clear HB; have HO_9 := n0_; have HO_149000 := n1_; have HL149_1 := n2_; have BK148 := n3_; have HR149_1 := n4_; have HB := n5_; have BK150 := n6_; have GW150 := n7_; have GE150 := n8_; have NB148_150 := n9_; have NB150_148 := n10_; clear n0_ n1_ n2_ n3_ n4_ n5_ n6_ n7_ n8_ n9_ n10_; clear hb hbox hg; have hnb13 := NB150_148.out; have hnc13 := NB148_150.out; obtain ⟨_, _, _, _⟩ := hb2_ BK150))
       go_roundg k1
       case measure => have := HK1.out; omega
       case rel => exact ⟨(wrap64 (x11_1 + 1)), fi_, H', ⟨by have := HK1.out; omega⟩, ⟨by refine sv_ ?_; exact Kd.V_mono (Kd.V_far (p := ⟨gb150, 1, none⟩) (Kd.V_far (p := ⟨gb150, 0, none⟩) (Kd.V_mono HO_9.out (fun k_ hk => (⟨hk, hk.2⟩ : _ ∧ k_ ≠ gb150))) (fun _ hk => hk.2) (.string ((rd_T73 l0_0 x11_1).f0))) (fun _ hk => hk.2) (.slice A149_1 ((rd_T73 l0_0 x11_1).f1).length c149_1)) (fun _ hk => ⟨hk.1.1.1, hk.1.1.2⟩)⟩, ⟨by refine sv_ ?_; exact Kd.V_mono (Kd.V_far (p := ⟨gb150, 1, none⟩) (Kd.V_far (p := ⟨gb150, 0, none⟩) (Kd.V_mono HO_149000.out (fun k_ hk => (⟨hk, hk.2⟩ : _ ∧ k_ ≠ gb150))) (fun _ hk => hk.2) (.string ((rd_T73 l0_0 x11_1).f0))) (fun _ hk => hk.2) (.slice A149_1 ((rd_T73 l0_0 x11_1).f1).length c149_1)) (fun _ hk => ⟨hk.1.1.1, hk.1.1.2⟩)⟩, ⟨by refine sb_ ?_; refine blk_far ?_ NB148_150.out _; refine sb_ ?_; refine blk_far ?_ NB148_150.out _; refine sb_ ?_; exact BK148.out⟩, ⟨be2_ HB GE148 GE150⟩⟩
     ·rw [if_neg c7] at H
      exact absurd H (by simp)
    ·rw [if_neg c6] at H
     exact absurd H (by simp)
   ·rw [if_neg c5] at H
    have c5b0 : decide (x11_1 < (l0_0.length : Int)) = false := decide_eq_false c5
    clear c5
    simp only [Option.some.injEq, Prod.mk.injEq] at H
    obtain ⟨rfl, rfl⟩ := H
    go_wp2
    go_ret2
    exact ⟨_, er_, Kd.V_nil _ _ _ _ _, be1_ HB GE148⟩
mutual
def evaluate_work.j1 : Nat → Int → Bool → List (S73) → List Int → Int → Int → ByteArray → List (S92) → Int → Int → List (S32) → Option (Int × Bool)
 | 0, _, _, _, _, _, _, _, _, _, _, _ => none
 | k + 1, x6, x7, x152000, x152001, x152002, x153000, x153001, x153002, x153003, x153004, x153005 => evaluate_work.l0 k x6 x7 0 x153005 (x153005.length : Int) 0 x152000 x152001 x152002
def evaluate_work.l0 : Nat → Int → Bool → Int → List (S32) → Int → Int → List (S73) → List Int → Int → Option (Int × Bool)
 | 0, _, _, _, _, _, _, _, _, _ => none
 | k + 1, x6, x7, x11, x51, x52, x53, x152000, x152001, x152002 => if x53 < x52 then (if 0 ≤ x53 then (if x53 < (x51.length : Int) then ((evaluate_work.f k x152000 x152001 x152002 ((rd_T32 x51 x53).f0) ((rd_T32 x51 x53).f1) ((rd_T32 x51 x53).f2) ((rd_T32 x51 x53).f3) ((rd_T32 x51 x53).f4) ((rd_T32 x51 x53).f5)).bind fun bt162 => (if x7 = true then (evaluate_work.l0 k x6 bt162.2 (mn (wrap64 (x11 + bt162.1)) 1048577) x51 x52 (wrap64 (x53 + 1)) x152000 x152001 x152002) else (evaluate_work.l0 k x6 false (mn (wrap64 (x11 + bt162.1)) 1048577) x51 x52 (wrap64 (x53 + 1)) x152000 x152001 x152002))) else (none)) else (none)) else (some (mn (wrap64 (1 + (wrap64 (x11 * x6)))) 1048577, x7))
def evaluate_work.j0 : Nat → Int → Bool → Int → Bool → List (S73) → List Int → Int → Int → ByteArray → List (S92) → Int → Int → List (S32) → Option (Int × Bool)
 | 0, _, _, _, _, _, _, _, _, _, _, _, _, _ => none
 | k + 1, x6, x7, x17, x18, x152000, x152001, x152002, x153000, x153001, x153002, x153003, x153004, x153005 => if x18 = true then ((evaluate_individuals.f k x152000 x152001 x152002 x153001).bind fun bt153 => (evaluate_work.j1 k (bt153.1.length : Int) bt153.2 x152000 x152001 x152002 x153000 x153001 x153002 x153003 x153004 x153005)) else (if x17 = 10 then ((evaluate_interval.f k x152000 x152001 x152002 x153003 x153004).bind fun bt157 => (evaluate_work.j1 k (wrap64 (bt157.2.1 - bt157.1)) bt157.2.2 x152000 x152001 x152002 x153000 x153001 x153002 x153003 x153004 x153005)) else (if x17 = 11 then (evaluate_work.j1 k x152002 x7 x152000 x152001 x152002 x153000 x153001 x153002 x153003 x153004 x153005) else (if x17 = 12 then (evaluate_work.j1 k x152002 x7 x152000 x152001 x152002 x153000 x153001 x153002 x153003 x153004 x153005) else (evaluate_work.j1 k x6 x7 x152000 x152001 x152002 x153000 x153001 x153002 x153003 x153004 x153005))))
def evaluate_work.f : Nat → List (S73) → List Int → Int → Int → ByteArray → List (S92) → Int → Int → List (S32) → Option (Int × Bool)
 | 0, _, _, _, _, _, _, _, _, _ => none
 | k + 1, l0_0, l0_1, a0_2, a1_0, a1_1, l1_2, a1_3, a1_4, l1_5 => if a1_0 = 8 then (evaluate_work.j0 k 1 true a1_0 (a1_0 == 8) l0_0 l0_1 a0_2 a1_0 a1_1 l1_2 a1_3 a1_4 l1_5) else (evaluate_work.j0 k 1 true a1_0 (a1_0 == 9) l0_0 l0_1 a0_2 a1_0 a1_1 l1_2 a1_3 a1_4 l1_5)
end
theorem evaluate_work.calls (k : Nat) : ∀ (A0_0 : Option Addr) (c0_0 : Nat) (l0_0 : List (S73)) (A0_1 : Option Addr) (c0_1 : Nat) (l0_1 : List Int) (a0_2 : Int) (a1_0 : Int) (a1_1 : ByteArray) (A1_2 : Option Addr) (c1_2 : Nat) (l1_2 : List (S92)) (a1_3 : Int) (a1_4 : Int) (A1_5 : Option Addr) (c1_5 : Nat) (l1_5 : List (S32)) (r1 : Int) (r2 : Bool) (w : World) (hr0_0 : Kd.C k73 w A0_0 l0_0.length l0_0) (hc0_0 : l0_0.length ≤ c0_0) (hr0_1 : Kd.C (Kd.int .i64) w A0_1 l0_1.length l0_1) (hc0_1 : l0_1.length ≤ c0_1) (hr1_2 : Kd.C k92 w A1_2 l1_2.length l1_2) (hc1_2 : l1_2.length ≤ c1_2) (hr1_5 : Kd.C k32 w A1_5 l1_5.length l1_5) (hc1_5 : l1_5.length ≤ c1_5) (h : evaluate_work.f k l0_0 l0_1 a0_2 a1_0 a1_1 l1_2 a1_3 a1_4 l1_5 = some (r1, r2)),
  Calls Tryd.prog 53 #[.agg #[.slice A0_0 l0_0.length c0_0, .slice A0_1 l0_1.length c0_1, .int .i64 a0_2], .agg #[.int .i64 a1_0, .string a1_1, .slice A1_2 l1_2.length c1_2, .int .i64 a1_3, .int .i64 a1_4, .slice A1_5 l1_5.length c1_5]] w fun e w' => e = .returned (.tuple #[.int .i64 r1, .bool r2]) ∧ Below w.heap.size w w' := by
 induction k using Nat.strongRecOn with
 | _ k ih =>
 intro A0_0 c0_0 l0_0 A0_1 c0_1 l0_1 a0_2 a1_0 a1_1 A1_2 c1_2 l1_2 a1_3 a1_4 A1_5 c1_5 l1_5 r1 r2 w hr0_0 hc0_0 hr0_1 hc0_1 hr1_2 hc1_2 hr1_5 hc1_5 h
 cases k with
 | zero => exact absurd h (by simp [evaluate_work.f])
 | succ k =>
 simp only [evaluate_work.f] at h
 have hu25 := Tryd.underlying25
 have hu32 := Tryd.underlying32
 have HR0_0 := mk_ hr0_0; have HC0_0 := mk_ hc0_0; clear hr0_0 hc0_0
 have HR0_1 := mk_ hr0_1; have HC0_1 := mk_ hc0_1; clear hr0_1 hc0_1
 have HR1_2 := mk_ hr1_2; have HC1_2 := mk_ hc1_2; clear hr1_2 hc1_2
 have HR1_5 := mk_ hr1_5; have HC1_5 := mk_ hc1_5; clear hr1_5 hc1_5
 have HB := mk_ (Below.refl w.heap.size w)
 have H : (if a1_0 = 8 then (evaluate_work.j0 k 1 true a1_0 (a1_0 == 8) l0_0 l0_1 a0_2 a1_0 a1_1 l1_2 a1_3 a1_4 l1_5) else (evaluate_work.j0 k 1 true a1_0 (a1_0 == 9) l0_0 l0_1 a0_2 a1_0 a1_1 l1_2 a1_3 a1_4 l1_5)) = some (r1, r2) := h
 clear h
 have HC3 := mk_ H
 clear H
 go_enter Tryd.func53, Tryd.ntmps53
 go_upto_block 0 with (first | ((with_reducible refine gate_dst (N := 2) rfl ?_); refine bx_ 2 #[.slice A0_0 l0_0.length c0_0, .slice A0_1 l0_1.length c0_1, .int .i64 a0_2] 25 ?_; intro gb151 hg w4 hbox hb; have BK151 := mk_ (hbox); have GW151 := mk_ (gs_ hg (be_ HB)); have GE151 := mk_ (gs_ hg (be_ HB)); replace HB := mk_ (below_step (be_ HB) hb); clear hb hbox hg) | ((with_reducible refine gate_dst (N := 3) rfl ?_); refine bx_ 3 #[.int .i64 a1_0, .string a1_1, .slice A1_2 l1_2.length c1_2, .int .i64 a1_3, .int .i64 a1_4, .slice A1_5 l1_5.length c1_5] 32 ?_; intro gb152 hg w5 hbox hb; have n0_ := mk_ (bb_ BK151 hb); have n1_ := mk_ (below_step (be1_ HB GE151) hb); have n2_ := mk_ (hbox); have n3_ := mk_ (gs_ hg (be1_ HB GE151)); have n4_ := mk_ (gs_ hg (be1_ HB GE151)); have n5_ := mk_ ((by rw [hg]; exact Nat.ne_of_lt (blk_lt (g := gb151) (o := .cells #[.slice A0_0 l0_0.length c0_0, .slice A0_1 l0_1.length c0_1, .int .i64 a0_2] 25 (0, 0)) (bq_ BK151)) : gb151 ≠ gb152)); have n6_ := mk_ ((by rw [hg]; exact Nat.ne_of_gt (blk_lt (g := gb151) (o := .cells #[.slice A0_0 l0_0.length c0_0, .slice A0_1 l0_1.length c0_1, .int .i64 a0_2] 25 (0, 0)) (bq_ BK151)) : gb152 ≠ gb151)); clear BK151; clear HB; have BK151 := n0_; have HB := n1_; have BK152 := n2_; have GW152 := n3_; have GE152 := n4_; have NB151_152 := n5_; have NB152_151 := n6_; clear n0_ n1_ n2_ n3_ n4_ n5_ n6_; clear hb hbox hg; have hnb6 := NB152_151.out; have hnc6 := NB151_152.out; obtain ⟨_, _, _, _, _, _, _, _, _, _, _, _⟩ := hb6_ BK152))
 (try simp only [Act.put, List.setIfInBounds_toArray, List.set_cons_zero, List.set_cons_succ])
 go_cut [6, 7] (fun v6 v7 wc => ∃ (kq : Nat) (x6_2 : Int) (x7_2 : Bool), v6 = .int .i64 x6_2 ∧ v7 = .bool x7_2 ∧ Aside0 (evaluate_work.j1 kq x6_2 x7_2 l0_0 l0_1 a0_2 a1_0 a1_1 l1_2 a1_3 a1_4 l1_5 = some (r1, r2)) ∧ Aside0 (kq ≤ k) ∧ Aside0 (wc.heap[gb151]? = some (.cells #[(.slice A0_0 l0_0.length c0_0), (.slice A0_1 l0_1.length c0_1), .int .i64 a0_2] 25 (0, 0))) ∧ Aside0 (wc.heap[gb152]? = some (.cells #[.int .i64 a1_0, .string a1_1, (.slice A1_2 l1_2.length c1_2), .int .i64 a1_3, .int .i64 a1_4, (.slice A1_5 l1_5.length c1_5)] 32 (0, 0))) ∧ Aside0 (Below w.heap.size w wc))
 case first =>
  have H := HC3.out
  clear HC3
  have HC8 := mk_ H
  clear H
  go_upto_if 18 with (fail)
  go_cut [18] (fun v18 wc => ∃ (kq : Nat) (x18_7 : Bool), v18 = .bool x18_7 ∧ Aside0 (evaluate_work.j0 kq 1 true a1_0 x18_7 l0_0 l0_1 a0_2 a1_0 a1_1 l1_2 a1_3 a1_4 l1_5 = some (r1, r2)) ∧ Aside0 (kq ≤ k) ∧ Aside0 (wc.heap[gb151]? = some (.cells #[(.slice A0_0 l0_0.length c0_0), (.slice A0_1 l0_1.length c0_1), .int .i64 a0_2] 25 (0, 0))) ∧ Aside0 (wc.heap[gb152]? = some (.cells #[.int .i64 a1_0, .string a1_1, (.slice A1_2 l1_2.length c1_2), .int .i64 a1_3, .int .i64 a1_4, (.slice A1_5 l1_5.length c1_5)] 32 (0, 0))) ∧ Aside0 (Below w.heap.size w wc))
  case first =>
   have H := HC8.out
   clear HC8
   by_cases c9 : a1_0 = 8
   ·rw [if_pos c9] at H
    obtain ⟨c9b0, c9b1⟩ := eb_ c9
    clear c9
    (first | rw [c9b0] | (simp only [i64_w, i32_w]; rw [c9b0]) | skip)
    have H' := mk_ H
    clear H
    go_wp2
    go_meet
    case rel => exact ⟨_, ((a1_0 == 8)), fi_, H', ⟨by first | omega | exact Nat.le_refl _⟩, ⟨bq_ BK151⟩, ⟨bq_ BK152⟩, ⟨be2_ HB GE151 GE152⟩⟩
   ·rw [if_neg c9] at H
    obtain ⟨c9b0, c9b1⟩ := en_ c9
    (first | rw [c9b0] | (simp only [i64_w, i32_w]; rw [c9b0]) | skip)
    have H' := mk_ H
    clear H
    go_wp2
    go_meet
    case rel => exact ⟨_, ((a1_0 == 9)), fi_, H', ⟨by first | omega | exact Nat.le_refl _⟩, ⟨bq_ BK151⟩, ⟨bq_ BK152⟩, ⟨be2_ HB GE151 GE152⟩⟩
  case rest =>
   clear HC8
   obtain ⟨kq, x18_7, rfl, HA, HJ7, BK151, BK152, HB⟩ := hcut
   cases kq with
   | zero => exact absurd HA.out (by simp [evaluate_work.j0])
   | succ kj7 =>
    have H := HA.out
    clear HA
    simp only [evaluate_work.j0] at H
    by_cases c10 : x18_7 = true
    ·subst c10
     rw [if_pos rfl] at H
     replace H := Option.bind_eq_some_iff.mp H
     obtain ⟨⟨t153, t156⟩, A110, H⟩ := H
     replace H : (evaluate_work.j1 kj7 (t153.length : Int) t156 l0_0 l0_1 a0_2 a1_0 a1_1 l1_2 a1_3 a1_4 l1_5) = some (r1, r2) := H
     have A11 := mk_ A110
     clear A110
     have H' := mk_ H
     clear H
     have hnb12 := NB151_152.out
     have hnc12 := NB152_151.out
     obtain ⟨_, _, _, _, _, _⟩ := hb3_ BK151
     obtain ⟨_, _, _, _, _, _, _, _, _, _, _, _⟩ := hb6_ BK152
     go_wp2_with (first | ((with_reducible refine gate_callee (f := 47) rfl ?_); refine gl_ (some 25) Tryd.func47 #[.agg #[.slice A0_0 l0_0.length c0_0, .slice A0_1 l0_1.length c0_1, .int .i64 a0_2], .string a1_1] ?_; (with_reducible refine (evaluate_individuals.calls kj7 (fun k_ => k_ < w.heap.size) _ _ l0_0 _ _ l0_1 a0_2 a1_1 t153 t156 _ ?side1 ?side2 ?side3 A11.out).mono ?_); (case side1 => exact Kd.V_mk HC0_0.out (Kd.F_below (Kd.C_F k73_heap HR0_0.out) (be2_ HB GE151 GE152))); (case side2 => exact cs_ (Kd.C_below HR0_1.out HB.out)); (case side3 => exact HC0_1.out); rintro e w15 ⟨v154, rfl, ho0, hb⟩; refine ⟨_, rfl, ?_⟩; have n0_ := mk_ (Kd.V_lower (Kd.V_mono (ok' := fun k_ => k_ ≠ gb151 ∧ k_ ≠ gb152) ho0 (fun k_ hk_ => ⟨Or.elim hk_ (fun hs_ => fun e_ => Nat.not_le.2 hs_ (by rw [e_]; exact GW151.out)) (fun hn_ => (Kd.freshB (g := gb151) (o := .cells #[.slice A0_0 l0_0.length c0_0, .slice A0_1 l0_1.length c0_1, .int .i64 a0_2] 25 (0, 0)) (bq_ BK151) k_ hn_)), Or.elim hk_ (fun hs_ => fun e_ => Nat.not_le.2 hs_ (by rw [e_]; exact GW152.out)) (fun hn_ => (Kd.freshB (g := gb152) (o := .cells #[.int .i64 a1_0, .string a1_1, .slice A1_2 l1_2.length c1_2, .int .i64 a1_3, .int .i64 a1_4, .slice A1_5 l1_5.length c1_5] 32 (0, 0)) (bq_ BK152) k_ hn_))⟩)) (below_size (be2_ HB GE151 GE152))); have n1_ := mk_ (bb_ BK151 hb); have n2_ := mk_ (bb_ BK152 hb); have n3_ := mk_ (below_step (be2_ HB GE151 GE152) hb); clear BK151; clear BK152; clear HB; have HO155 := n0_; have BK151 := n1_; have BK152 := n2_; have HB := n3_; clear n0_ n1_ n2_ n3_; obtain ⟨Ao16, co16, eo16⟩ := Kd.V_slice HO155.out; subst eo16))
     go_meet
     case rel => exact ⟨_, ((t153.length : Int)), (t156), fi_, fi_, H', ⟨by have := HJ7.out; first | omega | exact Nat.le_refl _⟩, ⟨bq_ BK151⟩, ⟨bq_ BK152⟩, ⟨be2_ HB GE151 GE152⟩⟩
    ·replace c10 := Bool.eq_false_iff.mpr c10
     subst c10
     rw [if_neg nf_] at H
     by_cases c17 : a1_0 = 10
     ·rw [if_pos c17] at H
      obtain ⟨c17b0, c17b1⟩ := eb_ c17
      clear c17
      replace H := Option.bind_eq_some_iff.mp H
      obtain ⟨⟨t157, t158, t159⟩, A180, H⟩ := H
      replace H : (evaluate_work.j1 kj7 (wrap64 (t158 - t157)) t159 l0_0 l0_1 a0_2 a1_0 a1_1 l1_2 a1_3 a1_4 l1_5) = some (r1, r2) := H
      have A18 := mk_ A180
      clear A180
      have H' := mk_ H
      clear H
      have hnb19 := NB151_152.out
      have hnc19 := NB152_151.out
      obtain ⟨_, _, _, _, _, _⟩ := hb3_ BK151
      obtain ⟨_, _, _, _, _, _, _, _, _, _, _, _⟩ := hb6_ BK152
      go_wp2_with (first | ((with_reducible refine gate_callee (f := 45) rfl ?_); refine gl_ (some 38) Tryd.func45 #[.agg #[.slice A0_0 l0_0.length c0_0, .slice A0_1 l0_1.length c0_1, .int .i64 a0_2], .int .i64 a1_3, .int .i64 a1_4] ?_; (with_reducible refine (evaluate_interval.calls kj7 _ _ l0_0 _ _ l0_1 a0_2 a1_3 a1_4 t157 t158 t159 _ ?side1 ?side2 ?side3 ?side4 A18.out).mono ?_); (case side1 => exact cs_ (Kd.C_below HR0_0.out HB.out)); (case side2 => exact HC0_0.out); (case side3 => exact cs_ (Kd.C_below HR0_1.out HB.out)); (case side4 => exact HC0_1.out); rintro e w22 ⟨rfl, hb⟩; refine ⟨_, rfl, ?_⟩; replace BK151 := mk_ (bb_ BK151 hb); replace BK152 := mk_ (bb_ BK152 hb); replace HB := mk_ (below_step (be2_ HB GE151 GE152) hb)))
      go_meet
      case rel => exact ⟨_, (wrap64 (t158 - t157)), (t159), fi_, fi_, H', ⟨by have := HJ7.out; first | omega | exact Nat.le_refl _⟩, ⟨bq_ BK151⟩, ⟨bq_ BK152⟩, ⟨be2_ HB GE151 GE152⟩⟩
     ·rw [if_neg c17] at H
      obtain ⟨c17b0, c17b1⟩ := en_ c17
      by_cases c23 : a1_0 = 11
      ·rw [if_pos c23] at H
       obtain ⟨c23b0, c23b1⟩ := eb_ c23
       clear c23
       have H' := mk_ H
       clear H
       have hnb24 := NB151_152.out
       have hnc24 := NB152_151.out
       obtain ⟨_, _, _, _, _, _⟩ := hb3_ BK151
       go_wp2
       go_meet
       case rel => exact ⟨_, (a0_2), (true), fi_, fi_, H', ⟨by have := HJ7.out; first | omega | exact Nat.le_refl _⟩, ⟨bq_ BK151⟩, ⟨bq_ BK152⟩, ⟨be2_ HB GE151 GE152⟩⟩
      ·rw [if_neg c23] at H
       obtain ⟨c23b0, c23b1⟩ := en_ c23
       by_cases c26 : a1_0 = 12
       ·rw [if_pos c26] at H
        obtain ⟨c26b0, c26b1⟩ := eb_ c26
        clear c26
        have H' := mk_ H
        clear H
        have hnb27 := NB151_152.out
        have hnc27 := NB152_151.out
        obtain ⟨_, _, _, _, _, _⟩ := hb3_ BK151
        go_wp2
        go_meet
        case rel => exact ⟨_, (a0_2), (true), fi_, fi_, H', ⟨by have := HJ7.out; first | omega | exact Nat.le_refl _⟩, ⟨bq_ BK151⟩, ⟨bq_ BK152⟩, ⟨be2_ HB GE151 GE152⟩⟩
       ·rw [if_neg c26] at H
        obtain ⟨c26b0, c26b1⟩ := en_ c26
        have H' := mk_ H
        clear H
        go_wp2
        go_meet
        case rel => exact ⟨_, (1), (true), fi_, fi_, H', ⟨by have := HJ7.out; first | omega | exact Nat.le_refl _⟩, ⟨bq_ BK151⟩, ⟨bq_ BK152⟩, ⟨be2_ HB GE151 GE152⟩⟩
 case rest =>
  clear HC3
  obtain ⟨kq, x6_2, x7_2, rfl, rfl, HA, HJ2, BK151, BK152, HB⟩ := hcut
  cases kq with
  | zero => exact absurd HA.out (by simp [evaluate_work.j1])
  | succ kj2 =>
   have H := HA.out
   clear HA
   simp only [evaluate_work.j1] at H
   have H' := mk_ H
   clear H
   have hnb29 := NB152_151.out
   have hnc29 := NB151_152.out
   obtain ⟨_, _, _, _, _, _, _, _, _, _, _, _⟩ := hb6_ BK152
   go_wp2
   go_loopg [7, 11, 53] kj2 (fun kq v7 v11 v53 w' => ∃ (x7_2 : Bool) (x11_2 : Int) (x53_2 : Int), v7 = .bool x7_2 ∧ v11 = .int .i64 x11_2 ∧ v53 = .int .i64 x53_2 ∧ Aside0 (evaluate_work.l0 kq x6_2 x7_2 x11_2 l1_5 (l1_5.length : Int) x53_2 l0_0 l0_1 a0_2 = some (r1, r2)) ∧ Aside0 (kq ≤ kj2) ∧ Aside0 (w'.heap[gb151]? = some (.cells #[(.slice A0_0 l0_0.length c0_0), (.slice A0_1 l0_1.length c0_1), .int .i64 a0_2] 25 (0, 0))) ∧ Aside0 (w'.heap[gb152]? = some (.cells #[.int .i64 a1_0, .string a1_1, (.slice A1_2 l1_2.length c1_2), .int .i64 a1_3, .int .i64 a1_4, (.slice A1_5 l1_5.length c1_5)] 32 (0, 0))) ∧ Aside0 (Below w.heap.size w w'))
   case atStart => exact ⟨(x7_2), (0), (0), fi_, fi_, fi_, H', ⟨Nat.le_refl _⟩, ⟨bq_ BK151⟩, ⟨bq_ BK152⟩, ⟨be2_ HB GE151 GE152⟩⟩
   case round =>
    clear H'
    obtain ⟨x7_2, x11_2, x53_2, rfl, rfl, rfl, HA, HK2, BK151, BK152, HB⟩ := hrel
    cases gk with
    | zero => exact absurd HA.out (by simp [evaluate_work.l0])
    | succ k2 =>
     have H := HA.out
     clear HA
     simp only [evaluate_work.l0] at H
     by_cases c31 : x53_2 < (l1_5.length : Int)
     ·rw [if_pos c31] at H
      have c31b0 : decide (x53_2 < (l1_5.length : Int)) = true := decide_eq_true c31
      clear c31
      by_cases c32 : 0 ≤ x53_2
      ·rw [if_pos c32] at H
       have c32b0 : decide (0 ≤ x53_2) = true := decide_eq_true c32
       clear c32
       by_cases c33 : x53_2 < (l1_5.length : Int)
       ·rw [if_pos c33] at H
        have c33b0 : decide (x53_2 < (l1_5.length : Int)) = true := decide_eq_true c33
        clear c33
        replace H := Option.bind_eq_some_iff.mp H
        obtain ⟨⟨t162, t163⟩, A340, H⟩ := H
        replace H : (if x7_2 = true then (evaluate_work.l0 k2 x6_2 t163 (mn (wrap64 (x11_2 + t162)) 1048577) l1_5 (l1_5.length : Int) (wrap64 (x53_2 + 1)) l0_0 l0_1 a0_2) else (evaluate_work.l0 k2 x6_2 false (mn (wrap64 (x11_2 + t162)) 1048577) l1_5 (l1_5.length : Int) (wrap64 (x53_2 + 1)) l0_0 l0_1 a0_2)) = some (r1, r2) := H
        have A34 := mk_ A340
        clear A340
        by_cases c35 : x7_2 = true
        ·subst c35
         rw [if_pos rfl] at H
         obtain ⟨ji36, hji36⟩ : ∃ j_ : Int, (mn (wrap64 (x11_2 + t162)) 1048577) = j_ := ⟨_, rfl⟩
         replace H : (evaluate_work.l0 k2 x6_2 t163 ji36 l1_5 (l1_5.length : Int) (wrap64 (x53_2 + 1)) l0_0 l0_1 a0_2) = some (r1, r2) := by first | (rw [hji36] at H; exact H) | (simp only [hji36] at H ⊢; exact H)
         (try rw [hji36] at A34)
         have hji36_ : (if 1048577 < (wrap64 (x11_2 + t162)) then 1048577 else (wrap64 (x11_2 + t162))) = ji36 := hji36
         have H' := mk_ H
         clear H
         have p160 : 0 ≤ (x53_2 : Int) := of_decide_eq_true (by first | (with_reducible assumption) | assumption)
         have q160 : x53_2 < (l1_5.length : Int) := of_decide_eq_true (by first | (with_reducible assumption) | assumption)
         obtain ⟨ad160, A160_2, c160_2, A160_5, c160_5, e160, hx160_0, hx160_1, hx160_2, hx160_3, hx160_4, hx160_5, hl160_2, hi160_2, hl160_5, hi160_5⟩ := at_T32 HR1_5.out x53_2 p160 q160
         cases e160
         replace hx160_0 := cb_ HB hx160_0
         replace hx160_1 := cb_ HB hx160_1
         replace hx160_2 := cb_ HB hx160_2
         replace hx160_3 := cb_ HB hx160_3
         replace hx160_4 := cb_ HB hx160_4
         replace hx160_5 := cb_ HB hx160_5
         have HR160_2 := mk_ hi160_2; have HC160_2 := mk_ hl160_2; clear hi160_2 hl160_2
         have HR160_5 := mk_ hi160_5; have HC160_5 := mk_ hl160_5; clear hi160_5 hl160_5
         replace p160 := eq_true p160
         replace q160 := eq_true q160
         go_wp2_with (first | ((with_reducible refine gate_dst (N := 13) rfl ?_); refine bx_ 13 #[.int .i64 0, .string (⟨#[]⟩ : ByteArray), .slice none 0 0, .int .i64 0, .int .i64 0, .slice none 0 0] 32 ?_; intro gb161 hg w37 hbox hb; have n0_ := mk_ (bb_ BK151 hb); have n1_ := mk_ (bb_ BK152 hb); have n2_ := mk_ (below_step (be2_ HB GE151 GE152) hb); have n3_ := mk_ (hbox); have n4_ := mk_ (gs_ hg (be2_ HB GE151 GE152)); have n5_ := mk_ (gs_ hg (be2_ HB GE151 GE152)); have n6_ := mk_ ((by rw [hg]; exact Nat.ne_of_lt (blk_lt (g := gb151) (o := .cells #[.slice A0_0 l0_0.length c0_0, .slice A0_1 l0_1.length c0_1, .int .i64 a0_2] 25 (0, 0)) (bq_ BK151)) : gb151 ≠ gb161)); have n7_ := mk_ ((by rw [hg]; exact Nat.ne_of_gt (blk_lt (g := gb151) (o := .cells #[.slice A0_0 l0_0.length c0_0, .slice A0_1 l0_1.length c0_1, .int .i64 a0_2] 25 (0, 0)) (bq_ BK151)) : gb161 ≠ gb151)); have n8_ := mk_ ((by rw [hg]; exact Nat.ne_of_lt (blk_lt (g := gb152) (o := .cells #[.int .i64 a1_0, .string a1_1, .slice A1_2 l1_2.length c1_2, .int .i64 a1_3, .int .i64 a1_4, .slice (some ad160) l1_5.length c1_5] 32 (0, 0)) (bq_ BK152)) : gb152 ≠ gb161)); have n9_ := mk_ ((by rw [hg]; exact Nat.ne_of_gt (blk_lt (g := gb152) (o := .cells #[.int .i64 a1_0, .string a1_1, .slice A1_2 l1_2.length c1_2, .int .i64 a1_3, .int .i64 a1_4, .slice (some ad160) l1_5.length c1_5] 32 (0, 0)) (bq_ BK152)) : gb161 ≠ gb152)); clear BK151; clear BK152; clear HB; have BK151 := n0_; have BK152 := n1_; have HB := n2_; have BK161 := n3_; have GW161 := n4_; have GE161 := n5_; have NB151_161 := n6_; have NB161_151 := n7_; have NB152_161 := n8_; have NB161_152 := n9_; clear n0_ n1_ n2_ n3_ n4_ n5_ n6_ n7_ n8_ n9_; clear hb hbox hg; have hnb38 := NB161_151.out; have hnc38 := NB151_161.out; have hnb39 := NB161_152.out; have hnc39 := NB152_161.out; obtain ⟨_, _, _, _, _, _, _, _, _, _, _, _⟩ := hb6_ BK161; have hnb41 := NB151_152.out; have hnc41 := NB152_151.out; obtain ⟨_, _, _, _, _, _⟩ := hb3_ BK151) | ((with_reducible refine gate_callee (f := 53) rfl ?_); refine gl_ (some 60) Tryd.func53 #[.agg #[.slice A0_0 l0_0.length c0_0, .slice A0_1 l0_1.length c0_1, .int .i64 a0_2], .agg #[.int .i64 ((rd_T32 l1_5 x53_2).f0), .string ((rd_T32 l1_5 x53_2).f1), .slice A160_2 ((rd_T32 l1_5 x53_2).f2).length c160_2, .int .i64 ((rd_T32 l1_5 x53_2).f3), .int .i64 ((rd_T32 l1_5 x53_2).f4), .slice A160_5 ((rd_T32 l1_5 x53_2).f5).length c160_5]] ?_; (with_reducible refine (ih k2 (by have := HJ2.out; have := HK2.out; omega) _ _ l0_0 _ _ l0_1 a0_2 ((rd_T32 l1_5 x53_2).f0) ((rd_T32 l1_5 x53_2).f1) _ _ ((rd_T32 l1_5 x53_2).f2) ((rd_T32 l1_5 x53_2).f3) ((rd_T32 l1_5 x53_2).f4) _ _ ((rd_T32 l1_5 x53_2).f5) t162 t163 _ ?side1 ?side2 ?side3 ?side4 ?side5 ?side6 ?side7 ?side8 A34.out).mono ?_); (case side1 => exact Kd.C_below HR0_0.out (be3_ HB GE151 GE152 GE161)); (case side2 => exact HC0_0.out); (case side3 => exact Kd.C_below HR0_1.out (be3_ HB GE151 GE152 GE161)); (case side4 => exact HC0_1.out); (case side5 => exact Kd.C_below HR160_2.out (be3_ HB GE151 GE152 GE161)); (case side6 => exact HC160_2.out); (case side7 => exact Kd.C_below HR160_5.out (be3_ HB GE151 GE152 GE161)); (case side8 => exact HC160_5.out); rintro e w43 ⟨rfl, hb⟩; refine ⟨_, rfl, ?_⟩; have n0_ := mk_ (blk_below (g := gb151) (o := .cells #[.slice A0_0 l0_0.length c0_0, .slice A0_1 l0_1.length c0_1, .int .i64 a0_2] 25 (0, 0)) (by refine sb_ ?_; refine blk_far ?_ NB151_161.out _; refine sb_ ?_; refine blk_far ?_ NB151_161.out _; refine sb_ ?_; refine blk_far ?_ NB151_161.out _; refine sb_ ?_; refine blk_far ?_ NB151_161.out _; refine sb_ ?_; refine blk_far ?_ NB151_161.out _; refine sb_ ?_; refine blk_far ?_ NB151_161.out _; refine sb_ ?_; exact BK151.out) hb); have n1_ := mk_ (blk_below (g := gb152) (o := .cells #[.int .i64 a1_0, .string a1_1, .slice A1_2 l1_2.length c1_2, .int .i64 a1_3, .int .i64 a1_4, .slice (some ad160) l1_5.length c1_5] 32 (0, 0)) (by refine sb_ ?_; refine blk_far ?_ NB152_161.out _; refine sb_ ?_; refine blk_far ?_ NB152_161.out _; refine sb_ ?_; refine blk_far ?_ NB152_161.out _; refine sb_ ?_; refine blk_far ?_ NB152_161.out _; refine sb_ ?_; refine blk_far ?_ NB152_161.out _; refine sb_ ?_; refine blk_far ?_ NB152_161.out _; refine sb_ ?_; exact BK152.out) hb); have n2_ := mk_ (blk_below (g := gb161) (o := .cells #[.int .i64 ((rd_T32 l1_5 x53_2).f0), .string ((rd_T32 l1_5 x53_2).f1), .slice A160_2 ((rd_T32 l1_5 x53_2).f2).length c160_2, .int .i64 ((rd_T32 l1_5 x53_2).f3), .int .i64 ((rd_T32 l1_5 x53_2).f4), .slice A160_5 ((rd_T32 l1_5 x53_2).f5).length c160_5] 32 (0, 0)) (by refine sb_ ?_; refine blk_put (cs := #[.int .i64 ((rd_T32 l1_5 x53_2).f0), .string ((rd_T32 l1_5 x53_2).f1), .slice A160_2 ((rd_T32 l1_5 x53_2).f2).length c160_2, .int .i64 ((rd_T32 l1_5 x53_2).f3), .int .i64 ((rd_T32 l1_5 x53_2).f4), .slice none 0 0]) ?_ 5 _ rfl; refine sb_ ?_; refine blk_put (cs := #[.int .i64 ((rd_T32 l1_5 x53_2).f0), .string ((rd_T32 l1_5 x53_2).f1), .slice A160_2 ((rd_T32 l1_5 x53_2).f2).length c160_2, .int .i64 ((rd_T32 l1_5 x53_2).f3), .int .i64 0, .slice none 0 0]) ?_ 4 _ rfl; refine sb_ ?_; refine blk_put (cs := #[.int .i64 ((rd_T32 l1_5 x53_2).f0), .string ((rd_T32 l1_5 x53_2).f1), .slice A160_2 ((rd_T32 l1_5 x53_2).f2).length c160_2, .int .i64 0, .int .i64 0, .slice none 0 0]) ?_ 3 _ rfl; refine sb_ ?_; refine blk_put (cs := #[.int .i64 ((rd_T32 l1_5 x53_2).f0), .string ((rd_T32 l1_5 x53_2).f1), .slice none 0 0, .int .i64 0, .int .i64 0, .slice none 0 0]) ?_ 2 _ rfl; refine sb_ ?_; refine blk_put (cs := #[.int .i64 ((rd_T32 l1_5 x53_2).f0), .string (⟨#[]⟩ : ByteArray), .slice none 0 0, .int .i64 0, .int .i64 0, .slice none 0 0]) ?_ 1 _ rfl; refine sb_ ?_; refine blk_put (cs := #[.int .i64 0, .string (⟨#[]⟩ : ByteArray), .slice none 0 0, .int .i64 0, .int .i64 0, .slice none 0 0]) ?_ 0 _ rfl; refine sb_ ?_; exact BK161.out) hb); have n3_ := mk_ (below_step (be3_ HB GE151 GE152 GE161) hb); clear BK151; clear BK152; clear BK161; clear HB; have BK151 := n0_; have BK152 := n1_; have BK161 := n2_; have HB := n3_; clear n0_ n1_ n2_ n3_))
         go_roundg k2
         case measure => have := HJ2.out; have := HK2.out; omega
         case rel => exact ⟨(t163), (ji36), (wrap64 (x53_2 + 1)), fi_, (by first | rfl | (simp; done) | (simp only [← hji36] <;> (first | rfl | simp)) | (simp [*]; done)), fi_, H', ⟨by have := HJ2.out; have := HK2.out; omega⟩, ⟨bq_ BK151⟩, ⟨bq_ BK152⟩, ⟨be3_ HB GE151 GE152 GE161⟩⟩
        ·replace c35 := Bool.eq_false_iff.mpr c35
         subst c35
         rw [if_neg nf_] at H
         obtain ⟨ji44, hji44⟩ : ∃ j_ : Int, (mn (wrap64 (x11_2 + t162)) 1048577) = j_ := ⟨_, rfl⟩
         replace H : (evaluate_work.l0 k2 x6_2 false ji44 l1_5 (l1_5.length : Int) (wrap64 (x53_2 + 1)) l0_0 l0_1 a0_2) = some (r1, r2) := by first | (rw [hji44] at H; exact H) | (simp only [hji44] at H ⊢; exact H)
         (try rw [hji44] at A34)
         have hji44_ : (if 1048577 < (wrap64 (x11_2 + t162)) then 1048577 else (wrap64 (x11_2 + t162))) = ji44 := hji44
         have H' := mk_ H
         clear H
         have p160 : 0 ≤ (x53_2 : Int) := of_decide_eq_true (by first | (with_reducible assumption) | assumption)
         have q160 : x53_2 < (l1_5.length : Int) := of_decide_eq_true (by first | (with_reducible assumption) | assumption)
         obtain ⟨ad160, A160_2, c160_2, A160_5, c160_5, e160, hx160_0, hx160_1, hx160_2, hx160_3, hx160_4, hx160_5, hl160_2, hi160_2, hl160_5, hi160_5⟩ := at_T32 HR1_5.out x53_2 p160 q160
         cases e160
         replace hx160_0 := cb_ HB hx160_0
         replace hx160_1 := cb_ HB hx160_1
         replace hx160_2 := cb_ HB hx160_2
         replace hx160_3 := cb_ HB hx160_3
         replace hx160_4 := cb_ HB hx160_4
         replace hx160_5 := cb_ HB hx160_5
         have HR160_2 := mk_ hi160_2; have HC160_2 := mk_ hl160_2; clear hi160_2 hl160_2
         have HR160_5 := mk_ hi160_5; have HC160_5 := mk_ hl160_5; clear hi160_5 hl160_5
         replace p160 := eq_true p160
         replace q160 := eq_true q160
         go_wp2_with (first | ((with_reducible refine gate_dst (N := 13) rfl ?_); refine bx_ 13 #[.int .i64 0, .string (⟨#[]⟩ : ByteArray), .slice none 0 0, .int .i64 0, .int .i64 0, .slice none 0 0] 32 ?_; intro gb161 hg w45 hbox hb; have n0_ := mk_ (bb_ BK151 hb); have n1_ := mk_ (bb_ BK152 hb); have n2_ := mk_ (below_step (be2_ HB GE151 GE152) hb); have n3_ := mk_ (hbox); have n4_ := mk_ (gs_ hg (be2_ HB GE151 GE152)); have n5_ := mk_ (gs_ hg (be2_ HB GE151 GE152)); have n6_ := mk_ ((by rw [hg]; exact Nat.ne_of_lt (blk_lt (g := gb151) (o := .cells #[.slice A0_0 l0_0.length c0_0, .slice A0_1 l0_1.length c0_1, .int .i64 a0_2] 25 (0, 0)) (bq_ BK151)) : gb151 ≠ gb161)); have n7_ := mk_ ((by rw [hg]; exact Nat.ne_of_gt (blk_lt (g := gb151) (o := .cells #[.slice A0_0 l0_0.length c0_0, .slice A0_1 l0_1.length c0_1, .int .i64 a0_2] 25 (0, 0)) (bq_ BK151)) : gb161 ≠ gb151)); have n8_ := mk_ ((by rw [hg]; exact Nat.ne_of_lt (blk_lt (g := gb152) (o := .cells #[.int .i64 a1_0, .string a1_1, .slice A1_2 l1_2.length c1_2, .int .i64 a1_3, .int .i64 a1_4, .slice (some ad160) l1_5.length c1_5] 32 (0, 0)) (bq_ BK152)) : gb152 ≠ gb161)); have n9_ := mk_ ((by rw [hg]; exact Nat.ne_of_gt (blk_lt (g := gb152) (o := .cells #[.int .i64 a1_0, .string a1_1, .slice A1_2 l1_2.length c1_2, .int .i64 a1_3, .int .i64 a1_4, .slice (some ad160) l1_5.length c1_5] 32 (0, 0)) (bq_ BK152)) : gb161 ≠ gb152)); clear BK151; clear BK152; clear HB; have BK151 := n0_; have BK152 := n1_; have HB := n2_; have BK161 := n3_; have GW161 := n4_; have GE161 := n5_; have NB151_161 := n6_; have NB161_151 := n7_; have NB152_161 := n8_; have NB161_152 := n9_; clear n0_ n1_ n2_ n3_ n4_ n5_ n6_ n7_ n8_ n9_; clear hb hbox hg; have hnb46 := NB161_151.out; have hnc46 := NB151_161.out; have hnb47 := NB161_152.out; have hnc47 := NB152_161.out; obtain ⟨_, _, _, _, _, _, _, _, _, _, _, _⟩ := hb6_ BK161; have hnb49 := NB151_152.out; have hnc49 := NB152_151.out; obtain ⟨_, _, _, _, _, _⟩ := hb3_ BK151) | ((with_reducible refine gate_callee (f := 53) rfl ?_); refine gl_ (some 60) Tryd.func53 #[.agg #[.slice A0_0 l0_0.length c0_0, .slice A0_1 l0_1.length c0_1, .int .i64 a0_2], .agg #[.int .i64 ((rd_T32 l1_5 x53_2).f0), .string ((rd_T32 l1_5 x53_2).f1), .slice A160_2 ((rd_T32 l1_5 x53_2).f2).length c160_2, .int .i64 ((rd_T32 l1_5 x53_2).f3), .int .i64 ((rd_T32 l1_5 x53_2).f4), .slice A160_5 ((rd_T32 l1_5 x53_2).f5).length c160_5]] ?_; (with_reducible refine (ih k2 (by have := HJ2.out; have := HK2.out; omega) _ _ l0_0 _ _ l0_1 a0_2 ((rd_T32 l1_5 x53_2).f0) ((rd_T32 l1_5 x53_2).f1) _ _ ((rd_T32 l1_5 x53_2).f2) ((rd_T32 l1_5 x53_2).f3) ((rd_T32 l1_5 x53_2).f4) _ _ ((rd_T32 l1_5 x53_2).f5) t162 t163 _ ?side1 ?side2 ?side3 ?side4 ?side5 ?side6 ?side7 ?side8 A34.out).mono ?_); (case side1 => exact Kd.C_below HR0_0.out (be3_ HB GE151 GE152 GE161)); (case side2 => exact HC0_0.out); (case side3 => exact Kd.C_below HR0_1.out (be3_ HB GE151 GE152 GE161)); (case side4 => exact HC0_1.out); (case side5 => exact Kd.C_below HR160_2.out (be3_ HB GE151 GE152 GE161)); (case side6 => exact HC160_2.out); (case side7 => exact Kd.C_below HR160_5.out (be3_ HB GE151 GE152 GE161)); (case side8 => exact HC160_5.out); rintro e w51 ⟨rfl, hb⟩; refine ⟨_, rfl, ?_⟩; have n0_ := mk_ (blk_below (g := gb151) (o := .cells #[.slice A0_0 l0_0.length c0_0, .slice A0_1 l0_1.length c0_1, .int .i64 a0_2] 25 (0, 0)) (by refine sb_ ?_; refine blk_far ?_ NB151_161.out _; refine sb_ ?_; refine blk_far ?_ NB151_161.out _; refine sb_ ?_; refine blk_far ?_ NB151_161.out _; refine sb_ ?_; refine blk_far ?_ NB151_161.out _; refine sb_ ?_; refine blk_far ?_ NB151_161.out _; refine sb_ ?_; refine blk_far ?_ NB151_161.out _; refine sb_ ?_; exact BK151.out) hb); have n1_ := mk_ (blk_below (g := gb152) (o := .cells #[.int .i64 a1_0, .string a1_1, .slice A1_2 l1_2.length c1_2, .int .i64 a1_3, .int .i64 a1_4, .slice (some ad160) l1_5.length c1_5] 32 (0, 0)) (by refine sb_ ?_; refine blk_far ?_ NB152_161.out _; refine sb_ ?_; refine blk_far ?_ NB152_161.out _; refine sb_ ?_; refine blk_far ?_ NB152_161.out _; refine sb_ ?_; refine blk_far ?_ NB152_161.out _; refine sb_ ?_; refine blk_far ?_ NB152_161.out _; refine sb_ ?_; refine blk_far ?_ NB152_161.out _; refine sb_ ?_; exact BK152.out) hb); have n2_ := mk_ (blk_below (g := gb161) (o := .cells #[.int .i64 ((rd_T32 l1_5 x53_2).f0), .string ((rd_T32 l1_5 x53_2).f1), .slice A160_2 ((rd_T32 l1_5 x53_2).f2).length c160_2, .int .i64 ((rd_T32 l1_5 x53_2).f3), .int .i64 ((rd_T32 l1_5 x53_2).f4), .slice A160_5 ((rd_T32 l1_5 x53_2).f5).length c160_5] 32 (0, 0)) (by refine sb_ ?_; refine blk_put (cs := #[.int .i64 ((rd_T32 l1_5 x53_2).f0), .string ((rd_T32 l1_5 x53_2).f1), .slice A160_2 ((rd_T32 l1_5 x53_2).f2).length c160_2, .int .i64 ((rd_T32 l1_5 x53_2).f3), .int .i64 ((rd_T32 l1_5 x53_2).f4), .slice none 0 0]) ?_ 5 _ rfl; refine sb_ ?_; refine blk_put (cs := #[.int .i64 ((rd_T32 l1_5 x53_2).f0), .string ((rd_T32 l1_5 x53_2).f1), .slice A160_2 ((rd_T32 l1_5 x53_2).f2).length c160_2, .int .i64 ((rd_T32 l1_5 x53_2).f3), .int .i64 0, .slice none 0 0]) ?_ 4 _ rfl; refine sb_ ?_; refine blk_put (cs := #[.int .i64 ((rd_T32 l1_5 x53_2).f0), .string ((rd_T32 l1_5 x53_2).f1), .slice A160_2 ((rd_T32 l1_5 x53_2).f2).length c160_2, .int .i64 0, .int .i64 0, .slice none 0 0]) ?_ 3 _ rfl; refine sb_ ?_; refine blk_put (cs := #[.int .i64 ((rd_T32 l1_5 x53_2).f0), .string ((rd_T32 l1_5 x53_2).f1), .slice none 0 0, .int .i64 0, .int .i64 0, .slice none 0 0]) ?_ 2 _ rfl; refine sb_ ?_; refine blk_put (cs := #[.int .i64 ((rd_T32 l1_5 x53_2).f0), .string (⟨#[]⟩ : ByteArray), .slice none 0 0, .int .i64 0, .int .i64 0, .slice none 0 0]) ?_ 1 _ rfl; refine sb_ ?_; refine blk_put (cs := #[.int .i64 0, .string (⟨#[]⟩ : ByteArray), .slice none 0 0, .int .i64 0, .int .i64 0, .slice none 0 0]) ?_ 0 _ rfl; refine sb_ ?_; exact BK161.out) hb); have n3_ := mk_ (below_step (be3_ HB GE151 GE152 GE161) hb); clear BK151; clear BK152; clear BK161; clear HB; have BK151 := n0_; have BK152 := n1_; have BK161 := n2_; have HB := n3_; clear n0_ n1_ n2_ n3_))
         go_roundg k2
         case measure => have := HJ2.out; have := HK2.out; omega
         case rel => exact ⟨(false), (ji44), (wrap64 (x53_2 + 1)), fi_, (by first | rfl | (simp; done) | (simp only [← hji44] <;> (first | rfl | simp)) | (simp [*]; done)), fi_, H', ⟨by have := HJ2.out; have := HK2.out; omega⟩, ⟨bq_ BK151⟩, ⟨bq_ BK152⟩, ⟨be3_ HB GE151 GE152 GE161⟩⟩
       ·rw [if_neg c33] at H
        exact absurd H (by simp)
      ·rw [if_neg c32] at H
       exact absurd H (by simp)
     ·rw [if_neg c31] at H
      have c31b0 : decide (x53_2 < (l1_5.length : Int)) = false := decide_eq_false c31
      clear c31
      obtain ⟨ji52, hji52⟩ : ∃ j_ : Int, (mn (wrap64 (1 + (wrap64 (x11_2 * x6_2)))) 1048577) = j_ := ⟨_, rfl⟩
      replace H : (some (ji52, x7_2)) = some (r1, r2) := by first | (rw [hji52] at H; exact H) | (simp only [hji52] at H ⊢; exact H)
      have hji52_ : (if 1048577 < (wrap64 (1 + (wrap64 (x11_2 * x6_2)))) then 1048577 else (wrap64 (1 + (wrap64 (x11_2 * x6_2))))) = ji52 := hji52
      simp only [Option.some.injEq, Prod.mk.injEq] at H
      obtain ⟨rfl, rfl⟩ := H
      go_wp2
      go_ret2
      exact ⟨by first | rfl | (simp [errW_none, errW_some] <;> rfl) | (simp only [← hji52]; first | rfl | (simp [errW_none, errW_some] <;> rfl)) | (simp [*, errW_none, errW_some] <;> rfl), be2_ HB GE151 GE152⟩
end Go.Proofs.YtolpckflofjfhaaDoor.P
