import Derived.Test.YtolpckflofjfhaaDoorPx0
import Derived.Test.YtolpckflofjfhaaDoorPx1
namespace Go.Proofs.YtolpckflofjfhaaDoor.P
open Go.RowKit Go.Proofs.YtolpckflofjfhaaDoorW.PrintWords Go.Proofs.YtolpckflofjfhaaDoorW.PrintLast Go.Proofs.YtolpckflofjfhaaDoorW.PrintMore
attribute [local go_sem] max2_int min2_int max_two min_two max_three min_three max_four min_four
set_option linter.unusedVariables false
set_option maxHeartbeats 8000000
set_option maxRecDepth 100000
set_option linter.unusedSimpArgs false
mutual
def formula_fields.j0 : Nat → Int → Bool → Int → ByteArray → List (S92) → Int → Int → List (S32) → Option (Bool)
 | 0, _, _, _, _, _, _, _, _ => none
 | k + 1, x1, x19, x118000, x118001, x118002, x118003, x118004, x118005 => if x19 = true then (some false) else (if x118000 = 3 then (formula_fields.j1 k x1 false x118000 x118001 x118002 x118003 x118004 x118005) else (formula_fields.j1 k x1 (decide ((x118002.length : Int) > 0)) x118000 x118001 x118002 x118003 x118004 x118005))
def formula_fields.j1 : Nat → Int → Bool → Int → ByteArray → List (S92) → Int → Int → List (S32) → Option (Bool)
 | 0, _, _, _, _, _, _, _, _ => none
 | k + 1, x1, x28, x118000, x118001, x118002, x118003, x118004, x118005 => if x28 = true then (some false) else (if x118000 = 3 then (formula_fields.j2 k x1 false x118000 x118001 x118002 x118003 x118004 x118005) else ((formula_binds.f x118000).bind fun t118 => (if t118 = true then (formula_fields.j2 k x1 false x118000 x118001 x118002 x118003 x118004 x118005) else (formula_fields.j2 k x1 (x118001.toList != ([] : List UInt8)) x118000 x118001 x118002 x118003 x118004 x118005))))
def formula_fields.j2 : Nat → Int → Bool → Int → ByteArray → List (S92) → Int → Int → List (S32) → Option (Bool)
 | 0, _, _, _, _, _, _, _, _ => none
 | k + 1, x1, x42, x118000, x118001, x118002, x118003, x118004, x118005 => if x42 = true then (some false) else (if x118000 = 1 then (formula_fields.j3 k x1 x118000 (x118000 == 1) x118000 x118001 x118002 x118003 x118004 x118005) else (formula_fields.j3 k x1 x118000 (x118000 == 2) x118000 x118001 x118002 x118003 x118004 x118005))
def formula_fields.j3 : Nat → Int → Int → Bool → Int → ByteArray → List (S92) → Int → Int → List (S32) → Option (Bool)
 | 0, _, _, _, _, _, _, _, _, _ => none
 | k + 1, x1, x44, x45, x118000, x118001, x118002, x118003, x118004, x118005 => if x45 = true then (some ((x118005.length : Int) == 0)) else (if x44 = 3 then (formula_fields.l0 k x1 x118002 (x118002.length : Int) 0 x118000 x118001 x118002 x118003 x118004 x118005) else (if x44 = 4 then (formula_fields.j5 k x44 (x44 == 4) x118000 x118001 x118002 x118003 x118004 x118005) else (if x44 = 11 then (formula_fields.j5 k x44 (x44 == 11) x118000 x118001 x118002 x118003 x118004 x118005) else (formula_fields.j5 k x44 (x44 == 12) x118000 x118001 x118002 x118003 x118004 x118005))))
def formula_fields.l0 : Nat → Int → List (S92) → Int → Int → Int → ByteArray → List (S92) → Int → Int → List (S32) → Option (Bool)
 | 0, _, _, _, _, _, _, _, _, _, _ => none
 | k + 1, x1, x55, x56, x57, x118000, x118001, x118002, x118003, x118004, x118005 => if x57 < x56 then (if 0 ≤ x57 then (if x57 < (x55.length : Int) then ((formula_reference.f k ((rd_T92 x55 x57).f0) ((rd_T92 x55 x57).f1) ((rd_T92 x55 x57).f2) x1).bind fun t121 => (if t121 = true then (formula_fields.l0 k x1 x55 x56 (wrap64 (x57 + 1)) x118000 x118001 x118002 x118003 x118004 x118005) else (some false))) else (none)) else (none)) else (if (x118005.length : Int) = 0 then (if (x118002.length : Int) ≥ 1 then (if (x118002.length : Int) ≤ 3 then ((formula_symbol.f k x118001).bind fun t122 => (some t122)) else (some false)) else (some false)) else (some false))
def formula_fields.j5 : Nat → Int → Bool → Int → ByteArray → List (S92) → Int → Int → List (S32) → Option (Bool)
 | 0, _, _, _, _, _, _, _, _ => none
 | k + 1, x44, x87, x118000, x118001, x118002, x118003, x118004, x118005 => if x87 = true then (some ((x118005.length : Int) == 1)) else (if x44 = 5 then (formula_fields.j6 k x44 (x44 == 5) x118000 x118001 x118002 x118003 x118004 x118005) else (formula_fields.j6 k x44 (x44 == 6) x118000 x118001 x118002 x118003 x118004 x118005))
def formula_fields.j6 : Nat → Int → Bool → Int → ByteArray → List (S92) → Int → Int → List (S32) → Option (Bool)
 | 0, _, _, _, _, _, _, _, _ => none
 | k + 1, x44, x95, x118000, x118001, x118002, x118003, x118004, x118005 => if x95 = true then (some true) else (if x44 = 7 then (some ((x118005.length : Int) == 2)) else (if x44 = 8 then (formula_fields.j7 k x44 (x44 == 8) x118000 x118001 x118002 x118003 x118004 x118005) else (formula_fields.j7 k x44 (x44 == 9) x118000 x118001 x118002 x118003 x118004 x118005)))
def formula_fields.j7 : Nat → Int → Bool → Int → ByteArray → List (S92) → Int → Int → List (S32) → Option (Bool)
 | 0, _, _, _, _, _, _, _, _ => none
 | k + 1, x44, x104, x118000, x118001, x118002, x118003, x118004, x118005 => if x104 = true then (if (x118005.length : Int) = 1 then ((formula_symbol.f k x118001).bind fun t123 => (some t123)) else (some false)) else (if x44 = 10 then (if (x118005.length : Int) = 1 then ((formula_moment.f x118003).bind fun t124 => (if t124 = true then ((formula_moment.f x118004).bind fun t125 => (some t125)) else (some false))) else (some false)) else (some false))
end
def formula_fields.f (k : Nat) (a0_0 : Int) (a0_1 : ByteArray) (l0_2 : List (S92)) (a0_3 : Int) (a0_4 : Int) (l0_5 : List (S32)) (a1 : Int) : Option (Bool) := if a0_0 = 10 then (formula_fields.j0 k a1 false a0_0 a0_1 l0_2 a0_3 a0_4 l0_5) else (if a0_3 = 0 then (formula_fields.j0 k a1 (a0_4 != 0) a0_0 a0_1 l0_2 a0_3 a0_4 l0_5) else (formula_fields.j0 k a1 true a0_0 a0_1 l0_2 a0_3 a0_4 l0_5))
theorem formula_fields.calls (k : Nat) (a0_0 : Int) (a0_1 : ByteArray) (A0_2 : Option Addr) (c0_2 : Nat) (l0_2 : List (S92)) (a0_3 : Int) (a0_4 : Int) (A0_5 : Option Addr) (c0_5 : Nat) (l0_5 : List (S32)) (a1 : Int) (r : Bool) (w : World) (hr0_2 : Kd.C k92 w A0_2 l0_2.length l0_2) (hc0_2 : l0_2.length ≤ c0_2) (hr0_5 : Kd.C k32 w A0_5 l0_5.length l0_5) (hc0_5 : l0_5.length ≤ c0_5) (h : formula_fields.f k a0_0 a0_1 l0_2 a0_3 a0_4 l0_5 a1 = some r) :
  Calls Tryd.prog 74 #[.agg #[.int .i64 a0_0, .string a0_1, .slice A0_2 l0_2.length c0_2, .int .i64 a0_3, .int .i64 a0_4, .slice A0_5 l0_5.length c0_5], .int .i64 a1] w fun e w' => e = .returned (.bool r) ∧ Below w.heap.size w w' := by
 have hu32 := Tryd.underlying32
 have hu92 := Tryd.underlying92
 have HR0_2 := mk_ hr0_2; have HC0_2 := mk_ hc0_2; clear hr0_2 hc0_2
 have HR0_5 := mk_ hr0_5; have HC0_5 := mk_ hc0_5; clear hr0_5 hc0_5
 have HB := mk_ (Below.refl w.heap.size w)
 have H : (if a0_0 = 10 then (formula_fields.j0 k a1 false a0_0 a0_1 l0_2 a0_3 a0_4 l0_5) else (if a0_3 = 0 then (formula_fields.j0 k a1 (a0_4 != 0) a0_0 a0_1 l0_2 a0_3 a0_4 l0_5) else (formula_fields.j0 k a1 true a0_0 a0_1 l0_2 a0_3 a0_4 l0_5))) = some r := h
 clear h
 have HC3 := mk_ H
 clear H
 go_enter Tryd.func74, Tryd.ntmps74
 go_upto_region 1 with (first | ((with_reducible refine gate_dst (N := 2) rfl ?_); (try (refine gate_guard (by rfl) ?_; dsimp only)); refine bx_ 2 #[.int .i64 a0_0, .string a0_1, .slice A0_2 l0_2.length c0_2, .int .i64 a0_3, .int .i64 a0_4, .slice A0_5 l0_5.length c0_5] 32 ?_; intro gb117 hg w4 hbox hb; have BK117 := mk_ (hbox); have GW117 := mk_ (gs_ hg (be_ HB)); have GE117 := mk_ (gs_ hg (be_ HB)); replace HB := mk_ (below_step (be_ HB) hb); clear hb hbox hg))
 (try simp only [Act.put, List.setIfInBounds_toArray, List.set_cons_zero, List.set_cons_succ])
 go_cut [19] (fun v19 wc => ∃ (kq : Nat) (x19_2 : Bool), v19 = .bool x19_2 ∧ Aside0 (formula_fields.j0 kq a1 x19_2 a0_0 a0_1 l0_2 a0_3 a0_4 l0_5 = some r) ∧ Aside0 (kq ≤ k) ∧ Aside0 (wc.heap[gb117]? = some (.cells #[.int .i64 a0_0, .string a0_1, (.slice A0_2 l0_2.length c0_2), .int .i64 a0_3, .int .i64 a0_4, (.slice A0_5 l0_5.length c0_5)] 32 (0, 0))) ∧ Aside0 (Below w.heap.size w wc))
 case first =>
  have H := HC3.out
  clear HC3
  by_cases c5 : a0_0 = 10
  ·rw [if_pos c5] at H
   obtain ⟨c5b0, c5b1⟩ := eb_ c5
   clear c5
   (first | rw [c5b0] | (simp only [i64_w, i32_w]; rw [c5b0]) | skip)
   have H' := mk_ H
   clear H
   obtain ⟨_, _, _, _, _, _, _, _, _, _, _, _⟩ := hb6_ BK117
   go_wp2
   go_meet
   case rel => exact ⟨_, (false), (by first | rfl | (simp; done) | (simp [*]; done) | (simp [pw_isEmpty]; done)), H', ⟨by first | omega | exact Nat.le_refl _⟩, ⟨bq_ BK117⟩, ⟨be1_ HB GE117⟩⟩
  ·rw [if_neg c5] at H
   obtain ⟨c5b0, c5b1⟩ := en_ c5
   (first | rw [c5b0] | (simp only [i64_w, i32_w]; rw [c5b0]) | skip)
   by_cases c7 : a0_3 = 0
   ·rw [if_pos c7] at H
    obtain ⟨c7b0, c7b1⟩ := eb_ c7
    clear c7
    have H' := mk_ H
    clear H
    obtain ⟨_, _, _, _, _, _, _, _, _, _, _, _⟩ := hb6_ BK117
    go_wp2
    go_meet
    case rel => exact ⟨_, ((a0_4 != 0)), (by first | rfl | (simp; done) | (simp [*]; done) | (simp [pw_isEmpty]; done)), H', ⟨by first | omega | exact Nat.le_refl _⟩, ⟨bq_ BK117⟩, ⟨be1_ HB GE117⟩⟩
   ·rw [if_neg c7] at H
    obtain ⟨c7b0, c7b1⟩ := en_ c7
    have H' := mk_ H
    clear H
    obtain ⟨_, _, _, _, _, _, _, _, _, _, _, _⟩ := hb6_ BK117
    go_wp2
    go_meet
    case rel => exact ⟨_, (true), (by first | rfl | (simp; done) | (simp [*]; done) | (simp [pw_isEmpty]; done)), H', ⟨by first | omega | exact Nat.le_refl _⟩, ⟨bq_ BK117⟩, ⟨be1_ HB GE117⟩⟩
 case rest =>
  clear HC3
  obtain ⟨kq, x19_2, rfl, HA, HJ2, BK117, HB⟩ := hcut
  cases kq with
  | zero => exact absurd HA.out (by simp [formula_fields.j0])
  | succ kj2 =>
   have H := HA.out
   clear HA
   simp only [formula_fields.j0] at H
   by_cases c10 : x19_2 = true
   ·subst c10
    rw [if_pos rfl] at H
    obtain rfl := Option.some.inj H
    go_wp2
    go_ret
    exact ⟨er_, be1_ HB GE117⟩
   ·replace c10 := Bool.eq_false_iff.mpr c10
    subst c10
    rw [if_neg nf_] at H
    have HC11 := mk_ H
    clear H
    go_upto_region 3 with (fail)
    go_cut [28] (fun v28 wc => ∃ (kq : Nat) (x28_10 : Bool), v28 = .bool x28_10 ∧ Aside0 (formula_fields.j1 kq a1 x28_10 a0_0 a0_1 l0_2 a0_3 a0_4 l0_5 = some r) ∧ Aside0 (kq ≤ kj2) ∧ Aside0 (wc.heap[gb117]? = some (.cells #[.int .i64 a0_0, .string a0_1, (.slice A0_2 l0_2.length c0_2), .int .i64 a0_3, .int .i64 a0_4, (.slice A0_5 l0_5.length c0_5)] 32 (0, 0))) ∧ Aside0 (Below w.heap.size w wc))
    case first =>
     have H := HC11.out
     clear HC11
     by_cases c12 : a0_0 = 3
     ·rw [if_pos c12] at H
      obtain ⟨c12b0, c12b1⟩ := eb_ c12
      clear c12
      (first | rw [c12b0] | (simp only [i64_w, i32_w]; rw [c12b0]) | skip)
      have H' := mk_ H
      clear H
      obtain ⟨_, _, _, _, _, _, _, _, _, _, _, _⟩ := hb6_ BK117
      go_wp2
      go_meet
      case rel => exact ⟨_, (false), (by first | rfl | (simp; done) | (simp [*]; done) | (simp [pw_isEmpty]; done)), H', ⟨by have := HJ2.out; first | omega | exact Nat.le_refl _⟩, ⟨bq_ BK117⟩, ⟨be1_ HB GE117⟩⟩
     ·rw [if_neg c12] at H
      obtain ⟨c12b0, c12b1⟩ := en_ c12
      (first | rw [c12b0] | (simp only [i64_w, i32_w]; rw [c12b0]) | skip)
      have H' := mk_ H
      clear H
      obtain ⟨_, _, _, _, _, _, _, _, _, _, _, _⟩ := hb6_ BK117
      go_wp2
      go_meet
      case rel => exact ⟨_, (decide ((l0_2.length : Int) > 0)), (by first | rfl | (simp; done) | (simp [*]; done) | (simp [pw_isEmpty]; done)), H', ⟨by have := HJ2.out; first | omega | exact Nat.le_refl _⟩, ⟨bq_ BK117⟩, ⟨be1_ HB GE117⟩⟩
    case rest =>
     clear HC11
     obtain ⟨kq, x28_10, rfl, HA, HJ10, BK117, HB⟩ := hcut
     cases kq with
     | zero => exact absurd HA.out (by simp [formula_fields.j1])
     | succ kj10 =>
      have H := HA.out
      clear HA
      simp only [formula_fields.j1] at H
      by_cases c15 : x28_10 = true
      ·subst c15
       rw [if_pos rfl] at H
       obtain rfl := Option.some.inj H
       go_wp2
       go_ret
       exact ⟨er_, be1_ HB GE117⟩
      ·replace c15 := Bool.eq_false_iff.mpr c15
       subst c15
       rw [if_neg nf_] at H
       have HC16 := mk_ H
       clear H
       go_upto_region 5 with (fail)
       go_cut [42] (fun v42 wc => ∃ (kq : Nat) (x42_15 : Bool), v42 = .bool x42_15 ∧ Aside0 (formula_fields.j2 kq a1 x42_15 a0_0 a0_1 l0_2 a0_3 a0_4 l0_5 = some r) ∧ Aside0 (kq ≤ kj10) ∧ Aside0 (wc.heap[gb117]? = some (.cells #[.int .i64 a0_0, .string a0_1, (.slice A0_2 l0_2.length c0_2), .int .i64 a0_3, .int .i64 a0_4, (.slice A0_5 l0_5.length c0_5)] 32 (0, 0))) ∧ Aside0 (Below w.heap.size w wc))
       case first =>
        have H := HC16.out
        clear HC16
        by_cases c17 : a0_0 = 3
        ·rw [if_pos c17] at H
         obtain ⟨c17b0, c17b1⟩ := eb_ c17
         clear c17
         (first | rw [c17b0] | (simp only [i64_w, i32_w]; rw [c17b0]) | skip)
         have H' := mk_ H
         clear H
         obtain ⟨_, _, _, _, _, _, _, _, _, _, _, _⟩ := hb6_ BK117
         go_wp2
         go_meet
         case rel => exact ⟨_, (false), (by first | rfl | (simp; done) | (simp [*]; done) | (simp [pw_isEmpty]; done)), H', ⟨by have := HJ2.out; have := HJ10.out; first | omega | exact Nat.le_refl _⟩, ⟨bq_ BK117⟩, ⟨be1_ HB GE117⟩⟩
        ·rw [if_neg c17] at H
         obtain ⟨c17b0, c17b1⟩ := en_ c17
         (first | rw [c17b0] | (simp only [i64_w, i32_w]; rw [c17b0]) | skip)
         replace H := Option.bind_eq_some_iff.mp H
         obtain ⟨t118, A190, H⟩ := H
         replace H : (if t118 = true then (formula_fields.j2 kj10 a1 false a0_0 a0_1 l0_2 a0_3 a0_4 l0_5) else (formula_fields.j2 kj10 a1 (a0_1.toList != ([] : List UInt8)) a0_0 a0_1 l0_2 a0_3 a0_4 l0_5)) = some r := H
         have A19 := mk_ A190
         clear A190
         by_cases c20 : t118 = true
         ·subst c20
          rw [if_pos rfl] at H
          have H' := mk_ H
          clear H
          obtain ⟨_, _, _, _, _, _, _, _, _, _, _, _⟩ := hb6_ BK117
          go_wp2_with (first | (go_at_call 75; (with_reducible refine (formula_binds.calls a0_0 true _ A19.out).mono ?_); rintro e w' ⟨rfl, ⟨nd, rfl⟩⟩))
          go_meet
          case rel => exact ⟨_, (false), (by first | rfl | (simp; done) | (simp [*]; done) | (simp [pw_isEmpty]; done)), H', ⟨by have := HJ2.out; have := HJ10.out; first | omega | exact Nat.le_refl _⟩, ⟨bq_ BK117⟩, ⟨be1_ HB GE117⟩⟩
         ·replace c20 := Bool.eq_false_iff.mpr c20
          subst c20
          rw [if_neg nf_] at H
          have H' := mk_ H
          clear H
          obtain ⟨_, _, _, _, _, _, _, _, _, _, _, _⟩ := hb6_ BK117
          go_wp2_with (first | (go_at_call 75; (with_reducible refine (formula_binds.calls a0_0 false _ A19.out).mono ?_); rintro e w' ⟨rfl, ⟨nd, rfl⟩⟩))
          go_meet
          case rel => exact ⟨_, ((a0_1.toList != ([] : List UInt8))), (by first | rfl | (simp; done) | (simp [*]; done) | (simp [pw_isEmpty]; done)), H', ⟨by have := HJ2.out; have := HJ10.out; first | omega | exact Nat.le_refl _⟩, ⟨bq_ BK117⟩, ⟨be1_ HB GE117⟩⟩
       case rest =>
        clear HC16
        obtain ⟨kq, x42_15, rfl, HA, HJ15, BK117, HB⟩ := hcut
        cases kq with
        | zero => exact absurd HA.out (by simp [formula_fields.j2])
        | succ kj15 =>
         have H := HA.out
         clear HA
         simp only [formula_fields.j2] at H
         by_cases c23 : x42_15 = true
         ·subst c23
          rw [if_pos rfl] at H
          obtain rfl := Option.some.inj H
          go_wp2
          go_ret
          exact ⟨er_, be1_ HB GE117⟩
         ·replace c23 := Bool.eq_false_iff.mpr c23
          subst c23
          rw [if_neg nf_] at H
          have HC24 := mk_ H
          clear H
          obtain ⟨_, _, _, _, _, _, _, _, _, _, _, _⟩ := hb6_ BK117
          go_upto_if 45 with (fail)
          go_cut [45] (fun v45 wc => ∃ (kq : Nat) (x45_23 : Bool), v45 = .bool x45_23 ∧ Aside0 (formula_fields.j3 kq a1 a0_0 x45_23 a0_0 a0_1 l0_2 a0_3 a0_4 l0_5 = some r) ∧ Aside0 (kq ≤ kj15) ∧ Aside0 (wc.heap[gb117]? = some (.cells #[.int .i64 a0_0, .string a0_1, (.slice A0_2 l0_2.length c0_2), .int .i64 a0_3, .int .i64 a0_4, (.slice A0_5 l0_5.length c0_5)] 32 (0, 0))) ∧ Aside0 (Below w.heap.size w wc))
          case first =>
           have H := HC24.out
           clear HC24
           by_cases c26 : a0_0 = 1
           ·rw [if_pos c26] at H
            obtain ⟨c26b0, c26b1⟩ := eb_ c26
            clear c26
            (first | rw [c26b0] | (simp only [i64_w, i32_w]; rw [c26b0]) | skip)
            have H' := mk_ H
            clear H
            go_wp2
            go_meet
            case rel => exact ⟨_, ((a0_0 == 1)), (by first | rfl | (simp; done) | (simp [*]; done) | (simp [pw_isEmpty]; done)), H', ⟨by have := HJ2.out; have := HJ10.out; have := HJ15.out; first | omega | exact Nat.le_refl _⟩, ⟨bq_ BK117⟩, ⟨be1_ HB GE117⟩⟩
           ·rw [if_neg c26] at H
            obtain ⟨c26b0, c26b1⟩ := en_ c26
            (first | rw [c26b0] | (simp only [i64_w, i32_w]; rw [c26b0]) | skip)
            have H' := mk_ H
            clear H
            go_wp2
            go_meet
            case rel => exact ⟨_, ((a0_0 == 2)), (by first | rfl | (simp; done) | (simp [*]; done) | (simp [pw_isEmpty]; done)), H', ⟨by have := HJ2.out; have := HJ10.out; have := HJ15.out; first | omega | exact Nat.le_refl _⟩, ⟨bq_ BK117⟩, ⟨be1_ HB GE117⟩⟩
          case rest =>
           clear HC24
           obtain ⟨kq, x45_23, rfl, HA, HJ23, BK117, HB⟩ := hcut
           cases kq with
           | zero => exact absurd HA.out (by simp [formula_fields.j3])
           | succ kj23 =>
            have H := HA.out
            clear HA
            simp only [formula_fields.j3] at H
            by_cases c27 : x45_23 = true
            ·subst c27
             rw [if_pos rfl] at H
             obtain rfl := Option.some.inj H
             obtain ⟨_, _, _, _, _, _, _, _, _, _, _, _⟩ := hb6_ BK117
             go_wp2
             go_ret
             exact ⟨er_, be1_ HB GE117⟩
            ·replace c27 := Bool.eq_false_iff.mpr c27
             subst c27
             rw [if_neg nf_] at H
             by_cases c29 : a0_0 = 3
             ·rw [if_pos c29] at H
              obtain ⟨c29b0, c29b1⟩ := eb_ c29
              clear c29
              have H' := mk_ H
              clear H
              obtain ⟨_, _, _, _, _, _, _, _, _, _, _, _⟩ := hb6_ BK117
              go_wp2
              go_loopg [57] kj23 (fun kq v57 w' => ∃ (x57_5 : Int), v57 = .int .i64 x57_5 ∧ Aside0 (formula_fields.l0 kq a1 l0_2 (l0_2.length : Int) x57_5 a0_0 a0_1 l0_2 a0_3 a0_4 l0_5 = some r) ∧ Aside0 (kq ≤ kj23) ∧ Aside0 (w'.heap[gb117]? = some (.cells #[.int .i64 a0_0, .string a0_1, (.slice A0_2 l0_2.length c0_2), .int .i64 a0_3, .int .i64 a0_4, (.slice A0_5 l0_5.length c0_5)] 32 (0, 0))) ∧ Aside0 (Below w.heap.size w w'))
              case atStart => exact ⟨(0), (by first | rfl | (simp; done) | (simp [*]; done) | (simp [pw_isEmpty]; done)), H', ⟨Nat.le_refl _⟩, ⟨bq_ BK117⟩, ⟨be1_ HB GE117⟩⟩
              case round =>
               clear H'
               obtain ⟨x57_5, rfl, HA, HK5, BK117, HB⟩ := hrel
               cases gk with
               | zero => exact absurd HA.out (by simp [formula_fields.l0])
               | succ k5 =>
                have H := HA.out
                clear HA
                simp only [formula_fields.l0] at H
                by_cases c31 : x57_5 < (l0_2.length : Int)
                ·rw [if_pos c31] at H
                 have c31b0 : decide (x57_5 < (l0_2.length : Int)) = true := decide_eq_true c31
                 clear c31
                 by_cases c32 : 0 ≤ x57_5
                 ·rw [if_pos c32] at H
                  have c32b0 : decide (0 ≤ x57_5) = true := decide_eq_true c32
                  clear c32
                  by_cases c33 : x57_5 < (l0_2.length : Int)
                  ·rw [if_pos c33] at H
                   have c33b0 : decide (x57_5 < (l0_2.length : Int)) = true := decide_eq_true c33
                   clear c33
                   replace H := Option.bind_eq_some_iff.mp H
                   obtain ⟨t121, A340, H⟩ := H
                   replace H : (if t121 = true then (formula_fields.l0 k5 a1 l0_2 (l0_2.length : Int) (wrap64 (x57_5 + 1)) a0_0 a0_1 l0_2 a0_3 a0_4 l0_5) else (some false)) = some r := H
                   have A34 := mk_ A340
                   clear A340
                   by_cases c35 : t121 = true
                   ·subst c35
                    rw [if_pos rfl] at H
                    have H' := mk_ H
                    clear H
                    have p119 : 0 ≤ (x57_5 : Int) := of_decide_eq_true (by first | (with_reducible assumption) | assumption)
                    have q119 : x57_5 < (l0_2.length : Int) := of_decide_eq_true (by first | (with_reducible assumption) | assumption)
                    obtain ⟨ad119, e119, hx119_0, hx119_1, hx119_2⟩ := at_T92 HR0_2.out x57_5 p119 q119
                    cases e119
                    replace hx119_0 := cb_ HB hx119_0
                    replace hx119_1 := cb_ HB hx119_1
                    replace hx119_2 := cb_ HB hx119_2
                    replace p119 := eq_true p119
                    replace q119 := eq_true q119
                    go_wp2_with (first | ((with_reducible refine gate_dst (N := 6) rfl ?_); (try (refine gate_guard (by rfl) ?_; dsimp only)); refine bx_ 6 #[.int .i64 0, .int .i64 0, .string (⟨#[]⟩ : ByteArray)] 92 ?_; intro gb120 hg w36 hbox hb; have n0_ := mk_ (bb_ BK117 hb); have n1_ := mk_ (below_step (be1_ HB GE117) hb); have n2_ := mk_ (hbox); have n3_ := mk_ (gs_ hg (be1_ HB GE117)); have n4_ := mk_ (gs_ hg (be1_ HB GE117)); have n5_ := mk_ ((by rw [hg]; exact Nat.ne_of_lt (blk_lt (g := gb117) (o := .cells #[.int .i64 a0_0, .string a0_1, .slice (some ad119) l0_2.length c0_2, .int .i64 a0_3, .int .i64 a0_4, .slice A0_5 l0_5.length c0_5] 32 (0, 0)) (bq_ BK117)) : gb117 ≠ gb120)); have n6_ := mk_ ((by rw [hg]; exact Nat.ne_of_gt (blk_lt (g := gb117) (o := .cells #[.int .i64 a0_0, .string a0_1, .slice (some ad119) l0_2.length c0_2, .int .i64 a0_3, .int .i64 a0_4, .slice A0_5 l0_5.length c0_5] 32 (0, 0)) (bq_ BK117)) : gb120 ≠ gb117)); clear BK117; clear HB; have BK117 := n0_; have HB := n1_; have BK120 := n2_; have GW120 := n3_; have GE120 := n4_; have NB117_120 := n5_; have NB120_117 := n6_; clear n0_ n1_ n2_ n3_ n4_ n5_ n6_; clear hb hbox hg; have hnb37 := NB120_117.out; have hnc37 := NB117_120.out; obtain ⟨_, _, _, _, _, _⟩ := hb3_ BK120) | ((with_reducible refine gate_callee (f := 81) rfl ?_); refine gl_ (some 63) Tryd.func81 #[.agg #[.int .i64 ((rd_T92 l0_2 x57_5).f0), .int .i64 ((rd_T92 l0_2 x57_5).f1), .string ((rd_T92 l0_2 x57_5).f2)], .int .i64 a1] ?_; (with_reducible refine (formula_reference.calls k5 ((rd_T92 l0_2 x57_5).f0) ((rd_T92 l0_2 x57_5).f1) ((rd_T92 l0_2 x57_5).f2) a1 true _ A34.out).mono ?_); rintro e w39 ⟨rfl, hb⟩; refine ⟨_, rfl, ?_⟩; have n0_ := mk_ (blk_below (g := gb117) (o := .cells #[.int .i64 a0_0, .string a0_1, .slice (some ad119) l0_2.length c0_2, .int .i64 a0_3, .int .i64 a0_4, .slice A0_5 l0_5.length c0_5] 32 (0, 0)) (by refine sb_ ?_; refine blk_far ?_ NB117_120.out _; refine sb_ ?_; refine blk_far ?_ NB117_120.out _; refine sb_ ?_; refine blk_far ?_ NB117_120.out _; refine sb_ ?_; exact BK117.out) hb); have n1_ := mk_ (blk_below (g := gb120) (o := .cells #[.int .i64 ((rd_T92 l0_2 x57_5).f0), .int .i64 ((rd_T92 l0_2 x57_5).f1), .string ((rd_T92 l0_2 x57_5).f2)] 92 (0, 0)) (by refine sb_ ?_; refine blk_put (cs := #[.int .i64 ((rd_T92 l0_2 x57_5).f0), .int .i64 ((rd_T92 l0_2 x57_5).f1), .string (⟨#[]⟩ : ByteArray)]) ?_ 2 _ rfl; refine sb_ ?_; refine blk_put (cs := #[.int .i64 ((rd_T92 l0_2 x57_5).f0), .int .i64 0, .string (⟨#[]⟩ : ByteArray)]) ?_ 1 _ rfl; refine sb_ ?_; refine blk_put (cs := #[.int .i64 0, .int .i64 0, .string (⟨#[]⟩ : ByteArray)]) ?_ 0 _ rfl; refine sb_ ?_; exact BK120.out) hb); have n2_ := mk_ (below_step (be2_ HB GE117 GE120) hb); clear BK117; clear BK120; clear HB; have BK117 := n0_; have BK120 := n1_; have HB := n2_; clear n0_ n1_ n2_))
                    go_roundg k5
                    case measure => have := HJ2.out; have := HJ10.out; have := HJ15.out; have := HJ23.out; have := HK5.out; omega
                    case rel => exact ⟨(wrap64 (x57_5 + 1)), (by first | rfl | (simp; done) | (simp [*]; done) | (simp [pw_isEmpty]; done)), H', ⟨by have := HJ2.out; have := HJ10.out; have := HJ15.out; have := HJ23.out; have := HK5.out; omega⟩, ⟨bq_ BK117⟩, ⟨be2_ HB GE117 GE120⟩⟩
                   ·replace c35 := Bool.eq_false_iff.mpr c35
                    subst c35
                    rw [if_neg nf_] at H
                    obtain rfl := Option.some.inj H
                    have p119 : 0 ≤ (x57_5 : Int) := of_decide_eq_true (by first | (with_reducible assumption) | assumption)
                    have q119 : x57_5 < (l0_2.length : Int) := of_decide_eq_true (by first | (with_reducible assumption) | assumption)
                    obtain ⟨ad119, e119, hx119_0, hx119_1, hx119_2⟩ := at_T92 HR0_2.out x57_5 p119 q119
                    cases e119
                    replace hx119_0 := cb_ HB hx119_0
                    replace hx119_1 := cb_ HB hx119_1
                    replace hx119_2 := cb_ HB hx119_2
                    replace p119 := eq_true p119
                    replace q119 := eq_true q119
                    go_wp2_with (first | ((with_reducible refine gate_dst (N := 6) rfl ?_); (try (refine gate_guard (by rfl) ?_; dsimp only)); refine bx_ 6 #[.int .i64 0, .int .i64 0, .string (⟨#[]⟩ : ByteArray)] 92 ?_; intro gb120 hg w40 hbox hb; have n0_ := mk_ (bb_ BK117 hb); have n1_ := mk_ (below_step (be1_ HB GE117) hb); have n2_ := mk_ (hbox); have n3_ := mk_ (gs_ hg (be1_ HB GE117)); have n4_ := mk_ (gs_ hg (be1_ HB GE117)); have n5_ := mk_ ((by rw [hg]; exact Nat.ne_of_lt (blk_lt (g := gb117) (o := .cells #[.int .i64 a0_0, .string a0_1, .slice (some ad119) l0_2.length c0_2, .int .i64 a0_3, .int .i64 a0_4, .slice A0_5 l0_5.length c0_5] 32 (0, 0)) (bq_ BK117)) : gb117 ≠ gb120)); have n6_ := mk_ ((by rw [hg]; exact Nat.ne_of_gt (blk_lt (g := gb117) (o := .cells #[.int .i64 a0_0, .string a0_1, .slice (some ad119) l0_2.length c0_2, .int .i64 a0_3, .int .i64 a0_4, .slice A0_5 l0_5.length c0_5] 32 (0, 0)) (bq_ BK117)) : gb120 ≠ gb117)); clear BK117; clear HB; have BK117 := n0_; have HB := n1_; have BK120 := n2_; have GW120 := n3_; have GE120 := n4_; have NB117_120 := n5_; have NB120_117 := n6_; clear n0_ n1_ n2_ n3_ n4_ n5_ n6_; clear hb hbox hg; have hnb41 := NB120_117.out; have hnc41 := NB117_120.out; obtain ⟨_, _, _, _, _, _⟩ := hb3_ BK120) | ((with_reducible refine gate_callee (f := 81) rfl ?_); refine gl_ (some 63) Tryd.func81 #[.agg #[.int .i64 ((rd_T92 l0_2 x57_5).f0), .int .i64 ((rd_T92 l0_2 x57_5).f1), .string ((rd_T92 l0_2 x57_5).f2)], .int .i64 a1] ?_; (with_reducible refine (formula_reference.calls k5 ((rd_T92 l0_2 x57_5).f0) ((rd_T92 l0_2 x57_5).f1) ((rd_T92 l0_2 x57_5).f2) a1 false _ A34.out).mono ?_); rintro e w43 ⟨rfl, hb⟩; refine ⟨_, rfl, ?_⟩; have n0_ := mk_ (blk_below (g := gb117) (o := .cells #[.int .i64 a0_0, .string a0_1, .slice (some ad119) l0_2.length c0_2, .int .i64 a0_3, .int .i64 a0_4, .slice A0_5 l0_5.length c0_5] 32 (0, 0)) (by refine sb_ ?_; refine blk_far ?_ NB117_120.out _; refine sb_ ?_; refine blk_far ?_ NB117_120.out _; refine sb_ ?_; refine blk_far ?_ NB117_120.out _; refine sb_ ?_; exact BK117.out) hb); have n1_ := mk_ (blk_below (g := gb120) (o := .cells #[.int .i64 ((rd_T92 l0_2 x57_5).f0), .int .i64 ((rd_T92 l0_2 x57_5).f1), .string ((rd_T92 l0_2 x57_5).f2)] 92 (0, 0)) (by refine sb_ ?_; refine blk_put (cs := #[.int .i64 ((rd_T92 l0_2 x57_5).f0), .int .i64 ((rd_T92 l0_2 x57_5).f1), .string (⟨#[]⟩ : ByteArray)]) ?_ 2 _ rfl; refine sb_ ?_; refine blk_put (cs := #[.int .i64 ((rd_T92 l0_2 x57_5).f0), .int .i64 0, .string (⟨#[]⟩ : ByteArray)]) ?_ 1 _ rfl; refine sb_ ?_; refine blk_put (cs := #[.int .i64 0, .int .i64 0, .string (⟨#[]⟩ : ByteArray)]) ?_ 0 _ rfl; refine sb_ ?_; exact BK120.out) hb); have n2_ := mk_ (below_step (be2_ HB GE117 GE120) hb); clear BK117; clear BK120; clear HB; have BK117 := n0_; have BK120 := n1_; have HB := n2_; clear n0_ n1_ n2_))
                    go_ret
                    exact ⟨er_, be2_ HB GE117 GE120⟩
                  ·rw [if_neg c33] at H
                   exact absurd H (by simp)
                 ·rw [if_neg c32] at H
                  exact absurd H (by simp)
                ·rw [if_neg c31] at H
                 have c31b0 : decide (x57_5 < (l0_2.length : Int)) = false := decide_eq_false c31
                 clear c31
                 by_cases c44 : (l0_5.length : Int) = 0
                 ·rw [if_pos c44] at H
                  obtain ⟨c44b0, c44b1⟩ := eb_ c44
                  clear c44
                  by_cases c45 : (l0_2.length : Int) ≥ 1
                  ·rw [if_pos c45] at H
                   have c45b0 : decide (1 ≤ (l0_2.length : Int)) = true := decide_eq_true c45
                   have c45b1 : decide (1 ≤ l0_2.length) = true := decide_eq_true (by omega)
                   clear c45
                   by_cases c46 : (l0_2.length : Int) ≤ 3
                   ·rw [if_pos c46] at H
                    have c46b0 : decide ((l0_2.length : Int) ≤ 3) = true := decide_eq_true c46
                    have c46b1 : decide (l0_2.length ≤ 3) = true := decide_eq_true (by omega)
                    clear c46
                    replace H := Option.bind_eq_some_iff.mp H
                    obtain ⟨t122, A470, H⟩ := H
                    replace H : (some t122) = some r := H
                    have A47 := mk_ A470
                    clear A470
                    obtain rfl := Option.some.inj H
                    obtain ⟨_, _, _, _, _, _, _, _, _, _, _, _⟩ := hb6_ BK117
                    go_wp2_with (first | (go_at_call 82; (with_reducible refine (formula_symbol.calls k5 a0_1 t122 _ A47.out).mono ?_); rintro e w' ⟨rfl, ⟨nd, rfl⟩⟩))
                    go_ret
                    exact ⟨er_, be1_ HB GE117⟩
                   ·rw [if_neg c46] at H
                    have c46b0 : decide ((l0_2.length : Int) ≤ 3) = false := decide_eq_false c46
                    have c46b1 : decide (l0_2.length ≤ 3) = false := decide_eq_false (by omega)
                    clear c46
                    obtain rfl := Option.some.inj H
                    obtain ⟨_, _, _, _, _, _, _, _, _, _, _, _⟩ := hb6_ BK117
                    go_wp2
                    go_ret
                    exact ⟨er_, be1_ HB GE117⟩
                  ·rw [if_neg c45] at H
                   have c45b0 : decide (1 ≤ (l0_2.length : Int)) = false := decide_eq_false c45
                   have c45b1 : decide (1 ≤ l0_2.length) = false := decide_eq_false (by omega)
                   clear c45
                   obtain rfl := Option.some.inj H
                   obtain ⟨_, _, _, _, _, _, _, _, _, _, _, _⟩ := hb6_ BK117
                   go_wp2
                   go_ret
                   exact ⟨er_, be1_ HB GE117⟩
                 ·rw [if_neg c44] at H
                  obtain ⟨c44b0, c44b1⟩ := en_ c44
                  have c44b2 : ¬ (l0_5 = []) := fun h_ => c44 (by rw [h_]; rfl)
                  obtain rfl := Option.some.inj H
                  obtain ⟨_, _, _, _, _, _, _, _, _, _, _, _⟩ := hb6_ BK117
                  go_wp2
                  go_ret
                  exact ⟨er_, be1_ HB GE117⟩
             ·rw [if_neg c29] at H
              obtain ⟨c29b0, c29b1⟩ := en_ c29
              have HC52 := mk_ H
              clear H
              go_upto_if 87 with (fail)
              go_cut [87] (fun v87 wc => ∃ (kq : Nat) (x87_51 : Bool), v87 = .bool x87_51 ∧ Aside0 (formula_fields.j5 kq a0_0 x87_51 a0_0 a0_1 l0_2 a0_3 a0_4 l0_5 = some r) ∧ Aside0 (kq ≤ kj23) ∧ Aside0 (wc.heap[gb117]? = some (.cells #[.int .i64 a0_0, .string a0_1, (.slice A0_2 l0_2.length c0_2), .int .i64 a0_3, .int .i64 a0_4, (.slice A0_5 l0_5.length c0_5)] 32 (0, 0))) ∧ Aside0 (Below w.heap.size w wc))
              case first =>
               have H := HC52.out
               clear HC52
               by_cases c53 : a0_0 = 4
               ·rw [if_pos c53] at H
                obtain ⟨c53b0, c53b1⟩ := eb_ c53
                clear c53
                (first | rw [c53b0] | (simp only [i64_w, i32_w]; rw [c53b0]) | skip)
                have H' := mk_ H
                clear H
                go_wp2
                go_meet
                case rel => exact ⟨_, ((a0_0 == 4)), (by first | rfl | (simp; done) | (simp [*]; done) | (simp [pw_isEmpty]; done)), H', ⟨by have := HJ2.out; have := HJ10.out; have := HJ15.out; have := HJ23.out; first | omega | exact Nat.le_refl _⟩, ⟨bq_ BK117⟩, ⟨be1_ HB GE117⟩⟩
               ·rw [if_neg c53] at H
                obtain ⟨c53b0, c53b1⟩ := en_ c53
                (first | rw [c53b0] | (simp only [i64_w, i32_w]; rw [c53b0]) | skip)
                by_cases c54 : a0_0 = 11
                ·rw [if_pos c54] at H
                 obtain ⟨c54b0, c54b1⟩ := eb_ c54
                 clear c54
                 have H' := mk_ H
                 clear H
                 go_wp2
                 go_meet
                 case rel => exact ⟨_, ((a0_0 == 11)), (by first | rfl | (simp; done) | (simp [*]; done) | (simp [pw_isEmpty]; done)), H', ⟨by have := HJ2.out; have := HJ10.out; have := HJ15.out; have := HJ23.out; first | omega | exact Nat.le_refl _⟩, ⟨bq_ BK117⟩, ⟨be1_ HB GE117⟩⟩
                ·rw [if_neg c54] at H
                 obtain ⟨c54b0, c54b1⟩ := en_ c54
                 have H' := mk_ H
                 clear H
                 go_wp2
                 go_meet
                 case rel => exact ⟨_, ((a0_0 == 12)), (by first | rfl | (simp; done) | (simp [*]; done) | (simp [pw_isEmpty]; done)), H', ⟨by have := HJ2.out; have := HJ10.out; have := HJ15.out; have := HJ23.out; first | omega | exact Nat.le_refl _⟩, ⟨bq_ BK117⟩, ⟨be1_ HB GE117⟩⟩
              case rest =>
               clear HC52
               obtain ⟨kq, x87_51, rfl, HA, HJ51, BK117, HB⟩ := hcut
               cases kq with
               | zero => exact absurd HA.out (by simp [formula_fields.j5])
               | succ kj51 =>
                have H := HA.out
                clear HA
                simp only [formula_fields.j5] at H
                by_cases c55 : x87_51 = true
                ·subst c55
                 rw [if_pos rfl] at H
                 obtain rfl := Option.some.inj H
                 obtain ⟨_, _, _, _, _, _, _, _, _, _, _, _⟩ := hb6_ BK117
                 go_wp2
                 go_ret
                 exact ⟨er_, be1_ HB GE117⟩
                ·replace c55 := Bool.eq_false_iff.mpr c55
                 subst c55
                 rw [if_neg nf_] at H
                 have HC57 := mk_ H
                 clear H
                 go_upto_if 95 with (fail)
                 go_cut [95] (fun v95 wc => ∃ (kq : Nat) (x95_56 : Bool), v95 = .bool x95_56 ∧ Aside0 (formula_fields.j6 kq a0_0 x95_56 a0_0 a0_1 l0_2 a0_3 a0_4 l0_5 = some r) ∧ Aside0 (kq ≤ kj51) ∧ Aside0 (wc.heap[gb117]? = some (.cells #[.int .i64 a0_0, .string a0_1, (.slice A0_2 l0_2.length c0_2), .int .i64 a0_3, .int .i64 a0_4, (.slice A0_5 l0_5.length c0_5)] 32 (0, 0))) ∧ Aside0 (Below w.heap.size w wc))
                 case first =>
                  have H := HC57.out
                  clear HC57
                  by_cases c58 : a0_0 = 5
                  ·rw [if_pos c58] at H
                   obtain ⟨c58b0, c58b1⟩ := eb_ c58
                   clear c58
                   (first | rw [c58b0] | (simp only [i64_w, i32_w]; rw [c58b0]) | skip)
                   have H' := mk_ H
                   clear H
                   go_wp2
                   go_meet
                   case rel => exact ⟨_, ((a0_0 == 5)), (by first | rfl | (simp; done) | (simp [*]; done) | (simp [pw_isEmpty]; done)), H', ⟨by have := HJ2.out; have := HJ10.out; have := HJ15.out; have := HJ23.out; have := HJ51.out; first | omega | exact Nat.le_refl _⟩, ⟨bq_ BK117⟩, ⟨be1_ HB GE117⟩⟩
                  ·rw [if_neg c58] at H
                   obtain ⟨c58b0, c58b1⟩ := en_ c58
                   (first | rw [c58b0] | (simp only [i64_w, i32_w]; rw [c58b0]) | skip)
                   have H' := mk_ H
                   clear H
                   go_wp2
                   go_meet
                   case rel => exact ⟨_, ((a0_0 == 6)), (by first | rfl | (simp; done) | (simp [*]; done) | (simp [pw_isEmpty]; done)), H', ⟨by have := HJ2.out; have := HJ10.out; have := HJ15.out; have := HJ23.out; have := HJ51.out; first | omega | exact Nat.le_refl _⟩, ⟨bq_ BK117⟩, ⟨be1_ HB GE117⟩⟩
                 case rest =>
                  clear HC57
                  obtain ⟨kq, x95_56, rfl, HA, HJ56, BK117, HB⟩ := hcut
                  cases kq with
                  | zero => exact absurd HA.out (by simp [formula_fields.j6])
                  | succ kj56 =>
                   have H := HA.out
                   clear HA
                   simp only [formula_fields.j6] at H
                   by_cases c59 : x95_56 = true
                   ·subst c59
                    rw [if_pos rfl] at H
                    obtain rfl := Option.some.inj H
                    go_wp2
                    go_ret
                    exact ⟨er_, be1_ HB GE117⟩
                   ·replace c59 := Bool.eq_false_iff.mpr c59
                    subst c59
                    rw [if_neg nf_] at H
                    by_cases c60 : a0_0 = 7
                    ·rw [if_pos c60] at H
                     obtain ⟨c60b0, c60b1⟩ := eb_ c60
                     clear c60
                     obtain rfl := Option.some.inj H
                     obtain ⟨_, _, _, _, _, _, _, _, _, _, _, _⟩ := hb6_ BK117
                     go_wp2
                     go_ret
                     exact ⟨er_, be1_ HB GE117⟩
                    ·rw [if_neg c60] at H
                     obtain ⟨c60b0, c60b1⟩ := en_ c60
                     have HC62 := mk_ H
                     clear H
                     go_upto_if 104 with (fail)
                     go_cut [104] (fun v104 wc => ∃ (kq : Nat) (x104_61 : Bool), v104 = .bool x104_61 ∧ Aside0 (formula_fields.j7 kq a0_0 x104_61 a0_0 a0_1 l0_2 a0_3 a0_4 l0_5 = some r) ∧ Aside0 (kq ≤ kj56) ∧ Aside0 (wc.heap[gb117]? = some (.cells #[.int .i64 a0_0, .string a0_1, (.slice A0_2 l0_2.length c0_2), .int .i64 a0_3, .int .i64 a0_4, (.slice A0_5 l0_5.length c0_5)] 32 (0, 0))) ∧ Aside0 (Below w.heap.size w wc))
                     case first =>
                      have H := HC62.out
                      clear HC62
                      by_cases c63 : a0_0 = 8
                      ·rw [if_pos c63] at H
                       obtain ⟨c63b0, c63b1⟩ := eb_ c63
                       clear c63
                       (first | rw [c63b0] | (simp only [i64_w, i32_w]; rw [c63b0]) | skip)
                       have H' := mk_ H
                       clear H
                       go_wp2
                       go_meet
                       case rel => exact ⟨_, ((a0_0 == 8)), (by first | rfl | (simp; done) | (simp [*]; done) | (simp [pw_isEmpty]; done)), H', ⟨by have := HJ2.out; have := HJ10.out; have := HJ15.out; have := HJ23.out; have := HJ51.out; have := HJ56.out; first | omega | exact Nat.le_refl _⟩, ⟨bq_ BK117⟩, ⟨be1_ HB GE117⟩⟩
                      ·rw [if_neg c63] at H
                       obtain ⟨c63b0, c63b1⟩ := en_ c63
                       (first | rw [c63b0] | (simp only [i64_w, i32_w]; rw [c63b0]) | skip)
                       have H' := mk_ H
                       clear H
                       go_wp2
                       go_meet
                       case rel => exact ⟨_, ((a0_0 == 9)), (by first | rfl | (simp; done) | (simp [*]; done) | (simp [pw_isEmpty]; done)), H', ⟨by have := HJ2.out; have := HJ10.out; have := HJ15.out; have := HJ23.out; have := HJ51.out; have := HJ56.out; first | omega | exact Nat.le_refl _⟩, ⟨bq_ BK117⟩, ⟨be1_ HB GE117⟩⟩
                     case rest =>
                      clear HC62
                      obtain ⟨kq, x104_61, rfl, HA, HJ61, BK117, HB⟩ := hcut
                      cases kq with
                      | zero => exact absurd HA.out (by simp [formula_fields.j7])
                      | succ kj61 =>
                       have H := HA.out
                       clear HA
                       simp only [formula_fields.j7] at H
                       by_cases c64 : x104_61 = true
                       ·subst c64
                        rw [if_pos rfl] at H
                        by_cases c65 : (l0_5.length : Int) = 1
                        ·rw [if_pos c65] at H
                         obtain ⟨c65b0, c65b1⟩ := eb_ c65
                         clear c65
                         replace H := Option.bind_eq_some_iff.mp H
                         obtain ⟨t123, A660, H⟩ := H
                         replace H : (some t123) = some r := H
                         have A66 := mk_ A660
                         clear A660
                         obtain rfl := Option.some.inj H
                         obtain ⟨_, _, _, _, _, _, _, _, _, _, _, _⟩ := hb6_ BK117
                         go_wp2_with (first | (go_at_call 82; (with_reducible refine (formula_symbol.calls kj61 a0_1 t123 _ A66.out).mono ?_); rintro e w' ⟨rfl, ⟨nd, rfl⟩⟩))
                         go_ret
                         exact ⟨er_, be1_ HB GE117⟩
                        ·rw [if_neg c65] at H
                         obtain ⟨c65b0, c65b1⟩ := en_ c65
                         obtain rfl := Option.some.inj H
                         obtain ⟨_, _, _, _, _, _, _, _, _, _, _, _⟩ := hb6_ BK117
                         go_wp2
                         go_ret
                         exact ⟨er_, be1_ HB GE117⟩
                       ·replace c64 := Bool.eq_false_iff.mpr c64
                        subst c64
                        rw [if_neg nf_] at H
                        by_cases c69 : a0_0 = 10
                        ·rw [if_pos c69] at H
                         obtain ⟨c69b0, c69b1⟩ := eb_ c69
                         clear c69
                         by_cases c70 : (l0_5.length : Int) = 1
                         ·rw [if_pos c70] at H
                          obtain ⟨c70b0, c70b1⟩ := eb_ c70
                          clear c70
                          replace H := Option.bind_eq_some_iff.mp H
                          obtain ⟨t124, A710, H⟩ := H
                          replace H : (if t124 = true then ((formula_moment.f a0_4).bind fun t125 => (some t125)) else (some false)) = some r := H
                          have A71 := mk_ A710
                          clear A710
                          by_cases c72 : t124 = true
                          ·subst c72
                           rw [if_pos rfl] at H
                           replace H := Option.bind_eq_some_iff.mp H
                           obtain ⟨t125, A730, H⟩ := H
                           replace H : (some t125) = some r := H
                           have A73 := mk_ A730
                           clear A730
                           obtain rfl := Option.some.inj H
                           obtain ⟨_, _, _, _, _, _, _, _, _, _, _, _⟩ := hb6_ BK117
                           go_wp2_with (first | (go_at_call 83; (with_reducible refine (formula_moment.calls a0_3 true _ A71.out).mono ?_); rintro e w' ⟨rfl, ⟨nd, rfl⟩⟩) | (go_at_call 83; (with_reducible refine (formula_moment.calls a0_4 t125 _ A73.out).mono ?_); rintro e w' ⟨rfl, ⟨nd, rfl⟩⟩))
                           go_ret
                           exact ⟨er_, be1_ HB GE117⟩
                          ·replace c72 := Bool.eq_false_iff.mpr c72
                           subst c72
                           rw [if_neg nf_] at H
                           obtain rfl := Option.some.inj H
                           obtain ⟨_, _, _, _, _, _, _, _, _, _, _, _⟩ := hb6_ BK117
                           go_wp2_with (first | (go_at_call 83; (with_reducible refine (formula_moment.calls a0_3 false _ A71.out).mono ?_); rintro e w' ⟨rfl, ⟨nd, rfl⟩⟩))
                           go_ret
                           exact ⟨er_, be1_ HB GE117⟩
                         ·rw [if_neg c70] at H
                          obtain ⟨c70b0, c70b1⟩ := en_ c70
                          obtain rfl := Option.some.inj H
                          obtain ⟨_, _, _, _, _, _, _, _, _, _, _, _⟩ := hb6_ BK117
                          go_wp2
                          go_ret
                          exact ⟨er_, be1_ HB GE117⟩
                        ·rw [if_neg c69] at H
                         obtain ⟨c69b0, c69b1⟩ := en_ c69
                         obtain rfl := Option.some.inj H
                         go_wp2
                         go_ret
                         exact ⟨er_, be1_ HB GE117⟩
end Go.Proofs.YtolpckflofjfhaaDoor.P
