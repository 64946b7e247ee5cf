import Derived.Test.YtolpckflofjfhaaDoorPx0
import Derived.Test.YtolpckflofjfhaaDoorPx12
namespace Go.Proofs.YtolpckflofjfhaaDoor.P
open Go.RowKit Go.Proofs.YtolpckflofjfhaaDoorW.PrintWords Go.Proofs.YtolpckflofjfhaaDoorW.PrintLast Go.Proofs.YtolpckflofjfhaaDoorW.PrintMore
attribute [local go_sem] max2_int min2_int max_two min_two max_three min_three max_four min_four
set_option linter.unusedVariables false
set_option maxHeartbeats 8000000
set_option maxRecDepth 100000
set_option linter.unusedSimpArgs false
mutual
def pentaglotref22_fields.j0 : Nat → Int → Bool → Int → ByteArray → List (S92) → Int → Int → List (S32) → Option (Bool)
 | 0, _, _, _, _, _, _, _, _ => none
 | k + 1, x1, x29, x227000, x227001, x227002, x227003, x227004, x227005 => if x29 = true then (some false) else (if x227000 = 1 then (pentaglotref22_fields.j1 k x1 x227000 (x227000 == 1) x227000 x227001 x227002 x227003 x227004 x227005) else (pentaglotref22_fields.j1 k x1 x227000 (x227000 == 2) x227000 x227001 x227002 x227003 x227004 x227005))
def pentaglotref22_fields.j1 : Nat → Int → Int → Bool → Int → ByteArray → List (S92) → Int → Int → List (S32) → Option (Bool)
 | 0, _, _, _, _, _, _, _, _, _ => none
 | k + 1, x1, x31, x32, x227000, x227001, x227002, x227003, x227004, x227005 => if x32 = true then (if x227001.toList = ([] : List UInt8) then (some ((x227005.length : Int) == 0)) else (some false)) else (if x31 = 3 then (pentaglotref22_fields.l0 k x1 0 x227000 x227001 x227002 x227003 x227004 x227005) else (if x31 = 4 then (pentaglotref22_fields.j3 k x31 (x31 == 4) x227000 x227001 x227002 x227003 x227004 x227005) else (if x31 = 11 then (pentaglotref22_fields.j3 k x31 (x31 == 11) x227000 x227001 x227002 x227003 x227004 x227005) else (pentaglotref22_fields.j3 k x31 (x31 == 12) x227000 x227001 x227002 x227003 x227004 x227005))))
def pentaglotref22_fields.l0 : Nat → Int → Int → Int → ByteArray → List (S92) → Int → Int → List (S32) → Option (Bool)
 | 0, _, _, _, _, _, _, _, _ => none
 | k + 1, x1, x5, x227000, x227001, x227002, x227003, x227004, x227005 => if x5 < (x227002.length : Int) then (if 0 ≤ x5 then ((pentaglotref22_Reference.f k ((rd_T92 x227002 x5).f0) ((rd_T92 x227002 x5).f1) ((rd_T92 x227002 x5).f2) x1).bind fun t228 => (if t228 = true then (pentaglotref22_fields.l0 k x1 (wrap64 (x5 + 1)) x227000 x227001 x227002 x227003 x227004 x227005) else (some false))) else (none)) else ((pentaglotref22_Symbol.f k x227001).bind fun t229 => (if t229 = true then (if (x227002.length : Int) ≥ 1 then (if (x227002.length : Int) ≤ 3 then (some ((x227005.length : Int) == 0)) else (some false)) else (some false)) else (some false)))
def pentaglotref22_fields.j3 : Nat → Int → Bool → Int → ByteArray → List (S92) → Int → Int → List (S32) → Option (Bool)
 | 0, _, _, _, _, _, _, _, _ => none
 | k + 1, x31, x82, x227000, x227001, x227002, x227003, x227004, x227005 => if x82 = true then (if x227001.toList = ([] : List UInt8) then (some ((x227005.length : Int) == 1)) else (some false)) else (if x31 = 5 then (pentaglotref22_fields.j4 k x31 (x31 == 5) x227000 x227001 x227002 x227003 x227004 x227005) else (pentaglotref22_fields.j4 k x31 (x31 == 6) x227000 x227001 x227002 x227003 x227004 x227005))
def pentaglotref22_fields.j4 : Nat → Int → Bool → Int → ByteArray → List (S92) → Int → Int → List (S32) → Option (Bool)
 | 0, _, _, _, _, _, _, _, _ => none
 | k + 1, x31, x95, x227000, x227001, x227002, x227003, x227004, x227005 => if x95 = true then (some (x227001.toList == ([] : List UInt8))) else (if x31 = 7 then (if x227001.toList = ([] : List UInt8) then (some ((x227005.length : Int) == 2)) else (some false)) else (if x31 = 8 then (pentaglotref22_fields.j5 k x31 (x31 == 8) x227000 x227001 x227002 x227003 x227004 x227005) else (pentaglotref22_fields.j5 k x31 (x31 == 9) x227000 x227001 x227002 x227003 x227004 x227005)))
def pentaglotref22_fields.j5 : Nat → Int → Bool → Int → ByteArray → List (S92) → Int → Int → List (S32) → Option (Bool)
 | 0, _, _, _, _, _, _, _, _ => none
 | k + 1, x31, x112, x227000, x227001, x227002, x227003, x227004, x227005 => if x112 = true then ((pentaglotref22_Symbol.f k x227001).bind fun t230 => (if t230 = true then (some ((x227005.length : Int) == 1)) else (some false))) else (if x31 = 10 then (if x227001.toList = ([] : List UInt8) then (if (x227005.length : Int) = 1 then ((pentaglotref22_moment.f x227003).bind fun t231 => (if t231 = true then ((pentaglotref22_moment.f x227004).bind fun t232 => (some t232)) else (some false))) else (some false)) else (some false)) else (some false))
end
def pentaglotref22_fields.f (k : Nat) (a0_0 : Int) (a0_1 : ByteArray) (l0_2 : List (S92)) (a0_3 : Int) (a0_4 : Int) (l0_5 : List (S32)) (a1 : Int) : Option (Bool) := if a0_0 = 3 then (if a0_0 = 10 then (pentaglotref22_fields.j0 k a1 false a0_0 a0_1 l0_2 a0_3 a0_4 l0_5) else (if a0_3 = 0 then (pentaglotref22_fields.j0 k a1 (a0_4 != 0) a0_0 a0_1 l0_2 a0_3 a0_4 l0_5) else (pentaglotref22_fields.j0 k a1 true a0_0 a0_1 l0_2 a0_3 a0_4 l0_5))) else (if (l0_2.length : Int) > 0 then (pentaglotref22_fields.j0 k a1 true a0_0 a0_1 l0_2 a0_3 a0_4 l0_5) else (if a0_0 = 10 then (pentaglotref22_fields.j0 k a1 false a0_0 a0_1 l0_2 a0_3 a0_4 l0_5) else (if a0_3 = 0 then (pentaglotref22_fields.j0 k a1 (a0_4 != 0) a0_0 a0_1 l0_2 a0_3 a0_4 l0_5) else (pentaglotref22_fields.j0 k a1 true a0_0 a0_1 l0_2 a0_3 a0_4 l0_5))))
theorem pentaglotref22_fields.calls (k : Nat) (a0_0 : Int) (a0_1 : ByteArray) (A0_2 : Option Addr) (c0_2 : Nat) (l0_2 : List (S92)) (a0_3 : Int) (a0_4 : Int) (A0_5 : Option Addr) (c0_5 : Nat) (l0_5 : List (S32)) (a1 : Int) (r : Bool) (w : World) (hr0_2 : Kd.C k92 w A0_2 l0_2.length l0_2) (hc0_2 : l0_2.length ≤ c0_2) (hr0_5 : Kd.C k32 w A0_5 l0_5.length l0_5) (hc0_5 : l0_5.length ≤ c0_5) (h : pentaglotref22_fields.f k a0_0 a0_1 l0_2 a0_3 a0_4 l0_5 a1 = some r) :
  Calls Tryd.prog 71 #[.agg #[.int .i64 a0_0, .string a0_1, .slice A0_2 l0_2.length c0_2, .int .i64 a0_3, .int .i64 a0_4, .slice A0_5 l0_5.length c0_5], .int .i64 a1] w fun e w' => e = .returned (.bool r) ∧ Below w.heap.size w w' := by
 have hu32 := Tryd.underlying32
 have hu92 := Tryd.underlying92
 have HR0_2 := mk_ hr0_2; have HC0_2 := mk_ hc0_2; clear hr0_2 hc0_2
 have HR0_5 := mk_ hr0_5; have HC0_5 := mk_ hc0_5; clear hr0_5 hc0_5
 have HB := mk_ (Below.refl w.heap.size w)
 have H : (if a0_0 = 3 then (if a0_0 = 10 then (pentaglotref22_fields.j0 k a1 false a0_0 a0_1 l0_2 a0_3 a0_4 l0_5) else (if a0_3 = 0 then (pentaglotref22_fields.j0 k a1 (a0_4 != 0) a0_0 a0_1 l0_2 a0_3 a0_4 l0_5) else (pentaglotref22_fields.j0 k a1 true a0_0 a0_1 l0_2 a0_3 a0_4 l0_5))) else (if (l0_2.length : Int) > 0 then (pentaglotref22_fields.j0 k a1 true a0_0 a0_1 l0_2 a0_3 a0_4 l0_5) else (if a0_0 = 10 then (pentaglotref22_fields.j0 k a1 false a0_0 a0_1 l0_2 a0_3 a0_4 l0_5) else (if a0_3 = 0 then (pentaglotref22_fields.j0 k a1 (a0_4 != 0) a0_0 a0_1 l0_2 a0_3 a0_4 l0_5) else (pentaglotref22_fields.j0 k a1 true a0_0 a0_1 l0_2 a0_3 a0_4 l0_5))))) = some r := h
 clear h
 have HC3 := mk_ H
 clear H
 go_enter Tryd.func71, Tryd.ntmps71
 go_upto_region 1 with (first | ((with_reducible refine gate_dst (N := 2) rfl ?_); (try (refine gate_guard (by rfl) ?_; dsimp only)); refine bx_ 2 #[.int .i64 a0_0, .string a0_1, .slice A0_2 l0_2.length c0_2, .int .i64 a0_3, .int .i64 a0_4, .slice A0_5 l0_5.length c0_5] 32 ?_; intro gb226 hg w4 hbox hb; have BK226 := mk_ (hbox); have GW226 := mk_ (gs_ hg (be_ HB)); have GE226 := mk_ (gs_ hg (be_ HB)); replace HB := mk_ (below_step (be_ HB) hb); clear hb hbox hg))
 (try simp only [Act.put, List.setIfInBounds_toArray, List.set_cons_zero, List.set_cons_succ])
 go_cut [29] (fun v29 wc => ∃ (kq : Nat) (x29_2 : Bool), v29 = .bool x29_2 ∧ Aside0 (pentaglotref22_fields.j0 kq a1 x29_2 a0_0 a0_1 l0_2 a0_3 a0_4 l0_5 = some r) ∧ Aside0 (kq ≤ k) ∧ Aside0 (wc.heap[gb226]? = some (.cells #[.int .i64 a0_0, .string a0_1, (.slice A0_2 l0_2.length c0_2), .int .i64 a0_3, .int .i64 a0_4, (.slice A0_5 l0_5.length c0_5)] 32 (0, 0))) ∧ Aside0 (Below w.heap.size w wc))
 case first =>
  have H := HC3.out
  clear HC3
  by_cases c5 : a0_0 = 3
  ·rw [if_pos c5] at H
   obtain ⟨c5b0, c5b1⟩ := eb_ c5
   clear c5
   (first | rw [c5b0] | (simp only [i64_w, i32_w]; rw [c5b0]) | skip)
   by_cases c6 : a0_0 = 10
   ·rw [if_pos c6] at H
    obtain ⟨c6b0, c6b1⟩ := eb_ c6
    clear c6
    have H' := mk_ H
    clear H
    obtain ⟨_, _, _, _, _, _, _, _, _, _, _, _⟩ := hb6_ BK226
    go_wp2
    go_meet
    case rel => exact ⟨_, (false), (by first | rfl | (simp; done) | (simp [*]; done) | (simp [pw_isEmpty]; done)), H', ⟨by first | omega | exact Nat.le_refl _⟩, ⟨bq_ BK226⟩, ⟨be1_ HB GE226⟩⟩
   ·rw [if_neg c6] at H
    obtain ⟨c6b0, c6b1⟩ := en_ c6
    by_cases c8 : a0_3 = 0
    ·rw [if_pos c8] at H
     obtain ⟨c8b0, c8b1⟩ := eb_ c8
     clear c8
     have H' := mk_ H
     clear H
     obtain ⟨_, _, _, _, _, _, _, _, _, _, _, _⟩ := hb6_ BK226
     go_wp2
     go_meet
     case rel => exact ⟨_, ((a0_4 != 0)), (by first | rfl | (simp; done) | (simp [*]; done) | (simp [pw_isEmpty]; done)), H', ⟨by first | omega | exact Nat.le_refl _⟩, ⟨bq_ BK226⟩, ⟨be1_ HB GE226⟩⟩
    ·rw [if_neg c8] at H
     obtain ⟨c8b0, c8b1⟩ := en_ c8
     have H' := mk_ H
     clear H
     obtain ⟨_, _, _, _, _, _, _, _, _, _, _, _⟩ := hb6_ BK226
     go_wp2
     go_meet
     case rel => exact ⟨_, (true), (by first | rfl | (simp; done) | (simp [*]; done) | (simp [pw_isEmpty]; done)), H', ⟨by first | omega | exact Nat.le_refl _⟩, ⟨bq_ BK226⟩, ⟨be1_ HB GE226⟩⟩
  ·rw [if_neg c5] at H
   obtain ⟨c5b0, c5b1⟩ := en_ c5
   (first | rw [c5b0] | (simp only [i64_w, i32_w]; rw [c5b0]) | skip)
   by_cases c11 : (l0_2.length : Int) > 0
   ·rw [if_pos c11] at H
    have c11b0 : decide (0 < (l0_2.length : Int)) = true := decide_eq_true c11
    have c11b1 : decide (0 < l0_2.length) = true := decide_eq_true (by omega)
    clear c11
    have H' := mk_ H
    clear H
    obtain ⟨_, _, _, _, _, _, _, _, _, _, _, _⟩ := hb6_ BK226
    go_wp2
    go_meet
    case rel => exact ⟨_, (true), (by first | rfl | (simp; done) | (simp [*]; done) | (simp [pw_isEmpty]; done)), H', ⟨by first | omega | exact Nat.le_refl _⟩, ⟨bq_ BK226⟩, ⟨be1_ HB GE226⟩⟩
   ·rw [if_neg c11] at H
    have c11b0 : decide (0 < (l0_2.length : Int)) = false := decide_eq_false c11
    have c11b1 : decide (0 < l0_2.length) = false := decide_eq_false (by omega)
    clear c11
    by_cases c13 : a0_0 = 10
    ·rw [if_pos c13] at H
     obtain ⟨c13b0, c13b1⟩ := eb_ c13
     clear c13
     have H' := mk_ H
     clear H
     obtain ⟨_, _, _, _, _, _, _, _, _, _, _, _⟩ := hb6_ BK226
     go_wp2
     go_meet
     case rel => exact ⟨_, (false), (by first | rfl | (simp; done) | (simp [*]; done) | (simp [pw_isEmpty]; done)), H', ⟨by first | omega | exact Nat.le_refl _⟩, ⟨bq_ BK226⟩, ⟨be1_ HB GE226⟩⟩
    ·rw [if_neg c13] at H
     obtain ⟨c13b0, c13b1⟩ := en_ c13
     by_cases c15 : a0_3 = 0
     ·rw [if_pos c15] at H
      obtain ⟨c15b0, c15b1⟩ := eb_ c15
      clear c15
      have H' := mk_ H
      clear H
      obtain ⟨_, _, _, _, _, _, _, _, _, _, _, _⟩ := hb6_ BK226
      go_wp2
      go_meet
      case rel => exact ⟨_, ((a0_4 != 0)), (by first | rfl | (simp; done) | (simp [*]; done) | (simp [pw_isEmpty]; done)), H', ⟨by first | omega | exact Nat.le_refl _⟩, ⟨bq_ BK226⟩, ⟨be1_ HB GE226⟩⟩
     ·rw [if_neg c15] at H
      obtain ⟨c15b0, c15b1⟩ := en_ c15
      have H' := mk_ H
      clear H
      obtain ⟨_, _, _, _, _, _, _, _, _, _, _, _⟩ := hb6_ BK226
      go_wp2
      go_meet
      case rel => exact ⟨_, (true), (by first | rfl | (simp; done) | (simp [*]; done) | (simp [pw_isEmpty]; done)), H', ⟨by first | omega | exact Nat.le_refl _⟩, ⟨bq_ BK226⟩, ⟨be1_ HB GE226⟩⟩
 case rest =>
  clear HC3
  obtain ⟨kq, x29_2, rfl, HA, HJ2, BK226, HB⟩ := hcut
  cases kq with
  | zero => exact absurd HA.out (by simp [pentaglotref22_fields.j0])
  | succ kj2 =>
   have H := HA.out
   clear HA
   simp only [pentaglotref22_fields.j0] at H
   by_cases c18 : x29_2 = true
   ·subst c18
    rw [if_pos rfl] at H
    obtain rfl := Option.some.inj H
    go_wp2
    go_ret
    exact ⟨er_, be1_ HB GE226⟩
   ·replace c18 := Bool.eq_false_iff.mpr c18
    subst c18
    rw [if_neg nf_] at H
    have HC19 := mk_ H
    clear H
    obtain ⟨_, _, _, _, _, _, _, _, _, _, _, _⟩ := hb6_ BK226
    go_upto_if 32 with (fail)
    go_cut [32] (fun v32 wc => ∃ (kq : Nat) (x32_18 : Bool), v32 = .bool x32_18 ∧ Aside0 (pentaglotref22_fields.j1 kq a1 a0_0 x32_18 a0_0 a0_1 l0_2 a0_3 a0_4 l0_5 = some r) ∧ Aside0 (kq ≤ kj2) ∧ Aside0 (wc.heap[gb226]? = some (.cells #[.int .i64 a0_0, .string a0_1, (.slice A0_2 l0_2.length c0_2), .int .i64 a0_3, .int .i64 a0_4, (.slice A0_5 l0_5.length c0_5)] 32 (0, 0))) ∧ Aside0 (Below w.heap.size w wc))
    case first =>
     have H := HC19.out
     clear HC19
     by_cases c21 : a0_0 = 1
     ·rw [if_pos c21] at H
      obtain ⟨c21b0, c21b1⟩ := eb_ c21
      clear c21
      (first | rw [c21b0] | (simp only [i64_w, i32_w]; rw [c21b0]) | skip)
      have H' := mk_ H
      clear H
      go_wp2
      go_meet
      case rel => exact ⟨_, ((a0_0 == 1)), (by first | rfl | (simp; done) | (simp [*]; done) | (simp [pw_isEmpty]; done)), H', ⟨by have := HJ2.out; first | omega | exact Nat.le_refl _⟩, ⟨bq_ BK226⟩, ⟨be1_ HB GE226⟩⟩
     ·rw [if_neg c21] at H
      obtain ⟨c21b0, c21b1⟩ := en_ c21
      (first | rw [c21b0] | (simp only [i64_w, i32_w]; rw [c21b0]) | skip)
      have H' := mk_ H
      clear H
      go_wp2
      go_meet
      case rel => exact ⟨_, ((a0_0 == 2)), (by first | rfl | (simp; done) | (simp [*]; done) | (simp [pw_isEmpty]; done)), H', ⟨by have := HJ2.out; first | omega | exact Nat.le_refl _⟩, ⟨bq_ BK226⟩, ⟨be1_ HB GE226⟩⟩
    case rest =>
     clear HC19
     obtain ⟨kq, x32_18, rfl, HA, HJ18, BK226, HB⟩ := hcut
     cases kq with
     | zero => exact absurd HA.out (by simp [pentaglotref22_fields.j1])
     | succ kj18 =>
      have H := HA.out
      clear HA
      simp only [pentaglotref22_fields.j1] at H
      by_cases c22 : x32_18 = true
      ·subst c22
       rw [if_pos rfl] at H
       by_cases c23 : a0_1.toList = ([] : List UInt8)
       ·rw [if_pos c23] at H
        obtain ⟨c23b0, c23b1⟩ := eb_ c23
        clear c23
        obtain rfl := Option.some.inj H
        obtain ⟨_, _, _, _, _, _, _, _, _, _, _, _⟩ := hb6_ BK226
        go_wp2
        go_ret
        exact ⟨er_, be1_ HB GE226⟩
       ·rw [if_neg c23] at H
        obtain ⟨c23b0, c23b1⟩ := en_ c23
        obtain rfl := Option.some.inj H
        obtain ⟨_, _, _, _, _, _, _, _, _, _, _, _⟩ := hb6_ BK226
        go_wp2
        go_ret
        exact ⟨er_, be1_ HB GE226⟩
      ·replace c22 := Bool.eq_false_iff.mpr c22
       subst c22
       rw [if_neg nf_] at H
       by_cases c26 : a0_0 = 3
       ·rw [if_pos c26] at H
        obtain ⟨c26b0, c26b1⟩ := eb_ c26
        clear c26
        have H' := mk_ H
        clear H
        go_wp2
        go_loopg [5] kj18 (fun kq v5 w' => ∃ (x5_3 : Int), v5 = .int .i64 x5_3 ∧ Aside0 (pentaglotref22_fields.l0 kq a1 x5_3 a0_0 a0_1 l0_2 a0_3 a0_4 l0_5 = some r) ∧ Aside0 (kq ≤ kj18) ∧ Aside0 (w'.heap[gb226]? = some (.cells #[.int .i64 a0_0, .string a0_1, (.slice A0_2 l0_2.length c0_2), .int .i64 a0_3, .int .i64 a0_4, (.slice A0_5 l0_5.length c0_5)] 32 (0, 0))) ∧ Aside0 (Below w.heap.size w w'))
        case atStart => exact ⟨(0), (by first | rfl | (simp; done) | (simp [*]; done) | (simp [pw_isEmpty]; done)), H', ⟨Nat.le_refl _⟩, ⟨bq_ BK226⟩, ⟨be1_ HB GE226⟩⟩
        case round =>
         clear H'
         obtain ⟨x5_3, rfl, HA, HK3, BK226, HB⟩ := hrel
         cases gk with
         | zero => exact absurd HA.out (by simp [pentaglotref22_fields.l0])
         | succ k3 =>
          have H := HA.out
          clear HA
          simp only [pentaglotref22_fields.l0] at H
          by_cases c27 : x5_3 < (l0_2.length : Int)
          ·rw [if_pos c27] at H
           have c27b0 : decide (x5_3 < (l0_2.length : Int)) = true := decide_eq_true c27
           clear c27
           by_cases c28 : 0 ≤ x5_3
           ·rw [if_pos c28] at H
            have c28b0 : decide (0 ≤ x5_3) = true := decide_eq_true c28
            clear c28
            replace H := Option.bind_eq_some_iff.mp H
            obtain ⟨t228, A290, H⟩ := H
            replace H : (if t228 = true then (pentaglotref22_fields.l0 k3 a1 (wrap64 (x5_3 + 1)) a0_0 a0_1 l0_2 a0_3 a0_4 l0_5) else (some false)) = some r := H
            have A29 := mk_ A290
            clear A290
            by_cases c30 : t228 = true
            ·subst c30
             rw [if_pos rfl] at H
             have H' := mk_ H
             clear H
             obtain ⟨_, _, _, _, _, _, _, _, _, _, _, _⟩ := hb6_ BK226
             have p227 : 0 ≤ (x5_3 : Int) := of_decide_eq_true (by first | (with_reducible assumption) | assumption)
             have q227 : x5_3 < (l0_2.length : Int) := of_decide_eq_true (by first | (with_reducible assumption) | assumption)
             obtain ⟨ad227, e227, hx227_0, hx227_1, hx227_2⟩ := at_T92 HR0_2.out x5_3 p227 q227
             cases e227
             replace hx227_0 := cb_ HB hx227_0
             replace hx227_1 := cb_ HB hx227_1
             replace hx227_2 := cb_ HB hx227_2
             replace p227 := eq_true p227
             replace q227 := eq_true q227
             go_wp2_with (first | ((with_reducible refine gate_callee (f := 78) rfl ?_); refine gl_ (some 59) Tryd.func78 #[.agg #[.int .i64 ((rd_T92 l0_2 x5_3).f0), .int .i64 ((rd_T92 l0_2 x5_3).f1), .string ((rd_T92 l0_2 x5_3).f2)], .int .i64 a1] ?_; (with_reducible refine (pentaglotref22_Reference.calls k3 ((rd_T92 l0_2 x5_3).f0) ((rd_T92 l0_2 x5_3).f1) ((rd_T92 l0_2 x5_3).f2) a1 true _ A29.out).mono ?_); rintro e w32 ⟨rfl, hb⟩; refine ⟨_, rfl, ?_⟩; replace BK226 := mk_ (bb_ BK226 hb); replace HB := mk_ (below_step (be1_ HB GE226) hb)))
             go_roundg k3
             case measure => have := HJ2.out; have := HJ18.out; have := HK3.out; omega
             case rel => exact ⟨(wrap64 (x5_3 + 1)), (by first | rfl | (simp; done) | (simp [*]; done) | (simp [pw_isEmpty]; done)), H', ⟨by have := HJ2.out; have := HJ18.out; have := HK3.out; omega⟩, ⟨bq_ BK226⟩, ⟨be1_ HB GE226⟩⟩
            ·replace c30 := Bool.eq_false_iff.mpr c30
             subst c30
             rw [if_neg nf_] at H
             obtain rfl := Option.some.inj H
             obtain ⟨_, _, _, _, _, _, _, _, _, _, _, _⟩ := hb6_ BK226
             have p227 : 0 ≤ (x5_3 : Int) := of_decide_eq_true (by first | (with_reducible assumption) | assumption)
             have q227 : x5_3 < (l0_2.length : Int) := of_decide_eq_true (by first | (with_reducible assumption) | assumption)
             obtain ⟨ad227, e227, hx227_0, hx227_1, hx227_2⟩ := at_T92 HR0_2.out x5_3 p227 q227
             cases e227
             replace hx227_0 := cb_ HB hx227_0
             replace hx227_1 := cb_ HB hx227_1
             replace hx227_2 := cb_ HB hx227_2
             replace p227 := eq_true p227
             replace q227 := eq_true q227
             go_wp2_with (first | ((with_reducible refine gate_callee (f := 78) rfl ?_); refine gl_ (some 59) Tryd.func78 #[.agg #[.int .i64 ((rd_T92 l0_2 x5_3).f0), .int .i64 ((rd_T92 l0_2 x5_3).f1), .string ((rd_T92 l0_2 x5_3).f2)], .int .i64 a1] ?_; (with_reducible refine (pentaglotref22_Reference.calls k3 ((rd_T92 l0_2 x5_3).f0) ((rd_T92 l0_2 x5_3).f1) ((rd_T92 l0_2 x5_3).f2) a1 false _ A29.out).mono ?_); rintro e w34 ⟨rfl, hb⟩; refine ⟨_, rfl, ?_⟩; replace BK226 := mk_ (bb_ BK226 hb); replace HB := mk_ (below_step (be1_ HB GE226) hb)))
             go_ret
             exact ⟨er_, be1_ HB GE226⟩
           ·rw [if_neg c28] at H
            exact absurd H (by simp)
          ·rw [if_neg c27] at H
           have c27b0 : decide (x5_3 < (l0_2.length : Int)) = false := decide_eq_false c27
           clear c27
           replace H := Option.bind_eq_some_iff.mp H
           obtain ⟨t229, A350, H⟩ := H
           replace H : (if t229 = true then (if (l0_2.length : Int) ≥ 1 then (if (l0_2.length : Int) ≤ 3 then (some ((l0_5.length : Int) == 0)) else (some false)) else (some false)) else (some false)) = some r := H
           have A35 := mk_ A350
           clear A350
           by_cases c36 : t229 = true
           ·subst c36
            rw [if_pos rfl] at H
            by_cases c37 : (l0_2.length : Int) ≥ 1
            ·rw [if_pos c37] at H
             have c37b0 : decide (1 ≤ (l0_2.length : Int)) = true := decide_eq_true c37
             have c37b1 : decide (1 ≤ l0_2.length) = true := decide_eq_true (by omega)
             clear c37
             by_cases c38 : (l0_2.length : Int) ≤ 3
             ·rw [if_pos c38] at H
              have c38b0 : decide ((l0_2.length : Int) ≤ 3) = true := decide_eq_true c38
              have c38b1 : decide (l0_2.length ≤ 3) = true := decide_eq_true (by omega)
              clear c38
              obtain rfl := Option.some.inj H
              obtain ⟨_, _, _, _, _, _, _, _, _, _, _, _⟩ := hb6_ BK226
              go_wp2_with (first | ((with_reducible refine gate_callee (f := 79) rfl ?_); refine gl_ (some 63) Tryd.func79 #[.string a0_1] ?_; (with_reducible refine (pentaglotref22_Symbol.calls k3 a0_1 true _ A35.out).mono ?_); rintro e w' ⟨rfl, ⟨nd, rfl⟩⟩; refine ⟨_, rfl, ?_⟩))
              go_ret
              exact ⟨er_, be1_ HB GE226⟩
             ·rw [if_neg c38] at H
              have c38b0 : decide ((l0_2.length : Int) ≤ 3) = false := decide_eq_false c38
              have c38b1 : decide (l0_2.length ≤ 3) = false := decide_eq_false (by omega)
              clear c38
              obtain rfl := Option.some.inj H
              obtain ⟨_, _, _, _, _, _, _, _, _, _, _, _⟩ := hb6_ BK226
              go_wp2_with (first | ((with_reducible refine gate_callee (f := 79) rfl ?_); refine gl_ (some 63) Tryd.func79 #[.string a0_1] ?_; (with_reducible refine (pentaglotref22_Symbol.calls k3 a0_1 true _ A35.out).mono ?_); rintro e w' ⟨rfl, ⟨nd, rfl⟩⟩; refine ⟨_, rfl, ?_⟩))
              go_ret
              exact ⟨er_, be1_ HB GE226⟩
            ·rw [if_neg c37] at H
             have c37b0 : decide (1 ≤ (l0_2.length : Int)) = false := decide_eq_false c37
             have c37b1 : decide (1 ≤ l0_2.length) = false := decide_eq_false (by omega)
             clear c37
             obtain rfl := Option.some.inj H
             obtain ⟨_, _, _, _, _, _, _, _, _, _, _, _⟩ := hb6_ BK226
             go_wp2_with (first | ((with_reducible refine gate_callee (f := 79) rfl ?_); refine gl_ (some 63) Tryd.func79 #[.string a0_1] ?_; (with_reducible refine (pentaglotref22_Symbol.calls k3 a0_1 true _ A35.out).mono ?_); rintro e w' ⟨rfl, ⟨nd, rfl⟩⟩; refine ⟨_, rfl, ?_⟩))
             go_ret
             exact ⟨er_, be1_ HB GE226⟩
           ·replace c36 := Bool.eq_false_iff.mpr c36
            subst c36
            rw [if_neg nf_] at H
            obtain rfl := Option.some.inj H
            obtain ⟨_, _, _, _, _, _, _, _, _, _, _, _⟩ := hb6_ BK226
            go_wp2_with (first | ((with_reducible refine gate_callee (f := 79) rfl ?_); refine gl_ (some 63) Tryd.func79 #[.string a0_1] ?_; (with_reducible refine (pentaglotref22_Symbol.calls k3 a0_1 false _ A35.out).mono ?_); rintro e w' ⟨rfl, ⟨nd, rfl⟩⟩; refine ⟨_, rfl, ?_⟩))
            go_ret
            exact ⟨er_, be1_ HB GE226⟩
       ·rw [if_neg c26] at H
        obtain ⟨c26b0, c26b1⟩ := en_ c26
        have HC43 := mk_ H
        clear H
        go_upto_if 82 with (fail)
        go_cut [82] (fun v82 wc => ∃ (kq : Nat) (x82_42 : Bool), v82 = .bool x82_42 ∧ Aside0 (pentaglotref22_fields.j3 kq a0_0 x82_42 a0_0 a0_1 l0_2 a0_3 a0_4 l0_5 = some r) ∧ Aside0 (kq ≤ kj18) ∧ Aside0 (wc.heap[gb226]? = some (.cells #[.int .i64 a0_0, .string a0_1, (.slice A0_2 l0_2.length c0_2), .int .i64 a0_3, .int .i64 a0_4, (.slice A0_5 l0_5.length c0_5)] 32 (0, 0))) ∧ Aside0 (Below w.heap.size w wc))
        case first =>
         have H := HC43.out
         clear HC43
         by_cases c44 : a0_0 = 4
         ·rw [if_pos c44] at H
          obtain ⟨c44b0, c44b1⟩ := eb_ c44
          clear c44
          (first | rw [c44b0] | (simp only [i64_w, i32_w]; rw [c44b0]) | skip)
          have H' := mk_ H
          clear H
          go_wp2
          go_meet
          case rel => exact ⟨_, ((a0_0 == 4)), (by first | rfl | (simp; done) | (simp [*]; done) | (simp [pw_isEmpty]; done)), H', ⟨by have := HJ2.out; have := HJ18.out; first | omega | exact Nat.le_refl _⟩, ⟨bq_ BK226⟩, ⟨be1_ HB GE226⟩⟩
         ·rw [if_neg c44] at H
          obtain ⟨c44b0, c44b1⟩ := en_ c44
          (first | rw [c44b0] | (simp only [i64_w, i32_w]; rw [c44b0]) | skip)
          by_cases c45 : a0_0 = 11
          ·rw [if_pos c45] at H
           obtain ⟨c45b0, c45b1⟩ := eb_ c45
           clear c45
           have H' := mk_ H
           clear H
           go_wp2
           go_meet
           case rel => exact ⟨_, ((a0_0 == 11)), (by first | rfl | (simp; done) | (simp [*]; done) | (simp [pw_isEmpty]; done)), H', ⟨by have := HJ2.out; have := HJ18.out; first | omega | exact Nat.le_refl _⟩, ⟨bq_ BK226⟩, ⟨be1_ HB GE226⟩⟩
          ·rw [if_neg c45] at H
           obtain ⟨c45b0, c45b1⟩ := en_ c45
           have H' := mk_ H
           clear H
           go_wp2
           go_meet
           case rel => exact ⟨_, ((a0_0 == 12)), (by first | rfl | (simp; done) | (simp [*]; done) | (simp [pw_isEmpty]; done)), H', ⟨by have := HJ2.out; have := HJ18.out; first | omega | exact Nat.le_refl _⟩, ⟨bq_ BK226⟩, ⟨be1_ HB GE226⟩⟩
        case rest =>
         clear HC43
         obtain ⟨kq, x82_42, rfl, HA, HJ42, BK226, HB⟩ := hcut
         cases kq with
         | zero => exact absurd HA.out (by simp [pentaglotref22_fields.j3])
         | succ kj42 =>
          have H := HA.out
          clear HA
          simp only [pentaglotref22_fields.j3] at H
          by_cases c46 : x82_42 = true
          ·subst c46
           rw [if_pos rfl] at H
           by_cases c47 : a0_1.toList = ([] : List UInt8)
           ·rw [if_pos c47] at H
            obtain ⟨c47b0, c47b1⟩ := eb_ c47
            clear c47
            obtain rfl := Option.some.inj H
            obtain ⟨_, _, _, _, _, _, _, _, _, _, _, _⟩ := hb6_ BK226
            go_wp2
            go_ret
            exact ⟨er_, be1_ HB GE226⟩
           ·rw [if_neg c47] at H
            obtain ⟨c47b0, c47b1⟩ := en_ c47
            obtain rfl := Option.some.inj H
            obtain ⟨_, _, _, _, _, _, _, _, _, _, _, _⟩ := hb6_ BK226
            go_wp2
            go_ret
            exact ⟨er_, be1_ HB GE226⟩
          ·replace c46 := Bool.eq_false_iff.mpr c46
           subst c46
           rw [if_neg nf_] at H
           have HC50 := mk_ H
           clear H
           go_upto_if 95 with (fail)
           go_cut [95] (fun v95 wc => ∃ (kq : Nat) (x95_49 : Bool), v95 = .bool x95_49 ∧ Aside0 (pentaglotref22_fields.j4 kq a0_0 x95_49 a0_0 a0_1 l0_2 a0_3 a0_4 l0_5 = some r) ∧ Aside0 (kq ≤ kj42) ∧ Aside0 (wc.heap[gb226]? = some (.cells #[.int .i64 a0_0, .string a0_1, (.slice A0_2 l0_2.length c0_2), .int .i64 a0_3, .int .i64 a0_4, (.slice A0_5 l0_5.length c0_5)] 32 (0, 0))) ∧ Aside0 (Below w.heap.size w wc))
           case first =>
            have H := HC50.out
            clear HC50
            by_cases c51 : a0_0 = 5
            ·rw [if_pos c51] at H
             obtain ⟨c51b0, c51b1⟩ := eb_ c51
             clear c51
             (first | rw [c51b0] | (simp only [i64_w, i32_w]; rw [c51b0]) | skip)
             have H' := mk_ H
             clear H
             go_wp2
             go_meet
             case rel => exact ⟨_, ((a0_0 == 5)), (by first | rfl | (simp; done) | (simp [*]; done) | (simp [pw_isEmpty]; done)), H', ⟨by have := HJ2.out; have := HJ18.out; have := HJ42.out; first | omega | exact Nat.le_refl _⟩, ⟨bq_ BK226⟩, ⟨be1_ HB GE226⟩⟩
            ·rw [if_neg c51] at H
             obtain ⟨c51b0, c51b1⟩ := en_ c51
             (first | rw [c51b0] | (simp only [i64_w, i32_w]; rw [c51b0]) | skip)
             have H' := mk_ H
             clear H
             go_wp2
             go_meet
             case rel => exact ⟨_, ((a0_0 == 6)), (by first | rfl | (simp; done) | (simp [*]; done) | (simp [pw_isEmpty]; done)), H', ⟨by have := HJ2.out; have := HJ18.out; have := HJ42.out; first | omega | exact Nat.le_refl _⟩, ⟨bq_ BK226⟩, ⟨be1_ HB GE226⟩⟩
           case rest =>
            clear HC50
            obtain ⟨kq, x95_49, rfl, HA, HJ49, BK226, HB⟩ := hcut
            cases kq with
            | zero => exact absurd HA.out (by simp [pentaglotref22_fields.j4])
            | succ kj49 =>
             have H := HA.out
             clear HA
             simp only [pentaglotref22_fields.j4] at H
             by_cases c52 : x95_49 = true
             ·subst c52
              rw [if_pos rfl] at H
              obtain rfl := Option.some.inj H
              obtain ⟨_, _, _, _, _, _, _, _, _, _, _, _⟩ := hb6_ BK226
              go_wp2
              go_ret
              exact ⟨er_, be1_ HB GE226⟩
             ·replace c52 := Bool.eq_false_iff.mpr c52
              subst c52
              rw [if_neg nf_] at H
              by_cases c54 : a0_0 = 7
              ·rw [if_pos c54] at H
               obtain ⟨c54b0, c54b1⟩ := eb_ c54
               clear c54
               by_cases c55 : a0_1.toList = ([] : List UInt8)
               ·rw [if_pos c55] at H
                obtain ⟨c55b0, c55b1⟩ := eb_ c55
                clear c55
                obtain rfl := Option.some.inj H
                obtain ⟨_, _, _, _, _, _, _, _, _, _, _, _⟩ := hb6_ BK226
                go_wp2
                go_ret
                exact ⟨er_, be1_ HB GE226⟩
               ·rw [if_neg c55] at H
                obtain ⟨c55b0, c55b1⟩ := en_ c55
                obtain rfl := Option.some.inj H
                obtain ⟨_, _, _, _, _, _, _, _, _, _, _, _⟩ := hb6_ BK226
                go_wp2
                go_ret
                exact ⟨er_, be1_ HB GE226⟩
              ·rw [if_neg c54] at H
               obtain ⟨c54b0, c54b1⟩ := en_ c54
               have HC58 := mk_ H
               clear H
               go_upto_if 112 with (fail)
               go_cut [112] (fun v112 wc => ∃ (kq : Nat) (x112_57 : Bool), v112 = .bool x112_57 ∧ Aside0 (pentaglotref22_fields.j5 kq a0_0 x112_57 a0_0 a0_1 l0_2 a0_3 a0_4 l0_5 = some r) ∧ Aside0 (kq ≤ kj49) ∧ Aside0 (wc.heap[gb226]? = some (.cells #[.int .i64 a0_0, .string a0_1, (.slice A0_2 l0_2.length c0_2), .int .i64 a0_3, .int .i64 a0_4, (.slice A0_5 l0_5.length c0_5)] 32 (0, 0))) ∧ Aside0 (Below w.heap.size w wc))
               case first =>
                have H := HC58.out
                clear HC58
                by_cases c59 : a0_0 = 8
                ·rw [if_pos c59] at H
                 obtain ⟨c59b0, c59b1⟩ := eb_ c59
                 clear c59
                 (first | rw [c59b0] | (simp only [i64_w, i32_w]; rw [c59b0]) | skip)
                 have H' := mk_ H
                 clear H
                 go_wp2
                 go_meet
                 case rel => exact ⟨_, ((a0_0 == 8)), (by first | rfl | (simp; done) | (simp [*]; done) | (simp [pw_isEmpty]; done)), H', ⟨by have := HJ2.out; have := HJ18.out; have := HJ42.out; have := HJ49.out; first | omega | exact Nat.le_refl _⟩, ⟨bq_ BK226⟩, ⟨be1_ HB GE226⟩⟩
                ·rw [if_neg c59] at H
                 obtain ⟨c59b0, c59b1⟩ := en_ c59
                 (first | rw [c59b0] | (simp only [i64_w, i32_w]; rw [c59b0]) | skip)
                 have H' := mk_ H
                 clear H
                 go_wp2
                 go_meet
                 case rel => exact ⟨_, ((a0_0 == 9)), (by first | rfl | (simp; done) | (simp [*]; done) | (simp [pw_isEmpty]; done)), H', ⟨by have := HJ2.out; have := HJ18.out; have := HJ42.out; have := HJ49.out; first | omega | exact Nat.le_refl _⟩, ⟨bq_ BK226⟩, ⟨be1_ HB GE226⟩⟩
               case rest =>
                clear HC58
                obtain ⟨kq, x112_57, rfl, HA, HJ57, BK226, HB⟩ := hcut
                cases kq with
                | zero => exact absurd HA.out (by simp [pentaglotref22_fields.j5])
                | succ kj57 =>
                 have H := HA.out
                 clear HA
                 simp only [pentaglotref22_fields.j5] at H
                 by_cases c60 : x112_57 = true
                 ·subst c60
                  rw [if_pos rfl] at H
                  replace H := Option.bind_eq_some_iff.mp H
                  obtain ⟨t230, A610, H⟩ := H
                  replace H : (if t230 = true then (some ((l0_5.length : Int) == 1)) else (some false)) = some r := H
                  have A61 := mk_ A610
                  clear A610
                  by_cases c62 : t230 = true
                  ·subst c62
                   rw [if_pos rfl] at H
                   obtain rfl := Option.some.inj H
                   obtain ⟨_, _, _, _, _, _, _, _, _, _, _, _⟩ := hb6_ BK226
                   go_wp2_with (first | ((with_reducible refine gate_callee (f := 79) rfl ?_); refine gl_ (some 117) Tryd.func79 #[.string a0_1] ?_; (with_reducible refine (pentaglotref22_Symbol.calls kj57 a0_1 true _ A61.out).mono ?_); rintro e w' ⟨rfl, ⟨nd, rfl⟩⟩; refine ⟨_, rfl, ?_⟩))
                   go_ret
                   exact ⟨er_, be1_ HB GE226⟩
                  ·replace c62 := Bool.eq_false_iff.mpr c62
                   subst c62
                   rw [if_neg nf_] at H
                   obtain rfl := Option.some.inj H
                   obtain ⟨_, _, _, _, _, _, _, _, _, _, _, _⟩ := hb6_ BK226
                   go_wp2_with (first | ((with_reducible refine gate_callee (f := 79) rfl ?_); refine gl_ (some 117) Tryd.func79 #[.string a0_1] ?_; (with_reducible refine (pentaglotref22_Symbol.calls kj57 a0_1 false _ A61.out).mono ?_); rintro e w' ⟨rfl, ⟨nd, rfl⟩⟩; refine ⟨_, rfl, ?_⟩))
                   go_ret
                   exact ⟨er_, be1_ HB GE226⟩
                 ·replace c60 := Bool.eq_false_iff.mpr c60
                  subst c60
                  rw [if_neg nf_] at H
                  by_cases c65 : a0_0 = 10
                  ·rw [if_pos c65] at H
                   obtain ⟨c65b0, c65b1⟩ := eb_ c65
                   clear c65
                   by_cases c66 : a0_1.toList = ([] : List UInt8)
                   ·rw [if_pos c66] at H
                    obtain ⟨c66b0, c66b1⟩ := eb_ c66
                    clear c66
                    by_cases c67 : (l0_5.length : Int) = 1
                    ·rw [if_pos c67] at H
                     obtain ⟨c67b0, c67b1⟩ := eb_ c67
                     clear c67
                     replace H := Option.bind_eq_some_iff.mp H
                     obtain ⟨t231, A680, H⟩ := H
                     replace H : (if t231 = true then ((pentaglotref22_moment.f a0_4).bind fun t232 => (some t232)) else (some false)) = some r := H
                     have A68 := mk_ A680
                     clear A680
                     by_cases c69 : t231 = true
                     ·subst c69
                      rw [if_pos rfl] at H
                      replace H := Option.bind_eq_some_iff.mp H
                      obtain ⟨t232, A700, H⟩ := H
                      replace H : (some t232) = some r := H
                      have A70 := mk_ A700
                      clear A700
                      obtain rfl := Option.some.inj H
                      obtain ⟨_, _, _, _, _, _, _, _, _, _, _, _⟩ := hb6_ BK226
                      go_wp2_with (first | (go_at_call 80; (with_reducible refine (pentaglotref22_moment.calls a0_3 true _ A68.out).mono ?_); rintro e w' ⟨rfl, ⟨nd, rfl⟩⟩) | (go_at_call 80; (with_reducible refine (pentaglotref22_moment.calls a0_4 t232 _ A70.out).mono ?_); rintro e w' ⟨rfl, ⟨nd, rfl⟩⟩))
                      go_ret
                      exact ⟨er_, be1_ HB GE226⟩
                     ·replace c69 := Bool.eq_false_iff.mpr c69
                      subst c69
                      rw [if_neg nf_] at H
                      obtain rfl := Option.some.inj H
                      obtain ⟨_, _, _, _, _, _, _, _, _, _, _, _⟩ := hb6_ BK226
                      go_wp2_with (first | (go_at_call 80; (with_reducible refine (pentaglotref22_moment.calls a0_3 false _ A68.out).mono ?_); rintro e w' ⟨rfl, ⟨nd, rfl⟩⟩))
                      go_ret
                      exact ⟨er_, be1_ HB GE226⟩
                    ·rw [if_neg c67] at H
                     obtain ⟨c67b0, c67b1⟩ := en_ c67
                     obtain rfl := Option.some.inj H
                     obtain ⟨_, _, _, _, _, _, _, _, _, _, _, _⟩ := hb6_ BK226
                     go_wp2
                     go_ret
                     exact ⟨er_, be1_ HB GE226⟩
                   ·rw [if_neg c66] at H
                    obtain ⟨c66b0, c66b1⟩ := en_ c66
                    obtain rfl := Option.some.inj H
                    obtain ⟨_, _, _, _, _, _, _, _, _, _, _, _⟩ := hb6_ BK226
                    go_wp2
                    go_ret
                    exact ⟨er_, be1_ HB GE226⟩
                  ·rw [if_neg c65] at H
                   obtain ⟨c65b0, c65b1⟩ := en_ c65
                   obtain rfl := Option.some.inj H
                   go_wp2
                   go_ret
                   exact ⟨er_, be1_ HB GE226⟩
end Go.Proofs.YtolpckflofjfhaaDoor.P
