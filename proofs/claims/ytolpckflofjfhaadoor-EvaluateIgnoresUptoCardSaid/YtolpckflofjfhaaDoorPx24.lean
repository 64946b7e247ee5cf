-- printed by wip/tools/xprint.py
import Derived.Test.YtolpckflofjfhaaDoorPx0
import Derived.Test.YtolpckflofjfhaaDoorPx12
import Derived.Test.YtolpckflofjfhaaDoorPx22
import Derived.Test.YtolpckflofjfhaaDoorPx23
namespace Go.Proofs.YtolpckflofjfhaaDoor.P
open Go.RowKit Go.Proofs.YtolpckflofjfhaaDoorW.PrintWords Go.Proofs.YtolpckflofjfhaaDoorW.PrintLast Go.Proofs.YtolpckflofjfhaaDoorW.PrintMore
attribute [local go_sem] max2_int min2_int max_two min_two max_three min_three max_four min_four
set_option linter.unusedVariables false
set_option maxHeartbeats 8000000
set_option maxRecDepth 100000
set_option linter.unusedSimpArgs false

mutual
def pentaglotref26_Light.l0 : Nat → Int → Int → List (S73) → List Int → Int → List (S62) → Int → ByteArray → List (S92) → Int → Int → List (S32) → Option (Bool)
 | 0, _, _, _, _, _, _, _, _, _, _, _, _ => none
 | k + 1, x5, x6, x292000, x292001, x292002, x292003, x293000, x293001, x293002, x293003, x293004, x293005 => if x6 < (x292000.length : Int) then (if 0 ≤ x6 then (pentaglotref26_Light.l0 k (wrap64 (x5 + (((rd_T73 x292000 x6).f1).length : Int))) (wrap64 (x6 + 1)) x292000 x292001 x292002 x292003 x293000 x293001 x293002 x293003 x293004 x293005) else (none)) else (if x5 > 12 then (pentaglotref26_Light.j1 k true x292000 x292001 x292002 x292003 x293000 x293001 x293002 x293003 x293004 x293005) else (if (x292000.length : Int) > 12 then (pentaglotref26_Light.j1 k true x292000 x292001 x292002 x292003 x293000 x293001 x293002 x293003 x293004 x293005) else (if (x292001.length : Int) > 4 then (pentaglotref26_Light.j1 k true x292000 x292001 x292002 x292003 x293000 x293001 x293002 x293003 x293004 x293005) else (if (x292003.length : Int) > 60 then (pentaglotref26_Light.j1 k true x292000 x292001 x292002 x292003 x293000 x293001 x293002 x293003 x293004 x293005) else ((pentaglotref22_Size.f k x293000 x293001 x293002 x293003 x293004 x293005).bind fun t294 => (pentaglotref26_Light.j1 k (decide (t294 > 300)) x292000 x292001 x292002 x292003 x293000 x293001 x293002 x293003 x293004 x293005))))))
def pentaglotref26_Light.j1 : Nat → Bool → List (S73) → List Int → Int → List (S62) → Int → ByteArray → List (S92) → Int → Int → List (S32) → Option (Bool)
 | 0, _, _, _, _, _, _, _, _, _, _, _ => none
 | k + 1, x52, x292000, x292001, x292002, x292003, x293000, x293001, x293002, x293003, x293004, x293005 => if x52 = true then (some false) else ((pentaglotref26_Fits.f k x292000 x292001 x292002 x292003 x293000 x293001 x293002 x293003 x293004 x293005).bind fun t295 => (if t295 = true then ((pentaglotref26_Work.f k x292000 x292001 x292002 x292003 x293000 x293001 x293002 x293003 x293004 x293005).bind fun t296 => (if t296 ≤ 5000 then (some true) else (some (decide (t296 > 1048576))))) else (some true)))
end
def pentaglotref26_Light.f (k : Nat) (l0_0 : List (S73)) (l0_1 : List Int) (a0_2 : Int) (l0_3 : List (S62)) (a1_0 : Int) (a1_1 : ByteArray) (l1_2 : List (S92)) (a1_3 : Int) (a1_4 : Int) (l1_5 : List (S32)) : Option (Bool) := pentaglotref26_Light.l0 k 0 0 l0_0 l0_1 a0_2 l0_3 a1_0 a1_1 l1_2 a1_3 a1_4 l1_5
theorem pentaglotref26_Light.calls (k : Nat) (A0_0 : Option Addr) (c0_0 : Nat) (l0_0 : List (S73)) (A0_1 : Option Addr) (c0_1 : Nat) (l0_1 : List Int) (a0_2 : Int) (A0_3 : Option Addr) (c0_3 : Nat) (l0_3 : List (S62)) (a1_0 : Int) (a1_1 : ByteArray) (A1_2 : Option Addr) (c1_2 : Nat) (l1_2 : List (S92)) (a1_3 : Int) (a1_4 : Int) (A1_5 : Option Addr) (c1_5 : Nat) (l1_5 : List (S32)) (r : Bool) (w : World) (hr0_0 : Kd.C k73 w A0_0 l0_0.length l0_0) (hc0_0 : l0_0.length ≤ c0_0) (hr0_1 : Kd.C (Kd.int .i64) w A0_1 l0_1.length l0_1) (hc0_1 : l0_1.length ≤ c0_1) (hr0_3 : Kd.C k62 w A0_3 l0_3.length l0_3) (hc0_3 : l0_3.length ≤ c0_3) (hr1_2 : Kd.C k92 w A1_2 l1_2.length l1_2) (hc1_2 : l1_2.length ≤ c1_2) (hr1_5 : Kd.C k32 w A1_5 l1_5.length l1_5) (hc1_5 : l1_5.length ≤ c1_5) (h : pentaglotref26_Light.f k l0_0 l0_1 a0_2 l0_3 a1_0 a1_1 l1_2 a1_3 a1_4 l1_5 = some r) :
  Calls Tryd.prog 13 #[.agg #[.slice A0_0 l0_0.length c0_0, .slice A0_1 l0_1.length c0_1, .int .i64 a0_2, .slice A0_3 l0_3.length c0_3], .agg #[.int .i64 a1_0, .string a1_1, .slice A1_2 l1_2.length c1_2, .int .i64 a1_3, .int .i64 a1_4, .slice A1_5 l1_5.length c1_5]] w fun e w' => e = .returned (.bool r) ∧ Below w.heap.size w w' := by
 have hu28 := Tryd.underlying28
 have hu32 := Tryd.underlying32
 have HR0_0 := mk_ hr0_0
 have HC0_0 := mk_ hc0_0
 clear hr0_0 hc0_0
 have HR0_1 := mk_ hr0_1
 have HC0_1 := mk_ hc0_1
 clear hr0_1 hc0_1
 have HR0_3 := mk_ hr0_3
 have HC0_3 := mk_ hc0_3
 clear hr0_3 hc0_3
 have HR1_2 := mk_ hr1_2
 have HC1_2 := mk_ hc1_2
 clear hr1_2 hc1_2
 have HR1_5 := mk_ hr1_5
 have HC1_5 := mk_ hc1_5
 clear hr1_5 hc1_5
 have HB := mk_ (Below.refl w.heap.size w)
 have H : (pentaglotref26_Light.l0 k 0 0 l0_0 l0_1 a0_2 l0_3 a1_0 a1_1 l1_2 a1_3 a1_4 l1_5) = some r := h
 clear h
 have H' := mk_ H
 clear H
 go_enter Tryd.func13, Tryd.ntmps13
 go_wp2_with (first | ((with_reducible refine gate_dst (N := 2) rfl ?_); (try (refine gate_guard (by rfl) ?_; dsimp only)); refine bx_ 2 #[.slice A0_0 l0_0.length c0_0, .slice A0_1 l0_1.length c0_1, .int .i64 a0_2, .slice A0_3 l0_3.length c0_3] 28 ?_; intro gb291 hg w3 hbox hb; have BK291 := mk_ (hbox); have GW291 := mk_ (gs_ hg (be_ HB)); have GE291 := mk_ (gs_ hg (be_ HB)); replace HB := mk_ (below_step (be_ HB) hb); clear hb hbox hg) | ((with_reducible refine gate_dst (N := 3) rfl ?_); (try (refine gate_guard (by rfl) ?_; dsimp only)); refine bx_ 3 #[.int .i64 a1_0, .string a1_1, .slice A1_2 l1_2.length c1_2, .int .i64 a1_3, .int .i64 a1_4, .slice A1_5 l1_5.length c1_5] 32 ?_; intro gb292 hg w4 hbox hb; have n0_ := mk_ (bb_ BK291 hb); have n1_ := mk_ (below_step (be1_ HB GE291) hb); have n2_ := mk_ (hbox); have n3_ := mk_ (gs_ hg (be1_ HB GE291)); have n4_ := mk_ (gs_ hg (be1_ HB GE291)); have n5_ := mk_ ((by rw [hg]; exact Nat.ne_of_lt (blk_lt (g := gb291) (o := .cells #[.slice A0_0 l0_0.length c0_0, .slice A0_1 l0_1.length c0_1, .int .i64 a0_2, .slice A0_3 l0_3.length c0_3] 28 (0, 0)) (bq_ BK291)) : gb291 ≠ gb292)); have n6_ := mk_ ((by rw [hg]; exact Nat.ne_of_gt (blk_lt (g := gb291) (o := .cells #[.slice A0_0 l0_0.length c0_0, .slice A0_1 l0_1.length c0_1, .int .i64 a0_2, .slice A0_3 l0_3.length c0_3] 28 (0, 0)) (bq_ BK291)) : gb292 ≠ gb291)); clear BK291; clear HB; have BK291 := n0_; have HB := n1_; have BK292 := n2_; have GW292 := n3_; have GE292 := n4_; have NB291_292 := n5_; have NB292_291 := n6_; clear n0_ n1_ n2_ n3_ n4_ n5_ n6_; clear hb hbox hg))
 go_loopg [5, 6] k (fun kq v5 v6 w' => ∃ (x5_1 : Int) (x6_1 : Int), v5 = .int .i64 x5_1 ∧ v6 = .int .i64 x6_1 ∧ Aside0 (pentaglotref26_Light.l0 kq x5_1 x6_1 l0_0 l0_1 a0_2 l0_3 a1_0 a1_1 l1_2 a1_3 a1_4 l1_5 = some r) ∧ Aside0 (kq ≤ k) ∧ Aside0 (w'.heap[gb291]? = some (.cells #[(.slice A0_0 l0_0.length c0_0), (.slice A0_1 l0_1.length c0_1), .int .i64 a0_2, (.slice A0_3 l0_3.length c0_3)] 28 (0, 0))) ∧ Aside0 (w'.heap[gb292]? = some (.cells #[.int .i64 a1_0, .string a1_1, (.slice A1_2 l1_2.length c1_2), .int .i64 a1_3, .int .i64 a1_4, (.slice A1_5 l1_5.length c1_5)] 32 (0, 0))) ∧ Aside0 (Below w.heap.size w w'))
 case atStart => exact ⟨(0), (0), fi_, fi_, H', ⟨Nat.le_refl _⟩, ⟨bq_ BK291⟩, ⟨bq_ BK292⟩, ⟨be2_ HB GE291 GE292⟩⟩
 case round =>
  clear H'
  obtain ⟨x5_1, x6_1, rfl, rfl, HA, HK1, BK291, BK292, HB⟩ := hrel
  cases gk with
  | zero => exact absurd HA.out (by simp [pentaglotref26_Light.l0])
  | succ k1 =>
   have H := HA.out
   clear HA
   simp only [pentaglotref26_Light.l0] at H
   by_cases c5 : x6_1 < (l0_0.length : Int)
   ·rw [if_pos c5] at H
    have c5b0 : decide (x6_1 < (l0_0.length : Int)) = true := decide_eq_true c5
    clear c5
    by_cases c6 : 0 ≤ x6_1
    ·rw [if_pos c6] at H
     have c6b0 : decide (0 ≤ x6_1) = true := decide_eq_true c6
     clear c6
     have H' := mk_ H
     clear H
     have hnb7 := NB291_292.out
     have hnc7 := NB292_291.out
     obtain ⟨_, _, _, _, _, _, _, _⟩ := hb4_ BK291
     have p293 : 0 ≤ (x6_1 : Int) := of_decide_eq_true (by first | (with_reducible assumption) | assumption)
     have q293 : x6_1 < (l0_0.length : Int) := of_decide_eq_true (by first | (with_reducible assumption) | assumption)
     obtain ⟨ad293, A293_1, c293_1, e293, hx293_0, hx293_1, hl293_1, hi293_1⟩ := at_T73 HR0_0.out x6_1 p293 q293
     cases e293
     replace hx293_0 := cb_ HB hx293_0
     replace hx293_1 := cb_ HB hx293_1
     have HR293_1 := mk_ hi293_1
     have HC293_1 := mk_ hl293_1
     clear hi293_1 hl293_1
     replace p293 := eq_true p293
     replace q293 := eq_true q293
     go_wp2
     go_roundg k1
     case measure => have := HK1.out; omega
     case rel => exact ⟨(wrap64 (x5_1 + (((rd_T73 l0_0 x6_1).f1).length : Int))), (wrap64 (x6_1 + 1)), fi_, fi_, H', ⟨by have := HK1.out; omega⟩, ⟨bq_ BK291⟩, ⟨bq_ BK292⟩, ⟨be2_ HB GE291 GE292⟩⟩
    ·rw [if_neg c6] at H
     exact absurd H (by simp)
   ·rw [if_neg c5] at H
    have c5b0 : decide (x6_1 < (l0_0.length : Int)) = false := decide_eq_false c5
    clear c5
    have HC9 := mk_ H
    clear H
    have hnb10 := NB291_292.out
    have hnc10 := NB292_291.out
    obtain ⟨_, _, _, _, _, _, _, _⟩ := hb4_ BK291
    go_upto_region 6 with (fail)
    go_cut [52] (fun v52 wc => ∃ (kq : Nat) (x52_8 : Bool), v52 = .bool x52_8 ∧ Aside0 (pentaglotref26_Light.j1 kq x52_8 l0_0 l0_1 a0_2 l0_3 a1_0 a1_1 l1_2 a1_3 a1_4 l1_5 = some r) ∧ Aside0 (kq ≤ k1) ∧ Aside0 (wc.heap[gb291]? = some (.cells #[(.slice A0_0 l0_0.length c0_0), (.slice A0_1 l0_1.length c0_1), .int .i64 a0_2, (.slice A0_3 l0_3.length c0_3)] 28 (0, 0))) ∧ Aside0 (wc.heap[gb292]? = some (.cells #[.int .i64 a1_0, .string a1_1, (.slice A1_2 l1_2.length c1_2), .int .i64 a1_3, .int .i64 a1_4, (.slice A1_5 l1_5.length c1_5)] 32 (0, 0))) ∧ Aside0 (Below w.heap.size w wc))
    case first =>
     have H := HC9.out
     clear HC9
     by_cases c12 : x5_1 > 12
     ·rw [if_pos c12] at H
      have c12b0 : decide (12 < x5_1) = true := decide_eq_true c12
      clear c12
      (first | rw [c12b0] | (simp only [i64_w, i32_w]; rw [c12b0]) | skip)
      have H' := mk_ H
      clear H
      go_wp2
      go_meet
      case rel => exact ⟨_, (true), fi_, H', ⟨by have := HK1.out; first | omega | exact Nat.le_refl _⟩, ⟨bq_ BK291⟩, ⟨bq_ BK292⟩, ⟨be2_ HB GE291 GE292⟩⟩
     ·rw [if_neg c12] at H
      have c12b0 : decide (12 < x5_1) = false := decide_eq_false c12
      clear c12
      (first | rw [c12b0] | (simp only [i64_w, i32_w]; rw [c12b0]) | skip)
      by_cases c13 : (l0_0.length : Int) > 12
      ·rw [if_pos c13] at H
       have c13b0 : decide (12 < (l0_0.length : Int)) = true := decide_eq_true c13
       have c13b1 : decide (12 < l0_0.length) = true := decide_eq_true (by omega)
       clear c13
       have H' := mk_ H
       clear H
       have hnb14 := NB291_292.out
       have hnc14 := NB292_291.out
       obtain ⟨_, _, _, _, _, _, _, _⟩ := hb4_ BK291
       go_wp2
       go_meet
       case rel => exact ⟨_, (true), fi_, H', ⟨by have := HK1.out; first | omega | exact Nat.le_refl _⟩, ⟨bq_ BK291⟩, ⟨bq_ BK292⟩, ⟨be2_ HB GE291 GE292⟩⟩
      ·rw [if_neg c13] at H
       have c13b0 : decide (12 < (l0_0.length : Int)) = false := decide_eq_false c13
       have c13b1 : decide (12 < l0_0.length) = false := decide_eq_false (by omega)
       clear c13
       by_cases c16 : (l0_1.length : Int) > 4
       ·rw [if_pos c16] at H
        have c16b0 : decide (4 < (l0_1.length : Int)) = true := decide_eq_true c16
        have c16b1 : decide (4 < l0_1.length) = true := decide_eq_true (by omega)
        clear c16
        have H' := mk_ H
        clear H
        have hnb17 := NB291_292.out
        have hnc17 := NB292_291.out
        obtain ⟨_, _, _, _, _, _, _, _⟩ := hb4_ BK291
        go_wp2
        go_meet
        case rel => exact ⟨_, (true), fi_, H', ⟨by have := HK1.out; first | omega | exact Nat.le_refl _⟩, ⟨bq_ BK291⟩, ⟨bq_ BK292⟩, ⟨be2_ HB GE291 GE292⟩⟩
       ·rw [if_neg c16] at H
        have c16b0 : decide (4 < (l0_1.length : Int)) = false := decide_eq_false c16
        have c16b1 : decide (4 < l0_1.length) = false := decide_eq_false (by omega)
        clear c16
        by_cases c19 : (l0_3.length : Int) > 60
        ·rw [if_pos c19] at H
         have c19b0 : decide (60 < (l0_3.length : Int)) = true := decide_eq_true c19
         have c19b1 : decide (60 < l0_3.length) = true := decide_eq_true (by omega)
         clear c19
         have H' := mk_ H
         clear H
         have hnb20 := NB291_292.out
         have hnc20 := NB292_291.out
         obtain ⟨_, _, _, _, _, _, _, _⟩ := hb4_ BK291
         go_wp2
         go_meet
         case rel => exact ⟨_, (true), fi_, H', ⟨by have := HK1.out; first | omega | exact Nat.le_refl _⟩, ⟨bq_ BK291⟩, ⟨bq_ BK292⟩, ⟨be2_ HB GE291 GE292⟩⟩
        ·rw [if_neg c19] at H
         have c19b0 : decide (60 < (l0_3.length : Int)) = false := decide_eq_false c19
         have c19b1 : decide (60 < l0_3.length) = false := decide_eq_false (by omega)
         clear c19
         replace H := Option.bind_eq_some_iff.mp H
         obtain ⟨t294, A220, H⟩ := H
         replace H : (pentaglotref26_Light.j1 k1 (decide (t294 > 300)) l0_0 l0_1 a0_2 l0_3 a1_0 a1_1 l1_2 a1_3 a1_4 l1_5) = some r := H
         have A22 := mk_ A220
         clear A220
         have H' := mk_ H
         clear H
         have hnb23 := NB291_292.out
         have hnc23 := NB292_291.out
         obtain ⟨_, _, _, _, _, _, _, _⟩ := hb4_ BK291
         obtain ⟨_, _, _, _, _, _, _, _, _, _, _, _⟩ := hb6_ BK292
         go_wp2_with (first | (go_at_call 35; (with_reducible refine (pentaglotref22_Size.calls k1 a1_0 a1_1 _ _ l1_2 a1_3 a1_4 _ _ l1_5 t294 _ ?side1 ?side2 ?side3 ?side4 A22.out).mono ?_); (case side1 => exact cs_ (Kd.C_below HR1_2.out HB.out)); (case side2 => exact HC1_2.out); (case side3 => exact cs_ (Kd.C_below HR1_5.out HB.out)); (case side4 => exact HC1_5.out); rintro e w26 ⟨rfl, hb⟩; replace BK291 := mk_ (bb_ BK291 hb); replace BK292 := mk_ (bb_ BK292 hb); replace HB := mk_ (below_step (be2_ HB GE291 GE292) hb); (try clear hb); (try clear hb2); (try clear hk); (try clear hi)))
         go_meet
         case rel => exact ⟨_, (decide (t294 > 300)), fi_, H', ⟨by have := HK1.out; first | omega | exact Nat.le_refl _⟩, ⟨bq_ BK291⟩, ⟨bq_ BK292⟩, ⟨be2_ HB GE291 GE292⟩⟩
    case rest =>
     clear HC9
     obtain ⟨kq, x52_8, rfl, HA, HJ8, BK291, BK292, HB⟩ := hcut
     cases kq with
     | zero => exact absurd HA.out (by simp [pentaglotref26_Light.j1])
     | succ kj8 =>
      have H := HA.out
      clear HA
      simp only [pentaglotref26_Light.j1] at H
      by_cases c27 : x52_8 = true
      ·subst c27
       rw [if_pos rfl] at H
       obtain rfl := Option.some.inj H
       go_wp2
       go_ret
       exact ⟨er_, be2_ HB GE291 GE292⟩
      ·replace c27 := Bool.eq_false_iff.mpr c27
       subst c27
       rw [if_neg nf_] at H
       replace H := Option.bind_eq_some_iff.mp H
       obtain ⟨t295, A280, H⟩ := H
       replace H : (if t295 = true then ((pentaglotref26_Work.f kj8 l0_0 l0_1 a0_2 l0_3 a1_0 a1_1 l1_2 a1_3 a1_4 l1_5).bind fun t296 => (if t296 ≤ 5000 then (some true) else (some (decide (t296 > 1048576))))) else (some true)) = some r := H
       have A28 := mk_ A280
       clear A280
       by_cases c29 : t295 = true
       ·subst c29
        rw [if_pos rfl] at H
        replace H := Option.bind_eq_some_iff.mp H
        obtain ⟨t296, A300, H⟩ := H
        replace H : (if t296 ≤ 5000 then (some true) else (some (decide (t296 > 1048576)))) = some r := H
        have A30 := mk_ A300
        clear A300
        by_cases c31 : t296 ≤ 5000
        ·rw [if_pos c31] at H
         have c31b0 : decide (t296 ≤ 5000) = true := decide_eq_true c31
         clear c31
         obtain rfl := Option.some.inj H
         have hnb32 := NB291_292.out
         have hnc32 := NB292_291.out
         obtain ⟨_, _, _, _, _, _, _, _⟩ := hb4_ BK291
         obtain ⟨_, _, _, _, _, _, _, _, _, _, _, _⟩ := hb6_ BK292
         go_wp2_with (first | ((with_reducible refine gate_callee (f := 36) rfl ?_); refine gl_ (some 55) Tryd.func36 #[.agg #[.slice A0_0 l0_0.length c0_0, .slice A0_1 l0_1.length c0_1, .int .i64 a0_2, .slice A0_3 l0_3.length c0_3], .agg #[.int .i64 a1_0, .string a1_1, .slice A1_2 l1_2.length c1_2, .int .i64 a1_3, .int .i64 a1_4, .slice A1_5 l1_5.length c1_5]] ?_; (with_reducible refine (pentaglotref26_Fits.calls kj8 _ _ l0_0 _ _ l0_1 a0_2 _ _ l0_3 a1_0 a1_1 _ _ l1_2 a1_3 a1_4 _ _ l1_5 true _ ?side1 ?side2 ?side3 ?side4 ?side5 ?side6 ?side7 ?side8 ?side9 ?side10 A28.out).mono ?_); (case side1 => exact cs_ (Kd.C_below HR0_0.out HB.out)); (case side2 => exact HC0_0.out); (case side3 => exact cs_ (Kd.C_below HR0_1.out HB.out)); (case side4 => exact HC0_1.out); (case side5 => exact cs_ (Kd.C_below HR0_3.out HB.out)); (case side6 => exact HC0_3.out); (case side7 => exact cs_ (Kd.C_below HR1_2.out HB.out)); (case side8 => exact HC1_2.out); (case side9 => exact cs_ (Kd.C_below HR1_5.out HB.out)); (case side10 => exact HC1_5.out); rintro e w35 ⟨rfl, hb⟩; refine ⟨_, rfl, ?_⟩; replace BK291 := mk_ (bb_ BK291 hb); replace BK292 := mk_ (bb_ BK292 hb); replace HB := mk_ (below_step (be2_ HB GE291 GE292) hb); (try clear hb); (try clear hb2); (try clear hk); (try clear hi); obtain ⟨_, _, _, _, _, _, _, _⟩ := hb4_ BK291; obtain ⟨_, _, _, _, _, _, _, _, _, _, _, _⟩ := hb6_ BK292) | ((with_reducible refine gate_callee (f := 37) rfl ?_); refine gl_ (some 59) Tryd.func37 #[.agg #[.slice A0_0 l0_0.length c0_0, .slice A0_1 l0_1.length c0_1, .int .i64 a0_2, .slice A0_3 l0_3.length c0_3], .agg #[.int .i64 a1_0, .string a1_1, .slice A1_2 l1_2.length c1_2, .int .i64 a1_3, .int .i64 a1_4, .slice A1_5 l1_5.length c1_5]] ?_; (with_reducible refine (pentaglotref26_Work.calls kj8 _ _ l0_0 _ _ l0_1 a0_2 _ _ l0_3 a1_0 a1_1 _ _ l1_2 a1_3 a1_4 _ _ l1_5 t296 _ ?side1 ?side2 ?side3 ?side4 ?side5 ?side6 ?side7 ?side8 ?side9 ?side10 A30.out).mono ?_); (case side1 => exact cs_ (Kd.C_below HR0_0.out HB.out)); (case side2 => exact HC0_0.out); (case side3 => exact cs_ (Kd.C_below HR0_1.out HB.out)); (case side4 => exact HC0_1.out); (case side5 => exact cs_ (Kd.C_below HR0_3.out HB.out)); (case side6 => exact HC0_3.out); (case side7 => exact cs_ (Kd.C_below HR1_2.out HB.out)); (case side8 => exact HC1_2.out); (case side9 => exact cs_ (Kd.C_below HR1_5.out HB.out)); (case side10 => exact HC1_5.out); rintro e w38 ⟨rfl, hb⟩; refine ⟨_, rfl, ?_⟩; replace BK291 := mk_ (bb_ BK291 hb); replace BK292 := mk_ (bb_ BK292 hb); replace HB := mk_ (below_step (be2_ HB GE291 GE292) hb); (try clear hb); (try clear hb2); (try clear hk); (try clear hi)))
         go_ret
         exact ⟨er_, be2_ HB GE291 GE292⟩
        ·rw [if_neg c31] at H
         have c31b0 : decide (t296 ≤ 5000) = false := decide_eq_false c31
         clear c31
         obtain rfl := Option.some.inj H
         have hnb39 := NB291_292.out
         have hnc39 := NB292_291.out
         obtain ⟨_, _, _, _, _, _, _, _⟩ := hb4_ BK291
         obtain ⟨_, _, _, _, _, _, _, _, _, _, _, _⟩ := hb6_ BK292
         go_wp2_with (first | ((with_reducible refine gate_callee (f := 36) rfl ?_); refine gl_ (some 55) Tryd.func36 #[.agg #[.slice A0_0 l0_0.length c0_0, .slice A0_1 l0_1.length c0_1, .int .i64 a0_2, .slice A0_3 l0_3.length c0_3], .agg #[.int .i64 a1_0, .string a1_1, .slice A1_2 l1_2.length c1_2, .int .i64 a1_3, .int .i64 a1_4, .slice A1_5 l1_5.length c1_5]] ?_; (with_reducible refine (pentaglotref26_Fits.calls kj8 _ _ l0_0 _ _ l0_1 a0_2 _ _ l0_3 a1_0 a1_1 _ _ l1_2 a1_3 a1_4 _ _ l1_5 true _ ?side1 ?side2 ?side3 ?side4 ?side5 ?side6 ?side7 ?side8 ?side9 ?side10 A28.out).mono ?_); (case side1 => exact cs_ (Kd.C_below HR0_0.out HB.out)); (case side2 => exact HC0_0.out); (case side3 => exact cs_ (Kd.C_below HR0_1.out HB.out)); (case side4 => exact HC0_1.out); (case side5 => exact cs_ (Kd.C_below HR0_3.out HB.out)); (case side6 => exact HC0_3.out); (case side7 => exact cs_ (Kd.C_below HR1_2.out HB.out)); (case side8 => exact HC1_2.out); (case side9 => exact cs_ (Kd.C_below HR1_5.out HB.out)); (case side10 => exact HC1_5.out); rintro e w42 ⟨rfl, hb⟩; refine ⟨_, rfl, ?_⟩; replace BK291 := mk_ (bb_ BK291 hb); replace BK292 := mk_ (bb_ BK292 hb); replace HB := mk_ (below_step (be2_ HB GE291 GE292) hb); (try clear hb); (try clear hb2); (try clear hk); (try clear hi); obtain ⟨_, _, _, _, _, _, _, _⟩ := hb4_ BK291; obtain ⟨_, _, _, _, _, _, _, _, _, _, _, _⟩ := hb6_ BK292) | ((with_reducible refine gate_callee (f := 37) rfl ?_); refine gl_ (some 59) Tryd.func37 #[.agg #[.slice A0_0 l0_0.length c0_0, .slice A0_1 l0_1.length c0_1, .int .i64 a0_2, .slice A0_3 l0_3.length c0_3], .agg #[.int .i64 a1_0, .string a1_1, .slice A1_2 l1_2.length c1_2, .int .i64 a1_3, .int .i64 a1_4, .slice A1_5 l1_5.length c1_5]] ?_; (with_reducible refine (pentaglotref26_Work.calls kj8 _ _ l0_0 _ _ l0_1 a0_2 _ _ l0_3 a1_0 a1_1 _ _ l1_2 a1_3 a1_4 _ _ l1_5 t296 _ ?side1 ?side2 ?side3 ?side4 ?side5 ?side6 ?side7 ?side8 ?side9 ?side10 A30.out).mono ?_); (case side1 => exact cs_ (Kd.C_below HR0_0.out HB.out)); (case side2 => exact HC0_0.out); (case side3 => exact cs_ (Kd.C_below HR0_1.out HB.out)); (case side4 => exact HC0_1.out); (case side5 => exact cs_ (Kd.C_below HR0_3.out HB.out)); (case side6 => exact HC0_3.out); (case side7 => exact cs_ (Kd.C_below HR1_2.out HB.out)); (case side8 => exact HC1_2.out); (case side9 => exact cs_ (Kd.C_below HR1_5.out HB.out)); (case side10 => exact HC1_5.out); rintro e w45 ⟨rfl, hb⟩; refine ⟨_, rfl, ?_⟩; replace BK291 := mk_ (bb_ BK291 hb); replace BK292 := mk_ (bb_ BK292 hb); replace HB := mk_ (below_step (be2_ HB GE291 GE292) hb); (try clear hb); (try clear hb2); (try clear hk); (try clear hi)))
         go_ret
         exact ⟨er_, be2_ HB GE291 GE292⟩
       ·replace c29 := Bool.eq_false_iff.mpr c29
        subst c29
        rw [if_neg nf_] at H
        obtain rfl := Option.some.inj H
        have hnb46 := NB291_292.out
        have hnc46 := NB292_291.out
        obtain ⟨_, _, _, _, _, _, _, _⟩ := hb4_ BK291
        obtain ⟨_, _, _, _, _, _, _, _, _, _, _, _⟩ := hb6_ BK292
        go_wp2_with (first | ((with_reducible refine gate_callee (f := 36) rfl ?_); refine gl_ (some 55) Tryd.func36 #[.agg #[.slice A0_0 l0_0.length c0_0, .slice A0_1 l0_1.length c0_1, .int .i64 a0_2, .slice A0_3 l0_3.length c0_3], .agg #[.int .i64 a1_0, .string a1_1, .slice A1_2 l1_2.length c1_2, .int .i64 a1_3, .int .i64 a1_4, .slice A1_5 l1_5.length c1_5]] ?_; (with_reducible refine (pentaglotref26_Fits.calls kj8 _ _ l0_0 _ _ l0_1 a0_2 _ _ l0_3 a1_0 a1_1 _ _ l1_2 a1_3 a1_4 _ _ l1_5 false _ ?side1 ?side2 ?side3 ?side4 ?side5 ?side6 ?side7 ?side8 ?side9 ?side10 A28.out).mono ?_); (case side1 => exact cs_ (Kd.C_below HR0_0.out HB.out)); (case side2 => exact HC0_0.out); (case side3 => exact cs_ (Kd.C_below HR0_1.out HB.out)); (case side4 => exact HC0_1.out); (case side5 => exact cs_ (Kd.C_below HR0_3.out HB.out)); (case side6 => exact HC0_3.out); (case side7 => exact cs_ (Kd.C_below HR1_2.out HB.out)); (case side8 => exact HC1_2.out); (case side9 => exact cs_ (Kd.C_below HR1_5.out HB.out)); (case side10 => exact HC1_5.out); rintro e w49 ⟨rfl, hb⟩; refine ⟨_, rfl, ?_⟩; replace BK291 := mk_ (bb_ BK291 hb); replace BK292 := mk_ (bb_ BK292 hb); replace HB := mk_ (below_step (be2_ HB GE291 GE292) hb); (try clear hb); (try clear hb2); (try clear hk); (try clear hi)))
        go_ret
        exact ⟨er_, be2_ HB GE291 GE292⟩

end Go.Proofs.YtolpckflofjfhaaDoor.P
