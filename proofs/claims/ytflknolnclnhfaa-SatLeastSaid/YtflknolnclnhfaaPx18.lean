-- Written by the session's own program wip/tools/xprint.py out of the translation, with the kit's print.py on a scratch copy; functions given by hand stand among them.
import Derived.Test.YtflknolnclnhfaaPx0
import Derived.Test.YtflknolnclnhfaaPx3
import Derived.Test.YtflknolnclnhfaaPx4
import Derived.Test.YtflknolnclnhfaaPx5
import Derived.Test.YtflknolnclnhfaaPx12
namespace Go.Proofs.Ytflknolnclnhfaa.P
open Go.RowKit Go.Proofs.YtflknolnclnhfaaW.PrintWords Go.Proofs.YtflknolnclnhfaaW.PrintLast Go.Proofs.YtflknolnclnhfaaW.PrintMore
attribute [local go_sem] max2_int min2_int max_two min_two max_three min_three max_four min_four   -- for this text's walks alone
set_option linter.unusedVariables false
set_option linter.unusedSimpArgs false

/-! ### pentaglotlaw28_SatLeast: function 5 -/
def pentaglotlaw28_SatLeast.j0 : Nat → List Int → Int → Bool → Int → List (S52) → Int → Option (Bool)
  | 0, _, _, _, _, _, _ => none
  | k + 1, x1, x2, x34, x341000, x341001, x341002 => if x34 = true then (some true) else ((sat_Least.f k x341000 x341001 x341002 x1 x2).bind fun bt343 => ((pentaglotref28_Least.f k x341000 x341001 x341002 x1 x2).bind fun bt348 => ((pentaglotlaw28_same.f k bt343.1 bt348.1).bind fun t353 => (if t353 = true then (if bt343.2.1 = bt348.2.1 then (some (bt343.2.2 == bt348.2.2)) else (some false)) else (some false)))))
def pentaglotlaw28_SatLeast.f (k : Nat) (a0_0 : Int) (l0_1 : List (S52)) (a0_2 : Int) (l1 : List Int) (a2 : Int) : Option (Bool) := (pentaglotlaw28_awake.f k).bind fun t341 => (if t341 = true then ((pentaglotref28_Large.f k a0_0 l0_1 a0_2 60).bind fun t342 => (if t342 = true then (pentaglotlaw28_SatLeast.j0 k l1 a2 true a0_0 l0_1 a0_2) else (if (l1.length : Int) > 40 then (pentaglotlaw28_SatLeast.j0 k l1 a2 true a0_0 l0_1 a0_2) else (if a0_0 > 10 then (if a2 > 2000 then (pentaglotlaw28_SatLeast.j0 k l1 a2 (decide (a2 ≤ 1048576)) a0_0 l0_1 a0_2) else (pentaglotlaw28_SatLeast.j0 k l1 a2 false a0_0 l0_1 a0_2)) else (pentaglotlaw28_SatLeast.j0 k l1 a2 false a0_0 l0_1 a0_2))))) else (some false))
theorem pentaglotlaw28_SatLeast.mono_l : ∀ k, (∀ y0 y1 y2 y3 y4 y5, LeO (pentaglotlaw28_SatLeast.j0 k y0 y1 y2 y3 y4 y5) (pentaglotlaw28_SatLeast.j0 (k + 1) y0 y1 y2 y3 y4 y5))
  | 0 => fun _ _ _ _ _ _ r h => by simp [pentaglotlaw28_SatLeast.j0] at h
  | k + 1 => by
    have ih0 := pentaglotlaw28_SatLeast.mono_l k
    · intro y0 y1 y2 y3 y4 y5
      unfold pentaglotlaw28_SatLeast.j0
      repeat' first
      | (with_reducible exact ih0 _ _ _ _ _ _)
      | (with_reducible exact pentaglotlaw28_awake.mono _)
      | (with_reducible exact pentaglotlaw28_same.mono _ _ _)
      | (with_reducible exact pentaglotref28_Large.mono _ _ _ _ _)
      | (with_reducible exact pentaglotref28_Least.mono _ _ _ _ _ _)
      | (with_reducible exact sat_Least.mono _ _ _ _ _ _)
      | (with_reducible exact LeO.refl _)
      | (with_reducible exact LeO.none _)
      | (with_reducible refine LeO.ite ?_ ?_)
      | (with_reducible refine LeO.bind ?_ (fun _ => ?_))
      | exact ih0 _ _ _ _ _ _
      | exact pentaglotlaw28_awake.mono _
      | exact pentaglotlaw28_same.mono _ _ _
      | exact pentaglotref28_Large.mono _ _ _ _ _
      | exact pentaglotref28_Least.mono _ _ _ _ _ _
      | exact sat_Least.mono _ _ _ _ _ _
      | exact LeO.none _
      | refine LeO.ite ?_ ?_
      | refine LeO.bind ?_ (fun _ => ?_)
theorem pentaglotlaw28_SatLeast.mono : ∀ a0 a1 a2 a3 a4 k, LeO (pentaglotlaw28_SatLeast.f k a0 a1 a2 a3 a4) (pentaglotlaw28_SatLeast.f (k + 1) a0 a1 a2 a3 a4) := by
  intro a0 a1 a2 a3 a4 k
  have ih0 := pentaglotlaw28_SatLeast.mono_l k
  unfold pentaglotlaw28_SatLeast.f
  repeat' first
      | (with_reducible exact ih0 _ _ _ _ _ _)
      | (with_reducible exact pentaglotlaw28_awake.mono _)
      | (with_reducible exact pentaglotlaw28_same.mono _ _ _)
      | (with_reducible exact pentaglotref28_Large.mono _ _ _ _ _)
      | (with_reducible exact pentaglotref28_Least.mono _ _ _ _ _ _)
      | (with_reducible exact sat_Least.mono _ _ _ _ _ _)
      | (with_reducible exact LeO.refl _)
      | (with_reducible exact LeO.none _)
      | (with_reducible refine LeO.ite ?_ ?_)
      | (with_reducible refine LeO.bind ?_ (fun _ => ?_))
      | exact ih0 _ _ _ _ _ _
      | exact pentaglotlaw28_awake.mono _
      | exact pentaglotlaw28_same.mono _ _ _
      | exact pentaglotref28_Large.mono _ _ _ _ _
      | exact pentaglotref28_Least.mono _ _ _ _ _ _
      | exact sat_Least.mono _ _ _ _ _ _
      | exact LeO.none _
      | refine LeO.ite ?_ ?_
      | refine LeO.bind ?_ (fun _ => ?_)
set_option maxHeartbeats 8000000 in
set_option maxRecDepth 100000 in
theorem pentaglotlaw28_SatLeast.calls (k : Nat) (a0_0 : Int) (A0_1 : Option Addr) (c0_1 : Nat) (l0_1 : List (S52)) (a0_2 : Int) (A1 : Option Addr) (c1 : Nat) (l1 : List Int) (a2 : Int) (r : Bool) (w : World) (hr0_1 : Kd.C k52 w A0_1 l0_1.length l0_1) (hc0_1 : l0_1.length ≤ c0_1) (hr1 : Kd.C (Kd.int .i64) w A1 l1.length l1) (hc1 : l1.length ≤ c1) (h : pentaglotlaw28_SatLeast.f k a0_0 l0_1 a0_2 l1 a2 = some r) :
    Calls Try.prog 5 #[.agg #[.int .i64 a0_0, .slice A0_1 l0_1.length c0_1, .int .i64 a0_2], .slice A1 l1.length c1, .int .i64 a2] w fun e w' => e = .returned (.bool r) ∧ Below w.heap.size w w' := by
  have hu24 := Try.underlying24
  have HR0_1 := Aside0.mk hr0_1
  have HC0_1 := Aside0.mk hc0_1
  clear hr0_1 hc0_1
  have HR1 := Aside0.mk hr1
  have HC1 := Aside0.mk hc1
  clear hr1 hc1
  have HB := Aside0.mk (Below.refl w.heap.size w)
  have H : ((pentaglotlaw28_awake.f k).bind fun t341 => (if t341 = true then ((pentaglotref28_Large.f k a0_0 l0_1 a0_2 60).bind fun t342 => (if t342 = true then (pentaglotlaw28_SatLeast.j0 k l1 a2 true a0_0 l0_1 a0_2) else (if (l1.length : Int) > 40 then (pentaglotlaw28_SatLeast.j0 k l1 a2 true a0_0 l0_1 a0_2) else (if a0_0 > 10 then (if a2 > 2000 then (pentaglotlaw28_SatLeast.j0 k l1 a2 (decide (a2 ≤ 1048576)) a0_0 l0_1 a0_2) else (pentaglotlaw28_SatLeast.j0 k l1 a2 false a0_0 l0_1 a0_2)) else (pentaglotlaw28_SatLeast.j0 k l1 a2 false a0_0 l0_1 a0_2))))) else (some false))) = some r := h
  clear h
  replace H := Option.bind_eq_some_iff.mp H
  obtain ⟨t341, A40, H⟩ := H
  replace H : (if t341 = true then ((pentaglotref28_Large.f k a0_0 l0_1 a0_2 60).bind fun t342 => (if t342 = true then (pentaglotlaw28_SatLeast.j0 k l1 a2 true a0_0 l0_1 a0_2) else (if (l1.length : Int) > 40 then (pentaglotlaw28_SatLeast.j0 k l1 a2 true a0_0 l0_1 a0_2) else (if a0_0 > 10 then (if a2 > 2000 then (pentaglotlaw28_SatLeast.j0 k l1 a2 (decide (a2 ≤ 1048576)) a0_0 l0_1 a0_2) else (pentaglotlaw28_SatLeast.j0 k l1 a2 false a0_0 l0_1 a0_2)) else (pentaglotlaw28_SatLeast.j0 k l1 a2 false a0_0 l0_1 a0_2))))) else (some false)) = some r := H
  have A4 := Aside0.mk A40
  clear A40
  by_cases c5 : t341 = true
  · subst c5
    have H1 : ((pentaglotref28_Large.f k a0_0 l0_1 a0_2 60).bind fun t342 => (if t342 = true then (pentaglotlaw28_SatLeast.j0 k l1 a2 true a0_0 l0_1 a0_2) else (if (l1.length : Int) > 40 then (pentaglotlaw28_SatLeast.j0 k l1 a2 true a0_0 l0_1 a0_2) else (if a0_0 > 10 then (if a2 > 2000 then (pentaglotlaw28_SatLeast.j0 k l1 a2 (decide (a2 ≤ 1048576)) a0_0 l0_1 a0_2) else (pentaglotlaw28_SatLeast.j0 k l1 a2 false a0_0 l0_1 a0_2)) else (pentaglotlaw28_SatLeast.j0 k l1 a2 false a0_0 l0_1 a0_2))))) = some r := by rw [if_pos rfl] at H; exact H
    clear H
    have H := H1
    clear H1
    have HC6 := Aside0.mk H
    clear H
    go_enter Try.func5, Try.ntmps5
    go_upto_region 3 with (first | ((with_reducible refine gate_dst (N := 3) rfl ?_); (try (refine gate_guard (by rfl) ?_; dsimp only)); refine box_event ?hg (N := 3) ?hd (cs := #[.int .i64 a0_0, .slice A0_1 l0_1.length c0_1, .int .i64 a0_2]) (t := 24) ?hr ?_; (case hd => rfl); (case hg => rfl); (case hr => first | (go_simp; done) | (go_simp; rfl)); intro gb340 hg w7 hbox hb; have n0_ := Aside0.mk (below_step (by repeat (first | (with_reducible first | exact HB.out | apply below_alloc | apply pw_below_drewN | apply below_drew1) | exact HB.out)) hb); have n1_ := Aside0.mk (hbox); have n2_ := Aside0.mk ((by rw [hg]; exact (below_size (by repeat (first | (with_reducible first | exact HB.out | apply below_alloc | apply pw_below_drewN | apply below_drew1) | exact HB.out))) : w.heap.size ≤ gb340)); have n3_ := Aside0.mk ((by rw [hg]; exact (below_size (by repeat (first | (with_reducible first | exact HB.out | apply below_alloc | apply pw_below_drewN | apply below_drew1) | exact HB.out))) : w.heap.size ≤ gb340)); clear HB; have HB := n0_; have BK340 := n1_; have GW340 := n2_; have GE340 := n3_; clear n0_ n1_ n2_ n3_; clear hb hbox hg) | ((with_reducible refine gate_callee (f := 13) rfl ?_); refine goesL_ (some 13) rfl rfl Try.func13 (by kernel_rfl) rfl #[] rfl (by (try simp only [List.map_toArray, List.map_cons, List.map_nil]); first | done | rfl | (simp only [List.length_drop, List.length_take]; rfl)) ?_; (with_reducible refine (pentaglotlaw28_awake.calls k  true _ A4.out).mono ?_); rintro e w8 ⟨rfl, hb⟩; refine ⟨_, rfl, ?_⟩; have n0_ := Aside0.mk (blk_below (g := gb340) (o := .cells #[.int .i64 a0_0, .slice A0_1 l0_1.length c0_1, .int .i64 a0_2] 24 (0, 0)) (by (with_reducible repeat (first | refine blk_drewN ?_ _ | refine blk_drew ?_ | refine blk_alloc ?_ _)); exact BK340.out) hb); have n1_ := Aside0.mk (below_step (by repeat (first | (with_reducible first | exact HB.out | apply below_alloc | apply pw_below_drewN | apply below_drew1 | refine below_set ?_ GE340.out) | exact HB.out)) hb); clear BK340; clear HB; have BK340 := n0_; have HB := n1_; clear n0_ n1_; (try clear hb); (try clear hb2); (try clear hk); (try clear hi)))
    (try simp only [Act.put, List.setIfInBounds_toArray, List.set_cons_zero, List.set_cons_succ])
    go_cut [34] (fun v34 wc => ∃ (kq : Nat) (x34_5 : Bool), v34 = .bool x34_5 ∧ Aside0 (pentaglotlaw28_SatLeast.j0 kq l1 a2 x34_5 a0_0 l0_1 a0_2 = some r) ∧ Aside0 (kq ≤ k) ∧ Aside0 (wc.heap[gb340]? = some (.cells #[.int .i64 a0_0, (.slice A0_1 l0_1.length c0_1), .int .i64 a0_2] 24 (0, 0))) ∧ Aside0 (Below w.heap.size w wc))
    case first =>
      have H := HC6.out
      clear HC6
      replace H := Option.bind_eq_some_iff.mp H
      obtain ⟨t342, A90, H⟩ := H
      replace H : (if t342 = true then (pentaglotlaw28_SatLeast.j0 k l1 a2 true a0_0 l0_1 a0_2) else (if (l1.length : Int) > 40 then (pentaglotlaw28_SatLeast.j0 k l1 a2 true a0_0 l0_1 a0_2) else (if a0_0 > 10 then (if a2 > 2000 then (pentaglotlaw28_SatLeast.j0 k l1 a2 (decide (a2 ≤ 1048576)) a0_0 l0_1 a0_2) else (pentaglotlaw28_SatLeast.j0 k l1 a2 false a0_0 l0_1 a0_2)) else (pentaglotlaw28_SatLeast.j0 k l1 a2 false a0_0 l0_1 a0_2)))) = some r := H
      have A9 := Aside0.mk A90
      clear A90
      by_cases c10 : t342 = true
      · subst c10
        have H1 : (pentaglotlaw28_SatLeast.j0 k l1 a2 true a0_0 l0_1 a0_2) = some r := by rw [if_pos rfl] at H; exact H
        clear H
        have H := H1
        clear H1
        have H' := Aside0.mk H
        clear H
        have hcz11_0 : w8.cell? ⟨gb340, 0, none⟩ = some (.int .i64 a0_0) := (blk_cell BK340.out 0).trans rfl
        have hcz11_1 : w8.cell? ⟨gb340, 1, none⟩ = some (.slice A0_1 l0_1.length c0_1) := (blk_cell BK340.out 1).trans rfl
        have hcz11_2 : w8.cell? ⟨gb340, 2, none⟩ = some (.int .i64 a0_2) := (blk_cell BK340.out 2).trans rfl
        have hfz11_0 := blk_frozen BK340.out 0
        have hfz11_1 := blk_frozen BK340.out 1
        have hfz11_2 := blk_frozen BK340.out 2
        go_wp2_with (first | ((with_reducible refine gate_callee (f := 14) rfl ?_); refine goesL_ (some 16) rfl rfl Try.func14 (by kernel_rfl) rfl #[.agg #[.int .i64 a0_0, .slice A0_1 l0_1.length c0_1, .int .i64 a0_2], .int .i64 60] rfl (by (try simp only [List.map_toArray, List.map_cons, List.map_nil]); first | done | rfl | (simp only [List.length_drop, List.length_take]; rfl)) ?_; (with_reducible refine (pentaglotref28_Large.calls k a0_0 _ _ l0_1 a0_2 60 true _ ?side1 ?side2 A9.out).mono ?_); (case side1 => repeat (first | exact (Kd.C_below HR0_1.out HB.out) | (with_reducible refine Kd.C_alloc ?_ _) | (with_reducible refine Kd.C_drewN ?_ _) | (with_reducible refine Kd.C_drew ?_))); (case side2 => exact HC0_1.out); rintro e w12 ⟨rfl, hb⟩; refine ⟨_, rfl, ?_⟩; have n0_ := Aside0.mk (blk_below (g := gb340) (o := .cells #[.int .i64 a0_0, .slice A0_1 l0_1.length c0_1, .int .i64 a0_2] 24 (0, 0)) (by (with_reducible repeat (first | refine blk_drewN ?_ _ | refine blk_drew ?_ | refine blk_alloc ?_ _)); exact BK340.out) hb); have n1_ := Aside0.mk (below_step (by repeat (first | (with_reducible first | exact HB.out | apply below_alloc | apply pw_below_drewN | apply below_drew1 | refine below_set ?_ GE340.out) | exact HB.out)) hb); clear BK340; clear HB; have BK340 := n0_; have HB := n1_; clear n0_ n1_; (try clear hb); (try clear hb2); (try clear hk); (try clear hi)))
        go_meet
        case rel => exact ⟨_, (true), (by first | rfl | (simp; done) | (simp [*]; done)), H', ⟨by first | omega | exact Nat.le_refl _⟩, ⟨by (with_reducible repeat (first | refine blk_drewN ?_ _ | refine blk_drew ?_ | refine blk_alloc ?_ _)); exact BK340.out⟩, ⟨by repeat (first | (with_reducible first | exact HB.out | apply below_alloc | apply pw_below_drewN | apply below_drew1 | refine below_set ?_ GE340.out) | exact HB.out)⟩⟩
      · replace c10 := Bool.eq_false_iff.mpr c10
        subst c10
        have H1 : (if (l1.length : Int) > 40 then (pentaglotlaw28_SatLeast.j0 k l1 a2 true a0_0 l0_1 a0_2) else (if a0_0 > 10 then (if a2 > 2000 then (pentaglotlaw28_SatLeast.j0 k l1 a2 (decide (a2 ≤ 1048576)) a0_0 l0_1 a0_2) else (pentaglotlaw28_SatLeast.j0 k l1 a2 false a0_0 l0_1 a0_2)) else (pentaglotlaw28_SatLeast.j0 k l1 a2 false a0_0 l0_1 a0_2))) = some r := by rw [if_neg (show ¬ (false = true) by decide)] at H; exact H
        clear H
        have H := H1
        clear H1
        by_cases c13 : (l1.length : Int) > 40
        · rw [if_pos c13] at H
          have c13b0 : decide (40 < (l1.length : Int)) = true := decide_eq_true c13
          have c13b1 : decide (40 < l1.length) = true := decide_eq_true (by omega)
          clear c13
          (first | rw [c13b0] | (simp only [i64_w, i32_w]; rw [c13b0]) | skip)
          have H' := Aside0.mk H
          clear H
          have hcz14_0 : w8.cell? ⟨gb340, 0, none⟩ = some (.int .i64 a0_0) := (blk_cell BK340.out 0).trans rfl
          have hcz14_1 : w8.cell? ⟨gb340, 1, none⟩ = some (.slice A0_1 l0_1.length c0_1) := (blk_cell BK340.out 1).trans rfl
          have hcz14_2 : w8.cell? ⟨gb340, 2, none⟩ = some (.int .i64 a0_2) := (blk_cell BK340.out 2).trans rfl
          have hfz14_0 := blk_frozen BK340.out 0
          have hfz14_1 := blk_frozen BK340.out 1
          have hfz14_2 := blk_frozen BK340.out 2
          go_wp2_with (first | ((with_reducible refine gate_callee (f := 14) rfl ?_); refine goesL_ (some 16) rfl rfl Try.func14 (by kernel_rfl) rfl #[.agg #[.int .i64 a0_0, .slice A0_1 l0_1.length c0_1, .int .i64 a0_2], .int .i64 60] rfl (by (try simp only [List.map_toArray, List.map_cons, List.map_nil]); first | done | rfl | (simp only [List.length_drop, List.length_take]; rfl)) ?_; (with_reducible refine (pentaglotref28_Large.calls k a0_0 _ _ l0_1 a0_2 60 false _ ?side1 ?side2 A9.out).mono ?_); (case side1 => repeat (first | exact (Kd.C_below HR0_1.out HB.out) | (with_reducible refine Kd.C_alloc ?_ _) | (with_reducible refine Kd.C_drewN ?_ _) | (with_reducible refine Kd.C_drew ?_))); (case side2 => exact HC0_1.out); rintro e w15 ⟨rfl, hb⟩; refine ⟨_, rfl, ?_⟩; have n0_ := Aside0.mk (blk_below (g := gb340) (o := .cells #[.int .i64 a0_0, .slice A0_1 l0_1.length c0_1, .int .i64 a0_2] 24 (0, 0)) (by (with_reducible repeat (first | refine blk_drewN ?_ _ | refine blk_drew ?_ | refine blk_alloc ?_ _)); exact BK340.out) hb); have n1_ := Aside0.mk (below_step (by repeat (first | (with_reducible first | exact HB.out | apply below_alloc | apply pw_below_drewN | apply below_drew1 | refine below_set ?_ GE340.out) | exact HB.out)) hb); clear BK340; clear HB; have BK340 := n0_; have HB := n1_; clear n0_ n1_; (try clear hb); (try clear hb2); (try clear hk); (try clear hi)))
          go_meet
          case rel => exact ⟨_, (true), (by first | rfl | (simp; done) | (simp [*]; done)), H', ⟨by first | omega | exact Nat.le_refl _⟩, ⟨by (with_reducible repeat (first | refine blk_drewN ?_ _ | refine blk_drew ?_ | refine blk_alloc ?_ _)); exact BK340.out⟩, ⟨by repeat (first | (with_reducible first | exact HB.out | apply below_alloc | apply pw_below_drewN | apply below_drew1 | refine below_set ?_ GE340.out) | exact HB.out)⟩⟩
        · rw [if_neg c13] at H
          have c13b0 : decide (40 < (l1.length : Int)) = false := decide_eq_false c13
          have c13b1 : decide (40 < l1.length) = false := decide_eq_false (by omega)
          clear c13
          (first | rw [c13b0] | (simp only [i64_w, i32_w]; rw [c13b0]) | skip)
          by_cases c16 : a0_0 > 10
          · rw [if_pos c16] at H
            have c16b0 : decide (10 < a0_0) = true := decide_eq_true c16
            clear c16
            by_cases c17 : a2 > 2000
            · rw [if_pos c17] at H
              have c17b0 : decide (2000 < a2) = true := decide_eq_true c17
              clear c17
              have H' := Aside0.mk H
              clear H
              have hcz18_0 : w8.cell? ⟨gb340, 0, none⟩ = some (.int .i64 a0_0) := (blk_cell BK340.out 0).trans rfl
              have hcz18_1 : w8.cell? ⟨gb340, 1, none⟩ = some (.slice A0_1 l0_1.length c0_1) := (blk_cell BK340.out 1).trans rfl
              have hcz18_2 : w8.cell? ⟨gb340, 2, none⟩ = some (.int .i64 a0_2) := (blk_cell BK340.out 2).trans rfl
              have hfz18_0 := blk_frozen BK340.out 0
              have hfz18_1 := blk_frozen BK340.out 1
              have hfz18_2 := blk_frozen BK340.out 2
              go_wp2_with (first | ((with_reducible refine gate_callee (f := 14) rfl ?_); refine goesL_ (some 16) rfl rfl Try.func14 (by kernel_rfl) rfl #[.agg #[.int .i64 a0_0, .slice A0_1 l0_1.length c0_1, .int .i64 a0_2], .int .i64 60] rfl (by (try simp only [List.map_toArray, List.map_cons, List.map_nil]); first | done | rfl | (simp only [List.length_drop, List.length_take]; rfl)) ?_; (with_reducible refine (pentaglotref28_Large.calls k a0_0 _ _ l0_1 a0_2 60 false _ ?side1 ?side2 A9.out).mono ?_); (case side1 => repeat (first | exact (Kd.C_below HR0_1.out HB.out) | (with_reducible refine Kd.C_alloc ?_ _) | (with_reducible refine Kd.C_drewN ?_ _) | (with_reducible refine Kd.C_drew ?_))); (case side2 => exact HC0_1.out); rintro e w19 ⟨rfl, hb⟩; refine ⟨_, rfl, ?_⟩; have n0_ := Aside0.mk (blk_below (g := gb340) (o := .cells #[.int .i64 a0_0, .slice A0_1 l0_1.length c0_1, .int .i64 a0_2] 24 (0, 0)) (by (with_reducible repeat (first | refine blk_drewN ?_ _ | refine blk_drew ?_ | refine blk_alloc ?_ _)); exact BK340.out) hb); have n1_ := Aside0.mk (below_step (by repeat (first | (with_reducible first | exact HB.out | apply below_alloc | apply pw_below_drewN | apply below_drew1 | refine below_set ?_ GE340.out) | exact HB.out)) hb); clear BK340; clear HB; have BK340 := n0_; have HB := n1_; clear n0_ n1_; (try clear hb); (try clear hb2); (try clear hk); (try clear hi); have hcz20_0 : w19.cell? ⟨gb340, 0, none⟩ = some (.int .i64 a0_0) := (blk_cell BK340.out 0).trans rfl; have hcz20_1 : w19.cell? ⟨gb340, 1, none⟩ = some (.slice A0_1 l0_1.length c0_1) := (blk_cell BK340.out 1).trans rfl; have hcz20_2 : w19.cell? ⟨gb340, 2, none⟩ = some (.int .i64 a0_2) := (blk_cell BK340.out 2).trans rfl; have hfz20_0 := blk_frozen BK340.out 0; have hfz20_1 := blk_frozen BK340.out 1; have hfz20_2 := blk_frozen BK340.out 2))
              go_meet
              case rel => exact ⟨_, (decide (a2 ≤ 1048576)), (by first | rfl | (simp; done) | (simp [*]; done)), H', ⟨by first | omega | exact Nat.le_refl _⟩, ⟨by (with_reducible repeat (first | refine blk_drewN ?_ _ | refine blk_drew ?_ | refine blk_alloc ?_ _)); exact BK340.out⟩, ⟨by repeat (first | (with_reducible first | exact HB.out | apply below_alloc | apply pw_below_drewN | apply below_drew1 | refine below_set ?_ GE340.out) | exact HB.out)⟩⟩
            · rw [if_neg c17] at H
              have c17b0 : decide (2000 < a2) = false := decide_eq_false c17
              clear c17
              have H' := Aside0.mk H
              clear H
              have hcz21_0 : w8.cell? ⟨gb340, 0, none⟩ = some (.int .i64 a0_0) := (blk_cell BK340.out 0).trans rfl
              have hcz21_1 : w8.cell? ⟨gb340, 1, none⟩ = some (.slice A0_1 l0_1.length c0_1) := (blk_cell BK340.out 1).trans rfl
              have hcz21_2 : w8.cell? ⟨gb340, 2, none⟩ = some (.int .i64 a0_2) := (blk_cell BK340.out 2).trans rfl
              have hfz21_0 := blk_frozen BK340.out 0
              have hfz21_1 := blk_frozen BK340.out 1
              have hfz21_2 := blk_frozen BK340.out 2
              go_wp2_with (first | ((with_reducible refine gate_callee (f := 14) rfl ?_); refine goesL_ (some 16) rfl rfl Try.func14 (by kernel_rfl) rfl #[.agg #[.int .i64 a0_0, .slice A0_1 l0_1.length c0_1, .int .i64 a0_2], .int .i64 60] rfl (by (try simp only [List.map_toArray, List.map_cons, List.map_nil]); first | done | rfl | (simp only [List.length_drop, List.length_take]; rfl)) ?_; (with_reducible refine (pentaglotref28_Large.calls k a0_0 _ _ l0_1 a0_2 60 false _ ?side1 ?side2 A9.out).mono ?_); (case side1 => repeat (first | exact (Kd.C_below HR0_1.out HB.out) | (with_reducible refine Kd.C_alloc ?_ _) | (with_reducible refine Kd.C_drewN ?_ _) | (with_reducible refine Kd.C_drew ?_))); (case side2 => exact HC0_1.out); rintro e w22 ⟨rfl, hb⟩; refine ⟨_, rfl, ?_⟩; have n0_ := Aside0.mk (blk_below (g := gb340) (o := .cells #[.int .i64 a0_0, .slice A0_1 l0_1.length c0_1, .int .i64 a0_2] 24 (0, 0)) (by (with_reducible repeat (first | refine blk_drewN ?_ _ | refine blk_drew ?_ | refine blk_alloc ?_ _)); exact BK340.out) hb); have n1_ := Aside0.mk (below_step (by repeat (first | (with_reducible first | exact HB.out | apply below_alloc | apply pw_below_drewN | apply below_drew1 | refine below_set ?_ GE340.out) | exact HB.out)) hb); clear BK340; clear HB; have BK340 := n0_; have HB := n1_; clear n0_ n1_; (try clear hb); (try clear hb2); (try clear hk); (try clear hi); have hcz23_0 : w22.cell? ⟨gb340, 0, none⟩ = some (.int .i64 a0_0) := (blk_cell BK340.out 0).trans rfl; have hcz23_1 : w22.cell? ⟨gb340, 1, none⟩ = some (.slice A0_1 l0_1.length c0_1) := (blk_cell BK340.out 1).trans rfl; have hcz23_2 : w22.cell? ⟨gb340, 2, none⟩ = some (.int .i64 a0_2) := (blk_cell BK340.out 2).trans rfl; have hfz23_0 := blk_frozen BK340.out 0; have hfz23_1 := blk_frozen BK340.out 1; have hfz23_2 := blk_frozen BK340.out 2))
              go_meet
              case rel => exact ⟨_, (false), (by first | rfl | (simp; done) | (simp [*]; done)), H', ⟨by first | omega | exact Nat.le_refl _⟩, ⟨by (with_reducible repeat (first | refine blk_drewN ?_ _ | refine blk_drew ?_ | refine blk_alloc ?_ _)); exact BK340.out⟩, ⟨by repeat (first | (with_reducible first | exact HB.out | apply below_alloc | apply pw_below_drewN | apply below_drew1 | refine below_set ?_ GE340.out) | exact HB.out)⟩⟩
          · rw [if_neg c16] at H
            have c16b0 : decide (10 < a0_0) = false := decide_eq_false c16
            clear c16
            have H' := Aside0.mk H
            clear H
            have hcz24_0 : w8.cell? ⟨gb340, 0, none⟩ = some (.int .i64 a0_0) := (blk_cell BK340.out 0).trans rfl
            have hcz24_1 : w8.cell? ⟨gb340, 1, none⟩ = some (.slice A0_1 l0_1.length c0_1) := (blk_cell BK340.out 1).trans rfl
            have hcz24_2 : w8.cell? ⟨gb340, 2, none⟩ = some (.int .i64 a0_2) := (blk_cell BK340.out 2).trans rfl
            have hfz24_0 := blk_frozen BK340.out 0
            have hfz24_1 := blk_frozen BK340.out 1
            have hfz24_2 := blk_frozen BK340.out 2
            go_wp2_with (first | ((with_reducible refine gate_callee (f := 14) rfl ?_); refine goesL_ (some 16) rfl rfl Try.func14 (by kernel_rfl) rfl #[.agg #[.int .i64 a0_0, .slice A0_1 l0_1.length c0_1, .int .i64 a0_2], .int .i64 60] rfl (by (try simp only [List.map_toArray, List.map_cons, List.map_nil]); first | done | rfl | (simp only [List.length_drop, List.length_take]; rfl)) ?_; (with_reducible refine (pentaglotref28_Large.calls k a0_0 _ _ l0_1 a0_2 60 false _ ?side1 ?side2 A9.out).mono ?_); (case side1 => repeat (first | exact (Kd.C_below HR0_1.out HB.out) | (with_reducible refine Kd.C_alloc ?_ _) | (with_reducible refine Kd.C_drewN ?_ _) | (with_reducible refine Kd.C_drew ?_))); (case side2 => exact HC0_1.out); rintro e w25 ⟨rfl, hb⟩; refine ⟨_, rfl, ?_⟩; have n0_ := Aside0.mk (blk_below (g := gb340) (o := .cells #[.int .i64 a0_0, .slice A0_1 l0_1.length c0_1, .int .i64 a0_2] 24 (0, 0)) (by (with_reducible repeat (first | refine blk_drewN ?_ _ | refine blk_drew ?_ | refine blk_alloc ?_ _)); exact BK340.out) hb); have n1_ := Aside0.mk (below_step (by repeat (first | (with_reducible first | exact HB.out | apply below_alloc | apply pw_below_drewN | apply below_drew1 | refine below_set ?_ GE340.out) | exact HB.out)) hb); clear BK340; clear HB; have BK340 := n0_; have HB := n1_; clear n0_ n1_; (try clear hb); (try clear hb2); (try clear hk); (try clear hi); have hcz26_0 : w25.cell? ⟨gb340, 0, none⟩ = some (.int .i64 a0_0) := (blk_cell BK340.out 0).trans rfl; have hcz26_1 : w25.cell? ⟨gb340, 1, none⟩ = some (.slice A0_1 l0_1.length c0_1) := (blk_cell BK340.out 1).trans rfl; have hcz26_2 : w25.cell? ⟨gb340, 2, none⟩ = some (.int .i64 a0_2) := (blk_cell BK340.out 2).trans rfl; have hfz26_0 := blk_frozen BK340.out 0; have hfz26_1 := blk_frozen BK340.out 1; have hfz26_2 := blk_frozen BK340.out 2))
            go_meet
            case rel => exact ⟨_, (false), (by first | rfl | (simp; done) | (simp [*]; done)), H', ⟨by first | omega | exact Nat.le_refl _⟩, ⟨by (with_reducible repeat (first | refine blk_drewN ?_ _ | refine blk_drew ?_ | refine blk_alloc ?_ _)); exact BK340.out⟩, ⟨by repeat (first | (with_reducible first | exact HB.out | apply below_alloc | apply pw_below_drewN | apply below_drew1 | refine below_set ?_ GE340.out) | exact HB.out)⟩⟩
    case rest =>
      clear HC6
      try clear c1
      try clear p2
      try clear c5
      try clear c10
      try clear c13
      try clear c13b0
      try clear c13b1
      try clear c14
      try clear c16
      try clear c16b0
      try clear c17
      try clear c17b0
      try clear hcz11_0
      try clear hcz11_1
      try clear hcz11_2
      try clear hcz14_0
      try clear hcz14_1
      try clear hcz14_2
      try clear hcz18_0
      try clear hcz18_1
      try clear hcz18_2
      try clear hcz20_0
      try clear hcz20_1
      try clear hcz20_2
      try clear hcz21_0
      try clear hcz21_1
      try clear hcz21_2
      try clear hcz23_0
      try clear hcz23_1
      try clear hcz23_2
      try clear hcz24_0
      try clear hcz24_1
      try clear hcz24_2
      try clear hcz26_0
      try clear hcz26_1
      try clear hcz26_2
      try clear hfz11_0
      try clear hfz11_1
      try clear hfz11_2
      try clear hfz14_0
      try clear hfz14_1
      try clear hfz14_2
      try clear hfz18_0
      try clear hfz18_1
      try clear hfz18_2
      try clear hfz20_0
      try clear hfz20_1
      try clear hfz20_2
      try clear hfz21_0
      try clear hfz21_1
      try clear hfz21_2
      try clear hfz23_0
      try clear hfz23_1
      try clear hfz23_2
      try clear hfz24_0
      try clear hfz24_1
      try clear hfz24_2
      try clear hfz26_0
      try clear hfz26_1
      try clear hfz26_2
      obtain ⟨kq, x34_5, rfl, HA, HJ5, BK340, HB⟩ := hcut
      cases kq with
      | zero => exact absurd HA.out (by simp [pentaglotlaw28_SatLeast.j0])
      | succ kj5 =>
        have H := HA.out
        clear HA
        simp only [pentaglotlaw28_SatLeast.j0] at H
        by_cases c27 : x34_5 = true
        · subst c27
          have H1 : (some true) = some r := by rw [if_pos rfl] at H; exact H
          clear H
          have H := H1
          clear H1
          obtain rfl := Option.some.inj H
          go_wp2
          go_ret
          exact ⟨by first | rfl | (simp [errW_none, errW_some] <;> rfl) | (simp [*, errW_none, errW_some] <;> rfl), by repeat (first | (with_reducible first | exact HB.out | apply below_alloc | apply pw_below_drewN | apply below_drew1 | refine below_set ?_ GE340.out) | exact HB.out)⟩
        · replace c27 := Bool.eq_false_iff.mpr c27
          subst c27
          have H1 : ((sat_Least.f kj5 a0_0 l0_1 a0_2 l1 a2).bind fun bt343 => ((pentaglotref28_Least.f kj5 a0_0 l0_1 a0_2 l1 a2).bind fun bt348 => ((pentaglotlaw28_same.f kj5 bt343.1 bt348.1).bind fun t353 => (if t353 = true then (if bt343.2.1 = bt348.2.1 then (some (bt343.2.2 == bt348.2.2)) else (some false)) else (some false))))) = some r := by rw [if_neg (show ¬ (false = true) by decide)] at H; exact H
          clear H
          have H := H1
          clear H1
          replace H := Option.bind_eq_some_iff.mp H
          obtain ⟨⟨t343, t346, t347⟩, A280, H⟩ := H
          replace H : ((pentaglotref28_Least.f kj5 a0_0 l0_1 a0_2 l1 a2).bind fun bt348 => ((pentaglotlaw28_same.f kj5 t343 bt348.1).bind fun t353 => (if t353 = true then (if t346 = bt348.2.1 then (some (t347 == bt348.2.2)) else (some false)) else (some false)))) = some r := H
          have A28 := Aside0.mk A280
          clear A280
          replace H := Option.bind_eq_some_iff.mp H
          obtain ⟨⟨t348, t351, t352⟩, A290, H⟩ := H
          replace H : ((pentaglotlaw28_same.f kj5 t343 t348).bind fun t353 => (if t353 = true then (if t346 = t351 then (some (t347 == t352)) else (some false)) else (some false))) = some r := H
          have A29 := Aside0.mk A290
          clear A290
          replace H := Option.bind_eq_some_iff.mp H
          obtain ⟨t353, A300, H⟩ := H
          replace H : (if t353 = true then (if t346 = t351 then (some (t347 == t352)) else (some false)) else (some false)) = some r := H
          have A30 := Aside0.mk A300
          clear A300
          by_cases c31 : t353 = true
          · subst c31
            have H1 : (if t346 = t351 then (some (t347 == t352)) else (some false)) = some r := by rw [if_pos rfl] at H; exact H
            clear H
            have H := H1
            clear H1
            by_cases c32 : t346 = t351
            · rw [if_pos c32] at H
              have c32b0 : (t346 == t351) = true := beq_iff_eq.mpr c32
              have c32b1 : (t346 != t351) = false := bne_eq_false_iff_eq.mpr c32
              clear c32
              obtain rfl := Option.some.inj H
              have hcz33_0 : wc.cell? ⟨gb340, 0, none⟩ = some (.int .i64 a0_0) := (blk_cell BK340.out 0).trans rfl
              have hcz33_1 : wc.cell? ⟨gb340, 1, none⟩ = some (.slice A0_1 l0_1.length c0_1) := (blk_cell BK340.out 1).trans rfl
              have hcz33_2 : wc.cell? ⟨gb340, 2, none⟩ = some (.int .i64 a0_2) := (blk_cell BK340.out 2).trans rfl
              have hfz33_0 := blk_frozen BK340.out 0
              have hfz33_1 := blk_frozen BK340.out 1
              have hfz33_2 := blk_frozen BK340.out 2
              go_wp2_with (first | ((with_reducible refine gate_callee (f := 22) rfl ?_); refine goesL_ (some 39) rfl rfl Try.func22 (by kernel_rfl) rfl #[.agg #[.int .i64 a0_0, .slice A0_1 l0_1.length c0_1, .int .i64 a0_2], .slice A1 l1.length c1, .int .i64 a2] rfl (by (try simp only [List.map_toArray, List.map_cons, List.map_nil]); first | done | rfl | (simp only [List.length_drop, List.length_take]; rfl)) ?_; (with_reducible refine (sat_Least.calls kj5 a0_0 _ _ l0_1 a0_2 _ _ l1 a2 t343 t346 t347 _ ?side1 ?side2 ?side3 ?side4 A28.out).mono ?_); (case side1 => repeat (first | exact (Kd.C_below HR0_1.out HB.out) | (with_reducible refine Kd.C_alloc ?_ _) | (with_reducible refine Kd.C_drewN ?_ _) | (with_reducible refine Kd.C_drew ?_))); (case side2 => exact HC0_1.out); (case side3 => repeat (first | exact (Kd.C_below HR1.out HB.out) | (with_reducible refine Kd.C_alloc ?_ _) | (with_reducible refine Kd.C_drewN ?_ _) | (with_reducible refine Kd.C_drew ?_))); (case side4 => exact HC1.out); rintro e w34 ⟨v344, rfl, ho0, hb⟩; refine ⟨_, rfl, ?_⟩; have n0_ := Aside0.mk (Kd.R_lower ho0 (below_size (by repeat (first | (with_reducible first | exact HB.out | apply below_alloc | apply pw_below_drewN | apply below_drew1 | refine below_set ?_ GE340.out) | exact HB.out)))); have n1_ := Aside0.mk (blk_below (g := gb340) (o := .cells #[.int .i64 a0_0, .slice A0_1 l0_1.length c0_1, .int .i64 a0_2] 24 (0, 0)) (by (with_reducible repeat (first | refine blk_drewN ?_ _ | refine blk_drew ?_ | refine blk_alloc ?_ _)); exact BK340.out) hb); have n2_ := Aside0.mk (below_step (by repeat (first | (with_reducible first | exact HB.out | apply below_alloc | apply pw_below_drewN | apply below_drew1 | refine below_set ?_ GE340.out) | exact HB.out)) hb); clear BK340; clear HB; have HO345 := n0_; have BK340 := n1_; have HB := n2_; clear n0_ n1_ n2_; (try clear hb); (try clear hb2); (try clear hk); (try clear hi); (try clear ho0); have hcz35_0 : w34.cell? ⟨gb340, 0, none⟩ = some (.int .i64 a0_0) := (blk_cell BK340.out 0).trans rfl; have hcz35_1 : w34.cell? ⟨gb340, 1, none⟩ = some (.slice A0_1 l0_1.length c0_1) := (blk_cell BK340.out 1).trans rfl; have hcz35_2 : w34.cell? ⟨gb340, 2, none⟩ = some (.int .i64 a0_2) := (blk_cell BK340.out 2).trans rfl; have hfz35_0 := blk_frozen BK340.out 0; have hfz35_1 := blk_frozen BK340.out 1; have hfz35_2 := blk_frozen BK340.out 2) | ((with_reducible refine gate_callee (f := 23) rfl ?_); refine goesL_ (some 47) rfl rfl Try.func23 (by kernel_rfl) rfl #[.agg #[.int .i64 a0_0, .slice A0_1 l0_1.length c0_1, .int .i64 a0_2], .slice A1 l1.length c1, .int .i64 a2] rfl (by (try simp only [List.map_toArray, List.map_cons, List.map_nil]); first | done | rfl | (simp only [List.length_drop, List.length_take]; rfl)) ?_; (with_reducible refine (pentaglotref28_Least.calls kj5 a0_0 _ _ l0_1 a0_2 _ _ l1 a2 t348 t351 t352 _ ?side1 ?side2 ?side3 ?side4 A29.out).mono ?_); (case side1 => repeat (first | exact (Kd.C_below HR0_1.out HB.out) | (with_reducible refine Kd.C_alloc ?_ _) | (with_reducible refine Kd.C_drewN ?_ _) | (with_reducible refine Kd.C_drew ?_))); (case side2 => exact HC0_1.out); (case side3 => repeat (first | exact (Kd.C_below HR1.out HB.out) | (with_reducible refine Kd.C_alloc ?_ _) | (with_reducible refine Kd.C_drewN ?_ _) | (with_reducible refine Kd.C_drew ?_))); (case side4 => exact HC1.out); rintro e w36 ⟨v349, rfl, ho0, hb⟩; refine ⟨_, rfl, ?_⟩; have n0_ := Aside0.mk (Kd.R_elder' (by (with_reducible repeat (first | apply Kd.R_alloc | apply Kd.R_drewN | apply Kd.R_drew)); exact HO345.out) (Kd.R_base ho0) hb); have n1_ := Aside0.mk (Kd.R_lower (Kd.R_new' ho0 (Kd.R_lt (by (with_reducible repeat (first | apply Kd.R_alloc | apply Kd.R_drewN | apply Kd.R_drew)); exact HO345.out))) (below_size (by repeat (first | (with_reducible first | exact HB.out | apply below_alloc | apply pw_below_drewN | apply below_drew1 | refine below_set ?_ GE340.out) | exact HB.out)))); have n2_ := Aside0.mk (blk_below (g := gb340) (o := .cells #[.int .i64 a0_0, .slice A0_1 l0_1.length c0_1, .int .i64 a0_2] 24 (0, 0)) (by (with_reducible repeat (first | refine blk_drewN ?_ _ | refine blk_drew ?_ | refine blk_alloc ?_ _)); exact BK340.out) hb); have n3_ := Aside0.mk (below_step (by repeat (first | (with_reducible first | exact HB.out | apply below_alloc | apply pw_below_drewN | apply below_drew1 | refine below_set ?_ GE340.out) | exact HB.out)) hb); clear HO345; clear BK340; clear HB; have HO345 := n0_; have HO350 := n1_; have BK340 := n2_; have HB := n3_; clear n0_ n1_ n2_ n3_; (try clear hb); (try clear hb2); (try clear hk); (try clear hi); (try clear ho0); obtain ⟨Ao37, co37, eo37⟩ := Kd.R_slice HO345.out; subst eo37; obtain ⟨Ao38, co38, eo38⟩ := Kd.R_slice HO350.out; subst eo38) | ((with_reducible refine gate_callee (f := 24) rfl ?_); refine goesL_ (some 53) rfl rfl Try.func24 (by kernel_rfl) rfl #[.slice Ao37 t343.length co37, .slice Ao38 t348.length co38] rfl (by (try simp only [List.map_toArray, List.map_cons, List.map_nil]); first | done | rfl | (simp only [List.length_drop, List.length_take]; rfl)) ?_; (with_reducible refine (pentaglotlaw28_same.calls kj5 _ _ t343 _ _ t348 true _ ?side1 ?side2 ?side3 ?side4 A30.out).mono ?_); (case side1 => repeat (first | exact (Kd.R_reads' HO345.out).2.2 | (with_reducible refine Kd.C_alloc ?_ _) | (with_reducible refine Kd.C_drewN ?_ _) | (with_reducible refine Kd.C_drew ?_))); (case side2 => exact (Kd.R_reads' HO345.out).2.1); (case side3 => repeat (first | exact (Kd.R_reads' HO350.out).2.2 | (with_reducible refine Kd.C_alloc ?_ _) | (with_reducible refine Kd.C_drewN ?_ _) | (with_reducible refine Kd.C_drew ?_))); (case side4 => exact (Kd.R_reads' HO350.out).2.1); rintro e w' ⟨rfl, ⟨nd, rfl⟩⟩; refine ⟨_, rfl, ?_⟩))
              go_ret
              exact ⟨by first | rfl | (simp [errW_none, errW_some] <;> rfl) | (simp [*, errW_none, errW_some] <;> rfl), by repeat (first | (with_reducible first | exact HB.out | apply below_alloc | apply pw_below_drewN | apply below_drew1 | refine below_set ?_ GE340.out) | exact HB.out)⟩
            · rw [if_neg c32] at H
              have c32b0 : (t346 == t351) = false := beq_eq_false_iff_ne.mpr c32
              have c32b1 : (t346 != t351) = true := bne_iff_ne.mpr c32
              obtain rfl := Option.some.inj H
              have hcz39_0 : wc.cell? ⟨gb340, 0, none⟩ = some (.int .i64 a0_0) := (blk_cell BK340.out 0).trans rfl
              have hcz39_1 : wc.cell? ⟨gb340, 1, none⟩ = some (.slice A0_1 l0_1.length c0_1) := (blk_cell BK340.out 1).trans rfl
              have hcz39_2 : wc.cell? ⟨gb340, 2, none⟩ = some (.int .i64 a0_2) := (blk_cell BK340.out 2).trans rfl
              have hfz39_0 := blk_frozen BK340.out 0
              have hfz39_1 := blk_frozen BK340.out 1
              have hfz39_2 := blk_frozen BK340.out 2
              go_wp2_with (first | ((with_reducible refine gate_callee (f := 22) rfl ?_); refine goesL_ (some 39) rfl rfl Try.func22 (by kernel_rfl) rfl #[.agg #[.int .i64 a0_0, .slice A0_1 l0_1.length c0_1, .int .i64 a0_2], .slice A1 l1.length c1, .int .i64 a2] rfl (by (try simp only [List.map_toArray, List.map_cons, List.map_nil]); first | done | rfl | (simp only [List.length_drop, List.length_take]; rfl)) ?_; (with_reducible refine (sat_Least.calls kj5 a0_0 _ _ l0_1 a0_2 _ _ l1 a2 t343 t346 t347 _ ?side1 ?side2 ?side3 ?side4 A28.out).mono ?_); (case side1 => repeat (first | exact (Kd.C_below HR0_1.out HB.out) | (with_reducible refine Kd.C_alloc ?_ _) | (with_reducible refine Kd.C_drewN ?_ _) | (with_reducible refine Kd.C_drew ?_))); (case side2 => exact HC0_1.out); (case side3 => repeat (first | exact (Kd.C_below HR1.out HB.out) | (with_reducible refine Kd.C_alloc ?_ _) | (with_reducible refine Kd.C_drewN ?_ _) | (with_reducible refine Kd.C_drew ?_))); (case side4 => exact HC1.out); rintro e w40 ⟨v344, rfl, ho0, hb⟩; refine ⟨_, rfl, ?_⟩; have n0_ := Aside0.mk (Kd.R_lower ho0 (below_size (by repeat (first | (with_reducible first | exact HB.out | apply below_alloc | apply pw_below_drewN | apply below_drew1 | refine below_set ?_ GE340.out) | exact HB.out)))); have n1_ := Aside0.mk (blk_below (g := gb340) (o := .cells #[.int .i64 a0_0, .slice A0_1 l0_1.length c0_1, .int .i64 a0_2] 24 (0, 0)) (by (with_reducible repeat (first | refine blk_drewN ?_ _ | refine blk_drew ?_ | refine blk_alloc ?_ _)); exact BK340.out) hb); have n2_ := Aside0.mk (below_step (by repeat (first | (with_reducible first | exact HB.out | apply below_alloc | apply pw_below_drewN | apply below_drew1 | refine below_set ?_ GE340.out) | exact HB.out)) hb); clear BK340; clear HB; have HO345 := n0_; have BK340 := n1_; have HB := n2_; clear n0_ n1_ n2_; (try clear hb); (try clear hb2); (try clear hk); (try clear hi); (try clear ho0); have hcz41_0 : w40.cell? ⟨gb340, 0, none⟩ = some (.int .i64 a0_0) := (blk_cell BK340.out 0).trans rfl; have hcz41_1 : w40.cell? ⟨gb340, 1, none⟩ = some (.slice A0_1 l0_1.length c0_1) := (blk_cell BK340.out 1).trans rfl; have hcz41_2 : w40.cell? ⟨gb340, 2, none⟩ = some (.int .i64 a0_2) := (blk_cell BK340.out 2).trans rfl; have hfz41_0 := blk_frozen BK340.out 0; have hfz41_1 := blk_frozen BK340.out 1; have hfz41_2 := blk_frozen BK340.out 2) | ((with_reducible refine gate_callee (f := 23) rfl ?_); refine goesL_ (some 47) rfl rfl Try.func23 (by kernel_rfl) rfl #[.agg #[.int .i64 a0_0, .slice A0_1 l0_1.length c0_1, .int .i64 a0_2], .slice A1 l1.length c1, .int .i64 a2] rfl (by (try simp only [List.map_toArray, List.map_cons, List.map_nil]); first | done | rfl | (simp only [List.length_drop, List.length_take]; rfl)) ?_; (with_reducible refine (pentaglotref28_Least.calls kj5 a0_0 _ _ l0_1 a0_2 _ _ l1 a2 t348 t351 t352 _ ?side1 ?side2 ?side3 ?side4 A29.out).mono ?_); (case side1 => repeat (first | exact (Kd.C_below HR0_1.out HB.out) | (with_reducible refine Kd.C_alloc ?_ _) | (with_reducible refine Kd.C_drewN ?_ _) | (with_reducible refine Kd.C_drew ?_))); (case side2 => exact HC0_1.out); (case side3 => repeat (first | exact (Kd.C_below HR1.out HB.out) | (with_reducible refine Kd.C_alloc ?_ _) | (with_reducible refine Kd.C_drewN ?_ _) | (with_reducible refine Kd.C_drew ?_))); (case side4 => exact HC1.out); rintro e w42 ⟨v349, rfl, ho0, hb⟩; refine ⟨_, rfl, ?_⟩; have n0_ := Aside0.mk (Kd.R_elder' (by (with_reducible repeat (first | apply Kd.R_alloc | apply Kd.R_drewN | apply Kd.R_drew)); exact HO345.out) (Kd.R_base ho0) hb); have n1_ := Aside0.mk (Kd.R_lower (Kd.R_new' ho0 (Kd.R_lt (by (with_reducible repeat (first | apply Kd.R_alloc | apply Kd.R_drewN | apply Kd.R_drew)); exact HO345.out))) (below_size (by repeat (first | (with_reducible first | exact HB.out | apply below_alloc | apply pw_below_drewN | apply below_drew1 | refine below_set ?_ GE340.out) | exact HB.out)))); have n2_ := Aside0.mk (blk_below (g := gb340) (o := .cells #[.int .i64 a0_0, .slice A0_1 l0_1.length c0_1, .int .i64 a0_2] 24 (0, 0)) (by (with_reducible repeat (first | refine blk_drewN ?_ _ | refine blk_drew ?_ | refine blk_alloc ?_ _)); exact BK340.out) hb); have n3_ := Aside0.mk (below_step (by repeat (first | (with_reducible first | exact HB.out | apply below_alloc | apply pw_below_drewN | apply below_drew1 | refine below_set ?_ GE340.out) | exact HB.out)) hb); clear HO345; clear BK340; clear HB; have HO345 := n0_; have HO350 := n1_; have BK340 := n2_; have HB := n3_; clear n0_ n1_ n2_ n3_; (try clear hb); (try clear hb2); (try clear hk); (try clear hi); (try clear ho0); obtain ⟨Ao43, co43, eo43⟩ := Kd.R_slice HO345.out; subst eo43; obtain ⟨Ao44, co44, eo44⟩ := Kd.R_slice HO350.out; subst eo44) | ((with_reducible refine gate_callee (f := 24) rfl ?_); refine goesL_ (some 53) rfl rfl Try.func24 (by kernel_rfl) rfl #[.slice Ao43 t343.length co43, .slice Ao44 t348.length co44] rfl (by (try simp only [List.map_toArray, List.map_cons, List.map_nil]); first | done | rfl | (simp only [List.length_drop, List.length_take]; rfl)) ?_; (with_reducible refine (pentaglotlaw28_same.calls kj5 _ _ t343 _ _ t348 true _ ?side1 ?side2 ?side3 ?side4 A30.out).mono ?_); (case side1 => repeat (first | exact (Kd.R_reads' HO345.out).2.2 | (with_reducible refine Kd.C_alloc ?_ _) | (with_reducible refine Kd.C_drewN ?_ _) | (with_reducible refine Kd.C_drew ?_))); (case side2 => exact (Kd.R_reads' HO345.out).2.1); (case side3 => repeat (first | exact (Kd.R_reads' HO350.out).2.2 | (with_reducible refine Kd.C_alloc ?_ _) | (with_reducible refine Kd.C_drewN ?_ _) | (with_reducible refine Kd.C_drew ?_))); (case side4 => exact (Kd.R_reads' HO350.out).2.1); rintro e w' ⟨rfl, ⟨nd, rfl⟩⟩; refine ⟨_, rfl, ?_⟩))
              go_ret
              exact ⟨by first | rfl | (simp [errW_none, errW_some] <;> rfl) | (simp [*, errW_none, errW_some] <;> rfl), by repeat (first | (with_reducible first | exact HB.out | apply below_alloc | apply pw_below_drewN | apply below_drew1 | refine below_set ?_ GE340.out) | exact HB.out)⟩
          · replace c31 := Bool.eq_false_iff.mpr c31
            subst c31
            have H1 : (some false) = some r := by rw [if_neg (show ¬ (false = true) by decide)] at H; exact H
            clear H
            have H := H1
            clear H1
            obtain rfl := Option.some.inj H
            have hcz45_0 : wc.cell? ⟨gb340, 0, none⟩ = some (.int .i64 a0_0) := (blk_cell BK340.out 0).trans rfl
            have hcz45_1 : wc.cell? ⟨gb340, 1, none⟩ = some (.slice A0_1 l0_1.length c0_1) := (blk_cell BK340.out 1).trans rfl
            have hcz45_2 : wc.cell? ⟨gb340, 2, none⟩ = some (.int .i64 a0_2) := (blk_cell BK340.out 2).trans rfl
            have hfz45_0 := blk_frozen BK340.out 0
            have hfz45_1 := blk_frozen BK340.out 1
            have hfz45_2 := blk_frozen BK340.out 2
            go_wp2_with (first | ((with_reducible refine gate_callee (f := 22) rfl ?_); refine goesL_ (some 39) rfl rfl Try.func22 (by kernel_rfl) rfl #[.agg #[.int .i64 a0_0, .slice A0_1 l0_1.length c0_1, .int .i64 a0_2], .slice A1 l1.length c1, .int .i64 a2] rfl (by (try simp only [List.map_toArray, List.map_cons, List.map_nil]); first | done | rfl | (simp only [List.length_drop, List.length_take]; rfl)) ?_; (with_reducible refine (sat_Least.calls kj5 a0_0 _ _ l0_1 a0_2 _ _ l1 a2 t343 t346 t347 _ ?side1 ?side2 ?side3 ?side4 A28.out).mono ?_); (case side1 => repeat (first | exact (Kd.C_below HR0_1.out HB.out) | (with_reducible refine Kd.C_alloc ?_ _) | (with_reducible refine Kd.C_drewN ?_ _) | (with_reducible refine Kd.C_drew ?_))); (case side2 => exact HC0_1.out); (case side3 => repeat (first | exact (Kd.C_below HR1.out HB.out) | (with_reducible refine Kd.C_alloc ?_ _) | (with_reducible refine Kd.C_drewN ?_ _) | (with_reducible refine Kd.C_drew ?_))); (case side4 => exact HC1.out); rintro e w46 ⟨v344, rfl, ho0, hb⟩; refine ⟨_, rfl, ?_⟩; have n0_ := Aside0.mk (Kd.R_lower ho0 (below_size (by repeat (first | (with_reducible first | exact HB.out | apply below_alloc | apply pw_below_drewN | apply below_drew1 | refine below_set ?_ GE340.out) | exact HB.out)))); have n1_ := Aside0.mk (blk_below (g := gb340) (o := .cells #[.int .i64 a0_0, .slice A0_1 l0_1.length c0_1, .int .i64 a0_2] 24 (0, 0)) (by (with_reducible repeat (first | refine blk_drewN ?_ _ | refine blk_drew ?_ | refine blk_alloc ?_ _)); exact BK340.out) hb); have n2_ := Aside0.mk (below_step (by repeat (first | (with_reducible first | exact HB.out | apply below_alloc | apply pw_below_drewN | apply below_drew1 | refine below_set ?_ GE340.out) | exact HB.out)) hb); clear BK340; clear HB; have HO345 := n0_; have BK340 := n1_; have HB := n2_; clear n0_ n1_ n2_; (try clear hb); (try clear hb2); (try clear hk); (try clear hi); (try clear ho0); have hcz47_0 : w46.cell? ⟨gb340, 0, none⟩ = some (.int .i64 a0_0) := (blk_cell BK340.out 0).trans rfl; have hcz47_1 : w46.cell? ⟨gb340, 1, none⟩ = some (.slice A0_1 l0_1.length c0_1) := (blk_cell BK340.out 1).trans rfl; have hcz47_2 : w46.cell? ⟨gb340, 2, none⟩ = some (.int .i64 a0_2) := (blk_cell BK340.out 2).trans rfl; have hfz47_0 := blk_frozen BK340.out 0; have hfz47_1 := blk_frozen BK340.out 1; have hfz47_2 := blk_frozen BK340.out 2) | ((with_reducible refine gate_callee (f := 23) rfl ?_); refine goesL_ (some 47) rfl rfl Try.func23 (by kernel_rfl) rfl #[.agg #[.int .i64 a0_0, .slice A0_1 l0_1.length c0_1, .int .i64 a0_2], .slice A1 l1.length c1, .int .i64 a2] rfl (by (try simp only [List.map_toArray, List.map_cons, List.map_nil]); first | done | rfl | (simp only [List.length_drop, List.length_take]; rfl)) ?_; (with_reducible refine (pentaglotref28_Least.calls kj5 a0_0 _ _ l0_1 a0_2 _ _ l1 a2 t348 t351 t352 _ ?side1 ?side2 ?side3 ?side4 A29.out).mono ?_); (case side1 => repeat (first | exact (Kd.C_below HR0_1.out HB.out) | (with_reducible refine Kd.C_alloc ?_ _) | (with_reducible refine Kd.C_drewN ?_ _) | (with_reducible refine Kd.C_drew ?_))); (case side2 => exact HC0_1.out); (case side3 => repeat (first | exact (Kd.C_below HR1.out HB.out) | (with_reducible refine Kd.C_alloc ?_ _) | (with_reducible refine Kd.C_drewN ?_ _) | (with_reducible refine Kd.C_drew ?_))); (case side4 => exact HC1.out); rintro e w48 ⟨v349, rfl, ho0, hb⟩; refine ⟨_, rfl, ?_⟩; have n0_ := Aside0.mk (Kd.R_elder' (by (with_reducible repeat (first | apply Kd.R_alloc | apply Kd.R_drewN | apply Kd.R_drew)); exact HO345.out) (Kd.R_base ho0) hb); have n1_ := Aside0.mk (Kd.R_lower (Kd.R_new' ho0 (Kd.R_lt (by (with_reducible repeat (first | apply Kd.R_alloc | apply Kd.R_drewN | apply Kd.R_drew)); exact HO345.out))) (below_size (by repeat (first | (with_reducible first | exact HB.out | apply below_alloc | apply pw_below_drewN | apply below_drew1 | refine below_set ?_ GE340.out) | exact HB.out)))); have n2_ := Aside0.mk (blk_below (g := gb340) (o := .cells #[.int .i64 a0_0, .slice A0_1 l0_1.length c0_1, .int .i64 a0_2] 24 (0, 0)) (by (with_reducible repeat (first | refine blk_drewN ?_ _ | refine blk_drew ?_ | refine blk_alloc ?_ _)); exact BK340.out) hb); have n3_ := Aside0.mk (below_step (by repeat (first | (with_reducible first | exact HB.out | apply below_alloc | apply pw_below_drewN | apply below_drew1 | refine below_set ?_ GE340.out) | exact HB.out)) hb); clear HO345; clear BK340; clear HB; have HO345 := n0_; have HO350 := n1_; have BK340 := n2_; have HB := n3_; clear n0_ n1_ n2_ n3_; (try clear hb); (try clear hb2); (try clear hk); (try clear hi); (try clear ho0); obtain ⟨Ao49, co49, eo49⟩ := Kd.R_slice HO345.out; subst eo49; obtain ⟨Ao50, co50, eo50⟩ := Kd.R_slice HO350.out; subst eo50) | ((with_reducible refine gate_callee (f := 24) rfl ?_); refine goesL_ (some 53) rfl rfl Try.func24 (by kernel_rfl) rfl #[.slice Ao49 t343.length co49, .slice Ao50 t348.length co50] rfl (by (try simp only [List.map_toArray, List.map_cons, List.map_nil]); first | done | rfl | (simp only [List.length_drop, List.length_take]; rfl)) ?_; (with_reducible refine (pentaglotlaw28_same.calls kj5 _ _ t343 _ _ t348 false _ ?side1 ?side2 ?side3 ?side4 A30.out).mono ?_); (case side1 => repeat (first | exact (Kd.R_reads' HO345.out).2.2 | (with_reducible refine Kd.C_alloc ?_ _) | (with_reducible refine Kd.C_drewN ?_ _) | (with_reducible refine Kd.C_drew ?_))); (case side2 => exact (Kd.R_reads' HO345.out).2.1); (case side3 => repeat (first | exact (Kd.R_reads' HO350.out).2.2 | (with_reducible refine Kd.C_alloc ?_ _) | (with_reducible refine Kd.C_drewN ?_ _) | (with_reducible refine Kd.C_drew ?_))); (case side4 => exact (Kd.R_reads' HO350.out).2.1); rintro e w' ⟨rfl, ⟨nd, rfl⟩⟩; refine ⟨_, rfl, ?_⟩))
            go_ret
            exact ⟨by first | rfl | (simp [errW_none, errW_some] <;> rfl) | (simp [*, errW_none, errW_some] <;> rfl), by repeat (first | (with_reducible first | exact HB.out | apply below_alloc | apply pw_below_drewN | apply below_drew1 | refine below_set ?_ GE340.out) | exact HB.out)⟩
  · replace c5 := Bool.eq_false_iff.mpr c5
    subst c5
    have H1 : (some false) = some r := by rw [if_neg (show ¬ (false = true) by decide)] at H; exact H
    clear H
    have H := H1
    clear H1
    obtain rfl := Option.some.inj H
    go_enter Try.func5, Try.ntmps5
    go_wp2_with (first | ((with_reducible refine gate_dst (N := 3) rfl ?_); (try (refine gate_guard (by rfl) ?_; dsimp only)); refine box_event ?hg (N := 3) ?hd (cs := #[.int .i64 a0_0, .slice A0_1 l0_1.length c0_1, .int .i64 a0_2]) (t := 24) ?hr ?_; (case hd => rfl); (case hg => rfl); (case hr => first | (go_simp; done) | (go_simp; rfl)); intro gb340 hg w51 hbox hb; have n0_ := Aside0.mk (below_step (by repeat (first | (with_reducible first | exact HB.out | apply below_alloc | apply pw_below_drewN | apply below_drew1) | exact HB.out)) hb); have n1_ := Aside0.mk (hbox); have n2_ := Aside0.mk ((by rw [hg]; exact (below_size (by repeat (first | (with_reducible first | exact HB.out | apply below_alloc | apply pw_below_drewN | apply below_drew1) | exact HB.out))) : w.heap.size ≤ gb340)); have n3_ := Aside0.mk ((by rw [hg]; exact (below_size (by repeat (first | (with_reducible first | exact HB.out | apply below_alloc | apply pw_below_drewN | apply below_drew1) | exact HB.out))) : w.heap.size ≤ gb340)); clear HB; have HB := n0_; have BK340 := n1_; have GW340 := n2_; have GE340 := n3_; clear n0_ n1_ n2_ n3_; clear hb hbox hg) | ((with_reducible refine gate_callee (f := 13) rfl ?_); refine goesL_ (some 13) rfl rfl Try.func13 (by kernel_rfl) rfl #[] rfl (by (try simp only [List.map_toArray, List.map_cons, List.map_nil]); first | done | rfl | (simp only [List.length_drop, List.length_take]; rfl)) ?_; (with_reducible refine (pentaglotlaw28_awake.calls k  false _ A4.out).mono ?_); rintro e w52 ⟨rfl, hb⟩; refine ⟨_, rfl, ?_⟩; have n0_ := Aside0.mk (blk_below (g := gb340) (o := .cells #[.int .i64 a0_0, .slice A0_1 l0_1.length c0_1, .int .i64 a0_2] 24 (0, 0)) (by (with_reducible repeat (first | refine blk_drewN ?_ _ | refine blk_drew ?_ | refine blk_alloc ?_ _)); exact BK340.out) hb); have n1_ := Aside0.mk (below_step (by repeat (first | (with_reducible first | exact HB.out | apply below_alloc | apply pw_below_drewN | apply below_drew1 | refine below_set ?_ GE340.out) | exact HB.out)) hb); clear BK340; clear HB; have BK340 := n0_; have HB := n1_; clear n0_ n1_; (try clear hb); (try clear hb2); (try clear hk); (try clear hi)))
    go_ret
    exact ⟨by first | rfl | (simp [errW_none, errW_some] <;> rfl) | (simp [*, errW_none, errW_some] <;> rfl), by repeat (first | (with_reducible first | exact HB.out | apply below_alloc | apply pw_below_drewN | apply below_drew1 | refine below_set ?_ GE340.out) | exact HB.out)⟩

/-- THE ONE PURE STATEMENT of pentaglotlaw28_SatLeast. -/
def pentaglotlaw28_SatLeast.Pure : Prop := ∀ (p0 : S24) (p1 : List Int) (p2 : Int), wf24 p0 → (∀ a ∈ p1, (Lit.int .i64 a).wf = true) → (Lit.int .i64 p2).wf = true → p1.length ≤ 9223372036854775807 → ∃ k, pentaglotlaw28_SatLeast.f k p0.f0 p0.f1 p0.f2 p1 p2 = some true


end Go.Proofs.Ytflknolnclnhfaa.P
