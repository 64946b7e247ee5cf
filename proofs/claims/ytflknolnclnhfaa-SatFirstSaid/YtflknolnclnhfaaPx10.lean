-- Written by the session's own program wip/tools/xprint.py out of the translation, with the kit's print.py on a scratch copy; functions given by hand stand among them.
import Derived.Test.YtflknolnclnhfaaPx0
import Derived.Test.YtflknolnclnhfaaPx9
namespace Go.Proofs.Ytflknolnclnhfaa.P
open Go.RowKit Go.Proofs.YtflknolnclnhfaaW.PrintWords Go.Proofs.YtflknolnclnhfaaW.PrintLast Go.Proofs.YtflknolnclnhfaaW.PrintMore
attribute [local go_sem] max2_int min2_int max_two min_two max_three min_three max_four min_four   -- for this text's walks alone
set_option linter.unusedVariables false
set_option linter.unusedSimpArgs false

/-! ### pentaglotref28_Values: function 36 -/
mutual
def pentaglotref28_Values.l0 : Nat → List Int → List Int → List (S52) → Int → Int → Option (List Int)
  | 0, _, _, _, _, _ => none
  | k + 1, x1, x5, x13, x14, x15 => if x15 < x14 then (if 0 ≤ x15 then (if x15 < (x13.length : Int) then (pentaglotref28_Values.l1 k x1 x5 ([] : List Int) x13 x14 x15 ((rd_T52 x13 x15).f2) (((rd_T52 x13 x15).f2).length : Int) 0 ((rd_T52 x13 x15).f0) ((rd_T52 x13 x15).f1) ((rd_T52 x13 x15).f2)) else (none)) else (none)) else (some x5)
def pentaglotref28_Values.l1 : Nat → List Int → List Int → List Int → List (S52) → Int → Int → List Int → Int → Int → Int → Int → List Int → Option (List Int)
  | 0, _, _, _, _, _, _, _, _, _, _, _, _ => none
  | k + 1, x1, x5, x8, x13, x14, x15, x20, x21, x22, x293000, x293001, x293002 => if x22 < x21 then (if 0 ≤ x22 then (if x22 < (x20.length : Int) then (if 0 ≤ (rd x20 x22) then (if (rd x20 x22) < (x5.length : Int) then (if x8.length < 17592186044416 then (pentaglotref28_Values.l1 k x1 x5 (x8 ++ [rd x5 (rd x20 x22)]) x13 x14 x15 x20 x21 (wrap64 (x22 + 1)) x293000 x293001 x293002) else (none)) else (none)) else (none)) else (none)) else (none)) else (if x293000 = 2 then (if x5.length < 17592186044416 then (pentaglotref28_Values.l0 k x1 (x5 ++ [1]) x13 x14 (wrap64 (x15 + 1))) else (none)) else (if x293000 = 3 then (if 0 ≤ x293001 then (if x293001 < (x1.length : Int) then (if x5.length < 17592186044416 then (pentaglotref28_Values.l0 k x1 (x5 ++ [rd x1 x293001]) x13 x14 (wrap64 (x15 + 1))) else (none)) else (none)) else (none)) else (if x293000 = 4 then ((some (([1, 0, 2] : List Int) : List Int)).bind fun y305 => (if 0 < (x8.length : Int) then (if 0 ≤ (rd x8 0) then (if (rd x8 0) < (y305.length : Int) then (if x5.length < 17592186044416 then (pentaglotref28_Values.l0 k x1 (x5 ++ [rd y305 (rd x8 0)]) x13 x14 (wrap64 (x15 + 1))) else (none)) else (none)) else (none)) else (none))) else (if x293000 = 5 then ((pentaglotref28_join.f k 0 x8).bind fun t313 => (if x5.length < 17592186044416 then (pentaglotref28_Values.l0 k x1 (x5 ++ [t313]) x13 x14 (wrap64 (x15 + 1))) else (none))) else (if x293000 = 6 then ((pentaglotref28_join.f k 1 x8).bind fun t317 => (if x5.length < 17592186044416 then (pentaglotref28_Values.l0 k x1 (x5 ++ [t317]) x13 x14 (wrap64 (x15 + 1))) else (none))) else (if x5.length < 17592186044416 then (pentaglotref28_Values.l0 k x1 (x5 ++ [0]) x13 x14 (wrap64 (x15 + 1))) else (none)))))))
end
def pentaglotref28_Values.f (k : Nat) (a0_0 : Int) (l0_1 : List (S52)) (a0_2 : Int) (l1 : List Int) : Option (List Int) := pentaglotref28_Values.l0 k l1 ([] : List Int) l0_1 (l0_1.length : Int) 0
theorem pentaglotref28_Values.mono_l : ∀ k, (∀ y0 y1 y2 y3 y4, LeO (pentaglotref28_Values.l0 k y0 y1 y2 y3 y4) (pentaglotref28_Values.l0 (k + 1) y0 y1 y2 y3 y4)) ∧ (∀ y0 y1 y2 y3 y4 y5 y6 y7 y8 y9 y10 y11, LeO (pentaglotref28_Values.l1 k y0 y1 y2 y3 y4 y5 y6 y7 y8 y9 y10 y11) (pentaglotref28_Values.l1 (k + 1) y0 y1 y2 y3 y4 y5 y6 y7 y8 y9 y10 y11))
  | 0 => ⟨fun _ _ _ _ _ r h => by simp [pentaglotref28_Values.l0] at h, fun _ _ _ _ _ _ _ _ _ _ _ _ r h => by simp [pentaglotref28_Values.l1] at h⟩
  | k + 1 => by
    obtain ⟨ih0, ih1⟩ := pentaglotref28_Values.mono_l k
    refine ⟨?_, ?_⟩
    · intro y0 y1 y2 y3 y4
      unfold pentaglotref28_Values.l0
      repeat' first
      | (with_reducible exact ih0 _ _ _ _ _)
      | (with_reducible exact ih1 _ _ _ _ _ _ _ _ _ _ _ _)
      | (with_reducible exact pentaglotref28_join.mono _ _ _)
      | (with_reducible exact LeO.refl _)
      | (with_reducible exact LeO.none _)
      | (with_reducible refine LeO.ite ?_ ?_)
      | (with_reducible refine LeO.bind ?_ (fun _ => ?_))
      | exact ih0 _ _ _ _ _
      | exact ih1 _ _ _ _ _ _ _ _ _ _ _ _
      | exact pentaglotref28_join.mono _ _ _
      | exact LeO.none _
      | refine LeO.ite ?_ ?_
      | refine LeO.bind ?_ (fun _ => ?_)
    · intro y0 y1 y2 y3 y4 y5 y6 y7 y8 y9 y10 y11
      unfold pentaglotref28_Values.l1
      repeat' first
      | (with_reducible exact ih0 _ _ _ _ _)
      | (with_reducible exact ih1 _ _ _ _ _ _ _ _ _ _ _ _)
      | (with_reducible exact pentaglotref28_join.mono _ _ _)
      | (with_reducible exact LeO.refl _)
      | (with_reducible exact LeO.none _)
      | (with_reducible refine LeO.ite ?_ ?_)
      | (with_reducible refine LeO.bind ?_ (fun _ => ?_))
      | exact ih0 _ _ _ _ _
      | exact ih1 _ _ _ _ _ _ _ _ _ _ _ _
      | exact pentaglotref28_join.mono _ _ _
      | exact LeO.none _
      | refine LeO.ite ?_ ?_
      | refine LeO.bind ?_ (fun _ => ?_)
theorem pentaglotref28_Values.mono : ∀ a0 a1 a2 a3 k, LeO (pentaglotref28_Values.f k a0 a1 a2 a3) (pentaglotref28_Values.f (k + 1) a0 a1 a2 a3) := by
  intro a0 a1 a2 a3 k
  obtain ⟨ih0, ih1⟩ := pentaglotref28_Values.mono_l k
  unfold pentaglotref28_Values.f
  repeat' first
      | (with_reducible exact ih0 _ _ _ _ _)
      | (with_reducible exact ih1 _ _ _ _ _ _ _ _ _ _ _ _)
      | (with_reducible exact pentaglotref28_join.mono _ _ _)
      | (with_reducible exact LeO.refl _)
      | (with_reducible exact LeO.none _)
      | (with_reducible refine LeO.ite ?_ ?_)
      | (with_reducible refine LeO.bind ?_ (fun _ => ?_))
      | exact ih0 _ _ _ _ _
      | exact ih1 _ _ _ _ _ _ _ _ _ _ _ _
      | exact pentaglotref28_join.mono _ _ _
      | exact LeO.none _
      | refine LeO.ite ?_ ?_
      | refine LeO.bind ?_ (fun _ => ?_)
set_option maxHeartbeats 8000000 in
set_option maxRecDepth 100000 in
theorem pentaglotref28_Values.calls (k : Nat) (a0_0 : Int) (A0_1 : Option Addr) (c0_1 : Nat) (l0_1 : List (S52)) (a0_2 : Int) (A1 : Option Addr) (c1 : Nat) (l1 : List Int) (r : List Int) (w : World) (hr0_1 : Kd.C k52 w A0_1 l0_1.length l0_1) (hc0_1 : l0_1.length ≤ c0_1) (hr1 : Kd.C (Kd.int .i64) w A1 l1.length l1) (hc1 : l1.length ≤ c1) (h : pentaglotref28_Values.f k a0_0 l0_1 a0_2 l1 = some r) :
    Calls Try.prog 36 #[.agg #[.int .i64 a0_0, .slice A0_1 l0_1.length c0_1, .int .i64 a0_2], .slice A1 l1.length c1] w fun e w' => ∃ v0_ : Value, e = .returned (v0_) ∧ Kd.R (Kd.int .i64) 3 w' w.heap.size (fun _ => True) v0_ r ∧ Below w.heap.size w w' := by
  have hu24 := Try.underlying24
  have hu52 := Try.underlying52
  have HR0_1 := Aside0.mk hr0_1
  have HC0_1 := Aside0.mk hc0_1
  clear hr0_1 hc0_1
  have HR1 := Aside0.mk hr1
  have HC1 := Aside0.mk hc1
  clear hr1 hc1
  have HB := Aside0.mk (Below.refl w.heap.size w)
  have H : (pentaglotref28_Values.l0 k l1 ([] : List Int) l0_1 (l0_1.length : Int) 0) = some r := h
  clear h
  have H' := Aside0.mk H
  clear H
  go_enter Try.func36, Try.ntmps36
  go_wp2_with (first | ((with_reducible refine gate_dst (N := 2) rfl ?_); refine box_event ?hg (N := 2) ?hd (cs := #[.int .i64 a0_0, .slice A0_1 l0_1.length c0_1, .int .i64 a0_2]) (t := 24) ?hr ?_; (case hd => rfl); (case hg => rfl); (case hr => first | (go_simp; done) | (go_simp; rfl)); intro gb290 hg w3 hbox hb; have n0_ := Aside0.mk (below_step (by repeat (first | (with_reducible first | exact HB.out | apply below_alloc | apply pw_below_drewN | apply below_drew1) | exact HB.out)) hb); have n1_ := Aside0.mk (hbox); have n2_ := Aside0.mk ((by rw [hg]; exact (below_size (by repeat (first | (with_reducible first | exact HB.out | apply below_alloc | apply pw_below_drewN | apply below_drew1) | exact HB.out))) : w.heap.size ≤ gb290)); have n3_ := Aside0.mk ((by rw [hg]; exact (below_size (by repeat (first | (with_reducible first | exact HB.out | apply below_alloc | apply pw_below_drewN | apply below_drew1) | exact HB.out))) : w.heap.size ≤ gb290)); clear HB; have HB := n0_; have BK290 := n1_; have GW290 := n2_; have GE290 := n3_; clear n0_ n1_ n2_ n3_; clear hb hbox hg; have hcz4_0 : w3.cell? ⟨gb290, 0, none⟩ = some (.int .i64 a0_0) := (blk_cell BK290.out 0).trans rfl; have hcz4_1 : w3.cell? ⟨gb290, 1, none⟩ = some (.slice A0_1 l0_1.length c0_1) := (blk_cell BK290.out 1).trans rfl; have hcz4_2 : w3.cell? ⟨gb290, 2, none⟩ = some (.int .i64 a0_2) := (blk_cell BK290.out 2).trans rfl; have hfz4_0 := blk_frozen BK290.out 0; have hfz4_1 := blk_frozen BK290.out 1; have hfz4_2 := blk_frozen BK290.out 2))
  go_loopg [5, 15] k (fun kq v5 v15 w' => ∃ (x5_1 : List Int) (x15_1 : Int), v15 = .int .i64 x15_1 ∧ Aside0 (pentaglotref28_Values.l0 kq l1 x5_1 l0_1 (l0_1.length : Int) x15_1 = some r) ∧ Aside0 (kq ≤ k) ∧ Aside0 (Kd.R (Kd.int .i64) 3 w' w.heap.size (fun _ => True) v5 x5_1) ∧ Aside0 (w'.heap[gb290]? = some (.cells #[.int .i64 a0_0, (.slice A0_1 l0_1.length c0_1), .int .i64 a0_2] 24 (0, 0))) ∧ Aside0 (Below w.heap.size w w'))
  case atStart => exact ⟨(([] : List Int)), (0), (by first | rfl | (simp; done) | (simp [*]; done)), H', ⟨Nat.le_refl _⟩, ⟨by first | exact Kd.R_nil _ _ _ _ _ | exact Kd.N_nil _ _ _ _ _ | exact Kd.V_nil _ _ _ _ _ | exact Kd.Q_nil _ _ _ _ _ | exact Kd.S_nil _ _ _ _ _⟩, ⟨by (with_reducible repeat (first | refine blk_drewN ?_ _ | refine blk_drew ?_ | refine blk_alloc ?_ _)); exact BK290.out⟩, ⟨by repeat (first | (with_reducible first | exact HB.out | apply below_alloc | apply pw_below_drewN | apply below_drew1 | refine below_set ?_ GE290.out) | exact HB.out)⟩⟩
  case round =>
    clear H'
    try clear c1
    try clear p2
    try clear c3
    try clear hcz4_0
    try clear hcz4_1
    try clear hcz4_2
    try clear hfz4_0
    try clear hfz4_1
    try clear hfz4_2
    obtain ⟨x5_1, x15_1, rfl, HA, HK1, HO_5, BK290, HB⟩ := hrel
    cases gk with
    | zero => exact absurd HA.out (by simp [pentaglotref28_Values.l0])
    | succ k1 =>
      have H := HA.out
      clear HA
      simp only [pentaglotref28_Values.l0] at H
      by_cases c5 : x15_1 < (l0_1.length : Int)
      · rw [if_pos c5] at H
        have c5b0 : decide (x15_1 < (l0_1.length : Int)) = true := decide_eq_true c5
        clear c5
        by_cases c6 : 0 ≤ x15_1
        · rw [if_pos c6] at H
          have c6b0 : decide (0 ≤ x15_1) = true := decide_eq_true c6
          clear c6
          by_cases c7 : x15_1 < (l0_1.length : Int)
          · rw [if_pos c7] at H
            have c7b0 : decide (x15_1 < (l0_1.length : Int)) = true := decide_eq_true c7
            clear c7
            have H' := Aside0.mk H
            clear H
            have p291 : 0 ≤ (x15_1 : Int) := of_decide_eq_true (by first | (with_reducible assumption) | assumption)
            have q291 : x15_1 < (l0_1.length : Int) := of_decide_eq_true (by first | (with_reducible assumption) | assumption)
            obtain ⟨ad291, A291_2, c291_2, e291, hx291_0, hx291_1, hx291_2, hl291_2, hi291_2⟩ := at_T52 HR0_1.out x15_1 p291 q291
            cases e291
            replace hx291_0 := (HB.out.cell (World.block_lt_of_cell? w _ hx291_0)).trans hx291_0
            replace hx291_1 := (HB.out.cell (World.block_lt_of_cell? w _ hx291_1)).trans hx291_1
            replace hx291_2 := (HB.out.cell (World.block_lt_of_cell? w _ hx291_2)).trans hx291_2
            have HR291_2 := Aside0.mk hi291_2
            have HC291_2 := Aside0.mk hl291_2
            clear hi291_2 hl291_2
            replace p291 := eq_true p291
            replace q291 := eq_true q291
            go_wp2_with (first | ((with_reducible refine gate_dst (N := 7) rfl ?_); refine box_event ?hg (N := 7) ?hd (cs := #[.int .i64 0, .int .i64 0, .slice none 0 0]) (t := 52) ?hr ?_; (case hd => rfl); (case hg => rfl); (case hr => first | (go_simp; done) | (go_simp; rfl)); intro gb292 hg w8 hbox hb; have n0_ := Aside0.mk (Kd.R_below (by (with_reducible repeat (first | apply Kd.R_alloc | apply Kd.R_drewN | apply Kd.R_drew)); exact HO_5.out) hb); have n1_ := Aside0.mk (blk_below (g := gb290) (o := .cells #[.int .i64 a0_0, .slice (some ad291) l0_1.length c0_1, .int .i64 a0_2] 24 (0, 0)) (by (with_reducible repeat (first | refine blk_drewN ?_ _ | refine blk_drew ?_ | refine blk_alloc ?_ _)); exact BK290.out) hb); have n2_ := Aside0.mk (below_step (by repeat (first | (with_reducible first | exact HB.out | apply below_alloc | apply pw_below_drewN | apply below_drew1 | refine below_set ?_ GE290.out) | exact HB.out)) hb); have n3_ := Aside0.mk (hbox); have n4_ := Aside0.mk ((by rw [hg]; exact (below_size (by repeat (first | (with_reducible first | exact HB.out | apply below_alloc | apply pw_below_drewN | apply below_drew1 | refine below_set ?_ GE290.out) | exact HB.out))) : w.heap.size ≤ gb292)); have n5_ := Aside0.mk ((by rw [hg]; exact (below_size (by repeat (first | (with_reducible first | exact HB.out | apply below_alloc | apply pw_below_drewN | apply below_drew1 | refine below_set ?_ GE290.out) | exact HB.out))) : w.heap.size ≤ gb292)); have n6_ := Aside0.mk ((by rw [hg]; exact Nat.ne_of_lt (blk_lt (g := gb290) (o := .cells #[.int .i64 a0_0, .slice (some ad291) l0_1.length c0_1, .int .i64 a0_2] 24 (0, 0)) (by (with_reducible repeat (first | refine blk_drewN ?_ _ | refine blk_drew ?_ | refine blk_alloc ?_ _)); exact BK290.out)) : gb290 ≠ gb292)); have n7_ := Aside0.mk ((by rw [hg]; exact Nat.ne_of_gt (blk_lt (g := gb290) (o := .cells #[.int .i64 a0_0, .slice (some ad291) l0_1.length c0_1, .int .i64 a0_2] 24 (0, 0)) (by (with_reducible repeat (first | refine blk_drewN ?_ _ | refine blk_drew ?_ | refine blk_alloc ?_ _)); exact BK290.out)) : gb292 ≠ gb290)); clear HO_5; clear BK290; clear HB; have HO_5 := n0_; have BK290 := n1_; have HB := n2_; have BK292 := n3_; have GW292 := n4_; have GE292 := n5_; have NB290_292 := n6_; have NB292_290 := n7_; clear n0_ n1_ n2_ n3_ n4_ n5_ n6_ n7_; clear hb hbox hg; have hnb9 := NB292_290.out; have hnc9 := NB290_292.out; have hcz10_0 : w8.cell? ⟨gb292, 0, none⟩ = some (.int .i64 0) := (blk_cell BK292.out 0).trans rfl; have hcz10_1 : w8.cell? ⟨gb292, 1, none⟩ = some (.int .i64 0) := (blk_cell BK292.out 1).trans rfl; have hcz10_2 : w8.cell? ⟨gb292, 2, none⟩ = some (.slice none 0 0) := (blk_cell BK292.out 2).trans rfl; have hfz10_0 := blk_frozen BK292.out 0; have hfz10_1 := blk_frozen BK292.out 1; have hfz10_2 := blk_frozen BK292.out 2))
            go_loopg [8, 22] k1 (fun kq v8 v22 w' => ∃ (x8_2 : List Int) (x22_2 : Int), v22 = .int .i64 x22_2 ∧ Aside0 (pentaglotref28_Values.l1 kq l1 x5_1 x8_2 l0_1 (l0_1.length : Int) x15_1 ((rd_T52 l0_1 x15_1).f2) (((rd_T52 l0_1 x15_1).f2).length : Int) x22_2 ((rd_T52 l0_1 x15_1).f0) ((rd_T52 l0_1 x15_1).f1) ((rd_T52 l0_1 x15_1).f2) = some r) ∧ Aside0 (kq ≤ k1) ∧ Aside0 (Kd.R (Kd.int .i64) 3 w' w.heap.size (fun k_ => some k_ ≠ (v8 : Value).ownBlock) u5 x5_1) ∧ Aside0 (Kd.R (Kd.int .i64) 3 w' w.heap.size (fun k_ => some k_ ≠ (u5 : Value).ownBlock) v8 x8_2) ∧ Aside0 (w'.heap[gb290]? = some (.cells #[.int .i64 a0_0, (.slice (some ad291) l0_1.length c0_1), .int .i64 a0_2] 24 (0, 0))) ∧ Aside0 (w'.heap[gb292]? = some (.cells #[.int .i64 ((rd_T52 l0_1 x15_1).f0), .int .i64 ((rd_T52 l0_1 x15_1).f1), (.slice A291_2 ((rd_T52 l0_1 x15_1).f2).length c291_2)] 52 (0, 0))) ∧ Aside0 (Below w.heap.size w w'))
            case atStart => exact ⟨(([] : List Int)), (0), (by first | rfl | (simp; done) | (simp [*]; done)), H', ⟨Nat.le_refl _⟩, ⟨by (with_reducible repeat (first | apply Kd.R_alloc | apply Kd.R_drewN | apply Kd.R_drew)); exact Kd.R_mono (Kd.R_far (p := ⟨gb292, 2, none⟩) (Kd.R_far (p := ⟨gb292, 1, none⟩) (Kd.R_far (p := ⟨gb292, 0, none⟩) (Kd.R_types HO_5.out BK292.out (by decide)) (fun _ hk => hk.2) (.int .i64 ((rd_T52 l0_1 x15_1).f0))) (fun _ hk => hk.2) (.int .i64 ((rd_T52 l0_1 x15_1).f1))) (fun _ hk => hk.2) (.slice A291_2 ((rd_T52 l0_1 x15_1).f2).length c291_2)) (fun _ hk => (by simp [Value.ownBlock]))⟩, ⟨by first | exact Kd.R_nil _ _ _ _ _ | exact Kd.N_nil _ _ _ _ _ | exact Kd.V_nil _ _ _ _ _ | exact Kd.Q_nil _ _ _ _ _ | exact Kd.S_nil _ _ _ _ _⟩, ⟨by (with_reducible repeat (first | refine blk_drewN ?_ _ | refine blk_drew ?_ | refine blk_alloc ?_ _)); refine blk_far ?_ NB290_292.out _; (with_reducible repeat (first | refine blk_drewN ?_ _ | refine blk_drew ?_ | refine blk_alloc ?_ _)); refine blk_far ?_ NB290_292.out _; (with_reducible repeat (first | refine blk_drewN ?_ _ | refine blk_drew ?_ | refine blk_alloc ?_ _)); refine blk_far ?_ NB290_292.out _; (with_reducible repeat (first | refine blk_drewN ?_ _ | refine blk_drew ?_ | refine blk_alloc ?_ _)); exact BK290.out⟩, ⟨by (with_reducible repeat (first | refine blk_drewN ?_ _ | refine blk_drew ?_ | refine blk_alloc ?_ _)); refine blk_put (cs := #[.int .i64 ((rd_T52 l0_1 x15_1).f0), .int .i64 ((rd_T52 l0_1 x15_1).f1), .slice none 0 0]) ?_ 2 _ rfl; (with_reducible repeat (first | refine blk_drewN ?_ _ | refine blk_drew ?_ | refine blk_alloc ?_ _)); refine blk_put (cs := #[.int .i64 ((rd_T52 l0_1 x15_1).f0), .int .i64 0, .slice none 0 0]) ?_ 1 _ rfl; (with_reducible repeat (first | refine blk_drewN ?_ _ | refine blk_drew ?_ | refine blk_alloc ?_ _)); refine blk_put (cs := #[.int .i64 0, .int .i64 0, .slice none 0 0]) ?_ 0 _ rfl; (with_reducible repeat (first | refine blk_drewN ?_ _ | refine blk_drew ?_ | refine blk_alloc ?_ _)); exact BK292.out⟩, ⟨by repeat (first | (with_reducible first | exact HB.out | apply below_alloc | apply pw_below_drewN | apply below_drew1 | refine below_set ?_ GE290.out | refine below_set ?_ GE292.out) | exact HB.out)⟩⟩
            case round =>
              clear H'
              try clear c1
              try clear c2
              try clear p2
              try clear q2
              try clear hx2
              try clear c3
              try clear c5
              try clear c5b0
              try clear c6
              try clear c6b0
              try clear c7
              try clear c7b0
              try clear c9
              try clear hcz10_0
              try clear hcz10_1
              try clear hcz10_2
              try clear hcz4_0
              try clear hcz4_1
              try clear hcz4_2
              try clear hfz10_0
              try clear hfz10_1
              try clear hfz10_2
              try clear hfz4_0
              try clear hfz4_1
              try clear hfz4_2
              try clear hx291_0
              try clear hx291_1
              try clear hx291_2
              try clear p2
              try clear p291
              try clear q291
              obtain ⟨x8_2, x22_2, rfl, HA, HK2, HO_5, HO_8, BK290, BK292, HB⟩ := hrel
              cases gk with
              | zero => exact absurd HA.out (by simp [pentaglotref28_Values.l1])
              | succ k2 =>
                have H := HA.out
                clear HA
                simp only [pentaglotref28_Values.l1] at H
                by_cases c11 : x22_2 < (((rd_T52 l0_1 x15_1).f2).length : Int)
                · rw [if_pos c11] at H
                  have c11b0 : decide (x22_2 < (((rd_T52 l0_1 x15_1).f2).length : Int)) = true := decide_eq_true c11
                  clear c11
                  by_cases c12 : 0 ≤ x22_2
                  · rw [if_pos c12] at H
                    have c12b0 : decide (0 ≤ x22_2) = true := decide_eq_true c12
                    clear c12
                    by_cases c13 : x22_2 < (((rd_T52 l0_1 x15_1).f2).length : Int)
                    · rw [if_pos c13] at H
                      have c13b0 : decide (x22_2 < (((rd_T52 l0_1 x15_1).f2).length : Int)) = true := decide_eq_true c13
                      clear c13
                      by_cases c14 : 0 ≤ (rd ((rd_T52 l0_1 x15_1).f2) x22_2)
                      · rw [if_pos c14] at H
                        have c14b0 : decide (0 ≤ (rd ((rd_T52 l0_1 x15_1).f2) x22_2)) = true := decide_eq_true c14
                        clear c14
                        by_cases c15 : (rd ((rd_T52 l0_1 x15_1).f2) x22_2) < (x5_1.length : Int)
                        · rw [if_pos c15] at H
                          have c15b0 : decide ((rd ((rd_T52 l0_1 x15_1).f2) x22_2) < (x5_1.length : Int)) = true := decide_eq_true c15
                          clear c15
                          by_cases c16 : x8_2.length < 17592186044416
                          · rw [if_pos c16] at H
                            have LMc16 := Aside0.mk c16
                            clear c16
                            obtain ⟨y295, hy295⟩ : ∃ y_ : List Int, y_ = (x8_2 ++ [rd x5_1 (rd ((rd_T52 l0_1 x15_1).f2) x22_2)]) := ⟨_, rfl⟩
                            replace H : (pentaglotref28_Values.l1 k2 l1 x5_1 y295 l0_1 (l0_1.length : Int) x15_1 ((rd_T52 l0_1 x15_1).f2) (((rd_T52 l0_1 x15_1).f2).length : Int) (wrap64 (x22_2 + 1)) ((rd_T52 l0_1 x15_1).f0) ((rd_T52 l0_1 x15_1).f1) ((rd_T52 l0_1 x15_1).f2)) = some r := by first | (rw [hy295]; with_reducible exact H) | (have H2_ := (Option.bind_some _ _).symm.trans H; rw [hy295]; with_reducible exact H2_) | (have H2_ := (Option.bind_some _ _).symm.trans H; with_reducible exact H2_) | with_reducible exact H | (rw [hy295]; exact H) | exact H
                            have Ny295 := Aside0.mk hy295
                            clear hy295
                            have H' := Aside0.mk H
                            clear H
                            have p293 : 0 ≤ (x22_2 : Int) := of_decide_eq_true (by first | (with_reducible assumption) | assumption)
                            have q293 : x22_2 < (((rd_T52 l0_1 x15_1).f2).length : Int) := of_decide_eq_true (by first | (with_reducible assumption) | assumption)
                            obtain ⟨ad293, e293, hx293_0⟩ := Kd.at_int HR291_2.out x22_2 p293 q293
                            cases e293
                            replace hx293_0 := (HB.out.cell (World.block_lt_of_cell? w _ hx293_0)).trans hx293_0
                            replace p293 := eq_true p293
                            replace q293 := eq_true q293
                            obtain ⟨Ao17, co17, eo17⟩ := Kd.R_slice HO_5.out
                            subst eo17
                            have p294 : 0 ≤ ((rd ((rd_T52 l0_1 x15_1).f2) x22_2) : Int) := of_decide_eq_true (by first | (with_reducible assumption) | assumption)
                            have q294 : (rd ((rd_T52 l0_1 x15_1).f2) x22_2) < (x5_1.length : Int) := of_decide_eq_true (by first | (with_reducible assumption) | assumption)
                            obtain ⟨ad294, e294, hx294_0⟩ := Kd.at_int (Kd.R_reads' HO_5.out).2.2 (rd ((rd_T52 l0_1 x15_1).f2) x22_2) p294 q294
                            cases e294
                            replace p294 := eq_true p294
                            replace q294 := eq_true q294
                            go_wp2_with (first | ((with_reducible refine gate_builtin (b := .append) (xs := #[.tmp 26, .tmp 31]) rfl ?_); at_builtin; refine Kd.R_append (Kd.int .i64) (w0 := w) w.heap.size rfl (.tmp 26) (.tmp 31) 33 3 (.int .i64 0) 8 rfl Try.underlying33 info3 rfl (by decide) (by omega) u8 x8_2 (rd x5_1 (rd ((rd_T52 l0_1 x15_1).f2) x22_2)) [.int .i64 (rd x5_1 (rd ((rd_T52 l0_1 x15_1).f2) x22_2))] (fun k_ => some k_ ≠ (.slice (some ad294) x5_1.length co17 : Value).ownBlock) (fun _ => False) rfl rfl ?aP (fun _ hk => hk.elim) ?aF ?aO ?aB ?aS ?aL ?_; (case aP => exact rfl); (case aB => exact (by repeat (first | (with_reducible first | exact HB.out | apply below_alloc | apply pw_below_drewN | apply below_drew1 | refine below_set ?_ GE290.out | refine below_set ?_ GE292.out) | exact HB.out))); (case aF => exact (fun k_ hk => Kd.fresh' (Kd.R_lt (by (with_reducible repeat (first | apply Kd.R_alloc | apply Kd.R_drewN | apply Kd.R_drew)); exact HO_5.out)) k_ hk)); (case aO => exact (by (with_reducible repeat (first | apply Kd.R_alloc | apply Kd.R_drewN | apply Kd.R_drew)); exact HO_8.out)); (case aS => exact (below_size (by repeat (first | (with_reducible first | exact HB.out | apply below_alloc | apply pw_below_drewN | apply below_drew1 | refine below_set ?_ GE290.out | refine below_set ?_ GE292.out) | exact HB.out)))); (case aL => have := LMc16.out; omega); intro v296 w18 ho hb hg hat; rw [← Ny295.out] at ho; have n0_ := Aside0.mk (Kd.R_after (ok := (fun _ => True)) (by (with_reducible repeat (first | apply Kd.R_alloc | apply Kd.R_drewN | apply Kd.R_drew)); exact Kd.R_mono HO_5.out (fun _ hk => ⟨trivial, hk⟩)) hg hat); have n1_ := Aside0.mk (blk_grown (g := gb290) (o := .cells #[.int .i64 a0_0, .slice (some ad291) l0_1.length c0_1, .int .i64 a0_2] 24 (0, 0)) (by (with_reducible repeat (first | refine blk_drewN ?_ _ | refine blk_drew ?_ | refine blk_alloc ?_ _)); exact BK290.out) hg (Kd.R_ne HO_8.out BK290.out (by decide))); have n2_ := Aside0.mk (blk_grown (g := gb292) (o := .cells #[.int .i64 ((rd_T52 l0_1 x15_1).f0), .int .i64 ((rd_T52 l0_1 x15_1).f1), .slice (some ad293) ((rd_T52 l0_1 x15_1).f2).length c291_2] 52 (0, 0)) (by (with_reducible repeat (first | refine blk_drewN ?_ _ | refine blk_drew ?_ | refine blk_alloc ?_ _)); exact BK292.out) hg (Kd.R_ne HO_8.out BK292.out (by decide))); have n3_ := Aside0.mk (hb); have n4_ := Aside0.mk (ho); clear HO_5; clear BK290; clear BK292; clear HB; clear HO_8; have HO_5 := n0_; have BK290 := n1_; have BK292 := n2_; have HB := n3_; have HO297 := n4_; clear n0_ n1_ n2_ n3_ n4_; clear ho hb hg hat))
                            go_roundg k2
                            case measure => have := HK1.out; have := HK2.out; omega
                            case rel => exact ⟨(y295), (wrap64 (x22_2 + 1)), (by first | rfl | (simp; done) | (simp [*]; done)), H', ⟨by have := HK1.out; have := HK2.out; omega⟩, ⟨by (with_reducible repeat (first | apply Kd.R_alloc | apply Kd.R_drewN | apply Kd.R_drew)); exact Kd.R_mono HO_5.out (fun _ hk => hk.2)⟩, ⟨by (with_reducible repeat (first | apply Kd.R_alloc | apply Kd.R_drewN | apply Kd.R_drew)); exact HO297.out⟩, ⟨by (with_reducible repeat (first | refine blk_drewN ?_ _ | refine blk_drew ?_ | refine blk_alloc ?_ _)); exact BK290.out⟩, ⟨by (with_reducible repeat (first | refine blk_drewN ?_ _ | refine blk_drew ?_ | refine blk_alloc ?_ _)); exact BK292.out⟩, ⟨by repeat (first | (with_reducible first | exact HB.out | apply below_alloc | apply pw_below_drewN | apply below_drew1 | refine below_set ?_ GE290.out | refine below_set ?_ GE292.out) | exact HB.out)⟩⟩
                          · rw [if_neg c16] at H
                            exact absurd H (by simp)
                        · rw [if_neg c15] at H
                          exact absurd H (by simp)
                      · rw [if_neg c14] at H
                        exact absurd H (by simp)
                    · rw [if_neg c13] at H
                      exact absurd H (by simp)
                  · rw [if_neg c12] at H
                    exact absurd H (by simp)
                · rw [if_neg c11] at H
                  have c11b0 : decide (x22_2 < (((rd_T52 l0_1 x15_1).f2).length : Int)) = false := decide_eq_false c11
                  clear c11
                  by_cases c19 : ((rd_T52 l0_1 x15_1).f0) = 2
                  · rw [if_pos c19] at H
                    have c19b0 : (((rd_T52 l0_1 x15_1).f0) == 2) = true := beq_iff_eq.mpr c19
                    have c19b1 : (((rd_T52 l0_1 x15_1).f0) != 2) = false := bne_eq_false_iff_eq.mpr c19
                    clear c19
                    by_cases c20 : x5_1.length < 17592186044416
                    · rw [if_pos c20] at H
                      have LMc20 := Aside0.mk c20
                      clear c20
                      obtain ⟨y298, hy298⟩ : ∃ y_ : List Int, y_ = (x5_1 ++ [1]) := ⟨_, rfl⟩
                      replace H : (pentaglotref28_Values.l0 k2 l1 y298 l0_1 (l0_1.length : Int) (wrap64 (x15_1 + 1))) = some r := by first | (rw [hy298]; with_reducible exact H) | (have H2_ := (Option.bind_some _ _).symm.trans H; rw [hy298]; with_reducible exact H2_) | (have H2_ := (Option.bind_some _ _).symm.trans H; with_reducible exact H2_) | with_reducible exact H | (rw [hy298]; exact H) | exact H
                      have Ny298 := Aside0.mk hy298
                      clear hy298
                      have H' := Aside0.mk H
                      clear H
                      have hnb21 := NB292_290.out
                      have hnc21 := NB290_292.out
                      have hcz22_0 : wr.cell? ⟨gb292, 0, none⟩ = some (.int .i64 ((rd_T52 l0_1 x15_1).f0)) := (blk_cell BK292.out 0).trans rfl
                      have hcz22_1 : wr.cell? ⟨gb292, 1, none⟩ = some (.int .i64 ((rd_T52 l0_1 x15_1).f1)) := (blk_cell BK292.out 1).trans rfl
                      have hcz22_2 : wr.cell? ⟨gb292, 2, none⟩ = some (.slice A291_2 ((rd_T52 l0_1 x15_1).f2).length c291_2) := (blk_cell BK292.out 2).trans rfl
                      have hfz22_0 := blk_frozen BK292.out 0
                      have hfz22_1 := blk_frozen BK292.out 1
                      have hfz22_2 := blk_frozen BK292.out 2
                      go_wp2_with (first | ((with_reducible refine gate_builtin (b := .append) (xs := #[.tmp 61, .tmp 63]) rfl ?_); at_builtin; refine Kd.R_append (Kd.int .i64) (w0 := w) w.heap.size rfl (.tmp 61) (.tmp 63) 33 3 (.int .i64 0) 8 rfl Try.underlying33 info3 rfl (by decide) (by omega) u5 x5_1 1 [.int .i64 1] (fun k_ => some k_ ≠ (u8 : Value).ownBlock) (fun _ => False) rfl rfl ?aP (fun _ hk => hk.elim) ?aF ?aO ?aB ?aS ?aL ?_; (case aP => exact rfl); (case aB => exact (by repeat (first | (with_reducible first | exact HB.out | apply below_alloc | apply pw_below_drewN | apply below_drew1 | refine below_set ?_ GE290.out | refine below_set ?_ GE292.out) | exact HB.out))); (case aF => exact (fun k_ hk => Kd.fresh' (Kd.R_lt (by (with_reducible repeat (first | apply Kd.R_alloc | apply Kd.R_drewN | apply Kd.R_drew)); exact HO_8.out)) k_ hk)); (case aO => exact (by (with_reducible repeat (first | apply Kd.R_alloc | apply Kd.R_drewN | apply Kd.R_drew)); exact HO_5.out)); (case aS => exact (below_size (by repeat (first | (with_reducible first | exact HB.out | apply below_alloc | apply pw_below_drewN | apply below_drew1 | refine below_set ?_ GE290.out | refine below_set ?_ GE292.out) | exact HB.out)))); (case aL => have := LMc20.out; omega); intro v299 w23 ho hb hg hat; rw [← Ny298.out] at ho; have n0_ := Aside0.mk (Kd.R_after (ok := (fun _ => True)) (by (with_reducible repeat (first | apply Kd.R_alloc | apply Kd.R_drewN | apply Kd.R_drew)); exact Kd.R_mono HO_8.out (fun _ hk => ⟨trivial, hk⟩)) hg hat); have n1_ := Aside0.mk (blk_grown (g := gb290) (o := .cells #[.int .i64 a0_0, .slice (some ad291) l0_1.length c0_1, .int .i64 a0_2] 24 (0, 0)) (by (with_reducible repeat (first | refine blk_drewN ?_ _ | refine blk_drew ?_ | refine blk_alloc ?_ _)); exact BK290.out) hg (Kd.R_ne HO_5.out BK290.out (by decide))); have n2_ := Aside0.mk (blk_grown (g := gb292) (o := .cells #[.int .i64 ((rd_T52 l0_1 x15_1).f0), .int .i64 ((rd_T52 l0_1 x15_1).f1), .slice A291_2 ((rd_T52 l0_1 x15_1).f2).length c291_2] 52 (0, 0)) (by (with_reducible repeat (first | refine blk_drewN ?_ _ | refine blk_drew ?_ | refine blk_alloc ?_ _)); exact BK292.out) hg (Kd.R_ne HO_5.out BK292.out (by decide))); have n3_ := Aside0.mk (hb); have n4_ := Aside0.mk (ho); clear HO_8; clear BK290; clear BK292; clear HB; clear HO_5; have HO_8 := n0_; have BK290 := n1_; have BK292 := n2_; have HB := n3_; have HO300 := n4_; clear n0_ n1_ n2_ n3_ n4_; clear ho hb hg hat))
                      go_roundg k2
                      case measure => have := HK1.out; have := HK2.out; omega
                      case rel => exact ⟨(y298), (wrap64 (x15_1 + 1)), (by first | rfl | (simp; done) | (simp [*]; done)), H', ⟨by have := HK1.out; have := HK2.out; omega⟩, ⟨by (with_reducible repeat (first | apply Kd.R_alloc | apply Kd.R_drewN | apply Kd.R_drew)); exact Kd.R_mono HO300.out (fun _ hk => trivial)⟩, ⟨by (with_reducible repeat (first | refine blk_drewN ?_ _ | refine blk_drew ?_ | refine blk_alloc ?_ _)); exact BK290.out⟩, ⟨by repeat (first | (with_reducible first | exact HB.out | apply below_alloc | apply pw_below_drewN | apply below_drew1 | refine below_set ?_ GE290.out | refine below_set ?_ GE292.out) | exact HB.out)⟩⟩
                    · rw [if_neg c20] at H
                      exact absurd H (by simp)
                  · rw [if_neg c19] at H
                    have c19b0 : (((rd_T52 l0_1 x15_1).f0) == 2) = false := beq_eq_false_iff_ne.mpr c19
                    have c19b1 : (((rd_T52 l0_1 x15_1).f0) != 2) = true := bne_iff_ne.mpr c19
                    by_cases c24 : ((rd_T52 l0_1 x15_1).f0) = 3
                    · rw [if_pos c24] at H
                      have c24b0 : (((rd_T52 l0_1 x15_1).f0) == 3) = true := beq_iff_eq.mpr c24
                      have c24b1 : (((rd_T52 l0_1 x15_1).f0) != 3) = false := bne_eq_false_iff_eq.mpr c24
                      clear c24
                      by_cases c25 : 0 ≤ ((rd_T52 l0_1 x15_1).f1)
                      · rw [if_pos c25] at H
                        have c25b0 : decide (0 ≤ ((rd_T52 l0_1 x15_1).f1)) = true := decide_eq_true c25
                        clear c25
                        by_cases c26 : ((rd_T52 l0_1 x15_1).f1) < (l1.length : Int)
                        · rw [if_pos c26] at H
                          have c26b0 : decide (((rd_T52 l0_1 x15_1).f1) < (l1.length : Int)) = true := decide_eq_true c26
                          clear c26
                          by_cases c27 : x5_1.length < 17592186044416
                          · rw [if_pos c27] at H
                            have LMc27 := Aside0.mk c27
                            clear c27
                            obtain ⟨y302, hy302⟩ : ∃ y_ : List Int, y_ = (x5_1 ++ [rd l1 ((rd_T52 l0_1 x15_1).f1)]) := ⟨_, rfl⟩
                            replace H : (pentaglotref28_Values.l0 k2 l1 y302 l0_1 (l0_1.length : Int) (wrap64 (x15_1 + 1))) = some r := by first | (rw [hy302]; with_reducible exact H) | (have H2_ := (Option.bind_some _ _).symm.trans H; rw [hy302]; with_reducible exact H2_) | (have H2_ := (Option.bind_some _ _).symm.trans H; with_reducible exact H2_) | with_reducible exact H | (rw [hy302]; exact H) | exact H
                            have Ny302 := Aside0.mk hy302
                            clear hy302
                            have H' := Aside0.mk H
                            clear H
                            have hnb28 := NB292_290.out
                            have hnc28 := NB290_292.out
                            have hcz29_0 : wr.cell? ⟨gb292, 0, none⟩ = some (.int .i64 ((rd_T52 l0_1 x15_1).f0)) := (blk_cell BK292.out 0).trans rfl
                            have hcz29_1 : wr.cell? ⟨gb292, 1, none⟩ = some (.int .i64 ((rd_T52 l0_1 x15_1).f1)) := (blk_cell BK292.out 1).trans rfl
                            have hcz29_2 : wr.cell? ⟨gb292, 2, none⟩ = some (.slice A291_2 ((rd_T52 l0_1 x15_1).f2).length c291_2) := (blk_cell BK292.out 2).trans rfl
                            have hfz29_0 := blk_frozen BK292.out 0
                            have hfz29_1 := blk_frozen BK292.out 1
                            have hfz29_2 := blk_frozen BK292.out 2
                            have p301 : 0 ≤ (((rd_T52 l0_1 x15_1).f1) : Int) := of_decide_eq_true (by first | (with_reducible assumption) | assumption)
                            have q301 : ((rd_T52 l0_1 x15_1).f1) < (l1.length : Int) := of_decide_eq_true (by first | (with_reducible assumption) | assumption)
                            obtain ⟨ad301, e301, hx301_0⟩ := Kd.at_int HR1.out ((rd_T52 l0_1 x15_1).f1) p301 q301
                            cases e301
                            replace hx301_0 := (HB.out.cell (World.block_lt_of_cell? w _ hx301_0)).trans hx301_0
                            replace p301 := eq_true p301
                            replace q301 := eq_true q301
                            go_wp2_with (first | ((with_reducible refine gate_builtin (b := .append) (xs := #[.tmp 61, .tmp 63]) rfl ?_); at_builtin; refine Kd.R_append (Kd.int .i64) (w0 := w) w.heap.size rfl (.tmp 61) (.tmp 63) 33 3 (.int .i64 0) 8 rfl Try.underlying33 info3 rfl (by decide) (by omega) u5 x5_1 (rd l1 ((rd_T52 l0_1 x15_1).f1)) [.int .i64 (rd l1 ((rd_T52 l0_1 x15_1).f1))] (fun k_ => some k_ ≠ (u8 : Value).ownBlock) (fun _ => False) rfl rfl ?aP (fun _ hk => hk.elim) ?aF ?aO ?aB ?aS ?aL ?_; (case aP => exact rfl); (case aB => exact (by repeat (first | (with_reducible first | exact HB.out | apply below_alloc | apply pw_below_drewN | apply below_drew1 | refine below_set ?_ GE290.out | refine below_set ?_ GE292.out) | exact HB.out))); (case aF => exact (fun k_ hk => Kd.fresh' (Kd.R_lt (by (with_reducible repeat (first | apply Kd.R_alloc | apply Kd.R_drewN | apply Kd.R_drew)); exact HO_8.out)) k_ hk)); (case aO => exact (by (with_reducible repeat (first | apply Kd.R_alloc | apply Kd.R_drewN | apply Kd.R_drew)); exact HO_5.out)); (case aS => exact (below_size (by repeat (first | (with_reducible first | exact HB.out | apply below_alloc | apply pw_below_drewN | apply below_drew1 | refine below_set ?_ GE290.out | refine below_set ?_ GE292.out) | exact HB.out)))); (case aL => have := LMc27.out; omega); intro v303 w30 ho hb hg hat; rw [← Ny302.out] at ho; have n0_ := Aside0.mk (Kd.R_after (ok := (fun _ => True)) (by (with_reducible repeat (first | apply Kd.R_alloc | apply Kd.R_drewN | apply Kd.R_drew)); exact Kd.R_mono HO_8.out (fun _ hk => ⟨trivial, hk⟩)) hg hat); have n1_ := Aside0.mk (blk_grown (g := gb290) (o := .cells #[.int .i64 a0_0, .slice (some ad291) l0_1.length c0_1, .int .i64 a0_2] 24 (0, 0)) (by (with_reducible repeat (first | refine blk_drewN ?_ _ | refine blk_drew ?_ | refine blk_alloc ?_ _)); exact BK290.out) hg (Kd.R_ne HO_5.out BK290.out (by decide))); have n2_ := Aside0.mk (blk_grown (g := gb292) (o := .cells #[.int .i64 ((rd_T52 l0_1 x15_1).f0), .int .i64 ((rd_T52 l0_1 x15_1).f1), .slice A291_2 ((rd_T52 l0_1 x15_1).f2).length c291_2] 52 (0, 0)) (by (with_reducible repeat (first | refine blk_drewN ?_ _ | refine blk_drew ?_ | refine blk_alloc ?_ _)); exact BK292.out) hg (Kd.R_ne HO_5.out BK292.out (by decide))); have n3_ := Aside0.mk (hb); have n4_ := Aside0.mk (ho); clear HO_8; clear BK290; clear BK292; clear HB; clear HO_5; have HO_8 := n0_; have BK290 := n1_; have BK292 := n2_; have HB := n3_; have HO304 := n4_; clear n0_ n1_ n2_ n3_ n4_; clear ho hb hg hat))
                            go_roundg k2
                            case measure => have := HK1.out; have := HK2.out; omega
                            case rel => exact ⟨(y302), (wrap64 (x15_1 + 1)), (by first | rfl | (simp; done) | (simp [*]; done)), H', ⟨by have := HK1.out; have := HK2.out; omega⟩, ⟨by (with_reducible repeat (first | apply Kd.R_alloc | apply Kd.R_drewN | apply Kd.R_drew)); exact Kd.R_mono HO304.out (fun _ hk => trivial)⟩, ⟨by (with_reducible repeat (first | refine blk_drewN ?_ _ | refine blk_drew ?_ | refine blk_alloc ?_ _)); exact BK290.out⟩, ⟨by repeat (first | (with_reducible first | exact HB.out | apply below_alloc | apply pw_below_drewN | apply below_drew1 | refine below_set ?_ GE290.out | refine below_set ?_ GE292.out) | exact HB.out)⟩⟩
                          · rw [if_neg c27] at H
                            exact absurd H (by simp)
                        · rw [if_neg c26] at H
                          exact absurd H (by simp)
                      · rw [if_neg c25] at H
                        exact absurd H (by simp)
                    · rw [if_neg c24] at H
                      have c24b0 : (((rd_T52 l0_1 x15_1).f0) == 3) = false := beq_eq_false_iff_ne.mpr c24
                      have c24b1 : (((rd_T52 l0_1 x15_1).f0) != 3) = true := bne_iff_ne.mpr c24
                      by_cases c31 : ((rd_T52 l0_1 x15_1).f0) = 4
                      · rw [if_pos c31] at H
                        have c31b0 : (((rd_T52 l0_1 x15_1).f0) == 4) = true := beq_iff_eq.mpr c31
                        have c31b1 : (((rd_T52 l0_1 x15_1).f0) != 4) = false := bne_eq_false_iff_eq.mpr c31
                        clear c31
                        obtain ⟨y305, hy305⟩ : ∃ y_ : List Int, y_ = (([1, 0, 2] : List Int)) := ⟨_, rfl⟩
                        replace H : (if 0 < (x8_2.length : Int) then (if 0 ≤ (rd x8_2 0) then (if (rd x8_2 0) < (y305.length : Int) then (if x5_1.length < 17592186044416 then (pentaglotref28_Values.l0 k2 l1 (x5_1 ++ [rd y305 (rd x8_2 0)]) l0_1 (l0_1.length : Int) (wrap64 (x15_1 + 1))) else (none)) else (none)) else (none)) else (none)) = some r := by first | (rw [hy305]; with_reducible exact H) | (have H2_ := (Option.bind_some _ _).symm.trans H; rw [hy305]; with_reducible exact H2_) | (have H2_ := (Option.bind_some _ _).symm.trans H; with_reducible exact H2_) | with_reducible exact H | (rw [hy305]; exact H) | exact H
                        have Ny305 := Aside0.mk hy305
                        clear hy305
                        by_cases c32 : 0 < (x8_2.length : Int)
                        · rw [if_pos c32] at H
                          have c32b0 : decide (0 < (x8_2.length : Int)) = true := decide_eq_true c32
                          have c32b1 : decide (0 < x8_2.length) = true := decide_eq_true (by omega)
                          clear c32
                          by_cases c33 : 0 ≤ (rd x8_2 0)
                          · rw [if_pos c33] at H
                            have c33b0 : decide (0 ≤ (rd x8_2 0)) = true := decide_eq_true c33
                            clear c33
                            by_cases c34 : (rd x8_2 0) < (y305.length : Int)
                            · rw [if_pos c34] at H
                              have c34b0 : decide ((rd x8_2 0) < (y305.length : Int)) = true := decide_eq_true c34
                              clear c34
                              by_cases c35 : x5_1.length < 17592186044416
                              · rw [if_pos c35] at H
                                have LMc35 := Aside0.mk c35
                                clear c35
                                obtain ⟨y310, hy310⟩ : ∃ y_ : List Int, y_ = (x5_1 ++ [rd y305 (rd x8_2 0)]) := ⟨_, rfl⟩
                                replace H : (pentaglotref28_Values.l0 k2 l1 y310 l0_1 (l0_1.length : Int) (wrap64 (x15_1 + 1))) = some r := by first | (rw [hy310]; with_reducible exact H) | (have H2_ := (Option.bind_some _ _).symm.trans H; rw [hy310]; with_reducible exact H2_) | (have H2_ := (Option.bind_some _ _).symm.trans H; with_reducible exact H2_) | with_reducible exact H | (rw [hy310]; exact H) | exact H
                                have Ny310 := Aside0.mk hy310
                                clear hy310
                                have H' := Aside0.mk H
                                clear H
                                have hnb36 := NB292_290.out
                                have hnc36 := NB290_292.out
                                have hcz37_0 : wr.cell? ⟨gb292, 0, none⟩ = some (.int .i64 ((rd_T52 l0_1 x15_1).f0)) := (blk_cell BK292.out 0).trans rfl
                                have hcz37_1 : wr.cell? ⟨gb292, 1, none⟩ = some (.int .i64 ((rd_T52 l0_1 x15_1).f1)) := (blk_cell BK292.out 1).trans rfl
                                have hcz37_2 : wr.cell? ⟨gb292, 2, none⟩ = some (.slice A291_2 ((rd_T52 l0_1 x15_1).f2).length c291_2) := (blk_cell BK292.out 2).trans rfl
                                have hfz37_0 := blk_frozen BK292.out 0
                                have hfz37_1 := blk_frozen BK292.out 1
                                have hfz37_2 := blk_frozen BK292.out 2
                                go_wp2_with (first | ((with_reducible refine gate_dst (N := 47) rfl ?_); refine Kd.R_lit (Kd.int .i64) _ 3 ?hg (N := 47) ?hd (xs := ([1, 0, 2] : List Int)) (inner := [.int .i64 1, .int .i64 0, .int .i64 2]) (ok := fun _ => True) (okp := fun _ => True) ?hr ?hp (fun _ hk => hk) trivial (Below.refl _ _) (Nat.le_refl _) (by simp) ?_; (case hd => rfl); (case hg => rfl); (case hr => first | (go_simp; done) | (go_simp; rfl)); (case hp => exact (Reps.one (show Kd.M (Kd.int .i64) _ _ _ 1 [.int .i64 1] from rfl) (Reps.one (show Kd.M (Kd.int .i64) _ _ _ 0 [.int .i64 0] from rfl) (Reps.one (show Kd.M (Kd.int .i64) _ _ _ 2 [.int .i64 2] from rfl) (Reps.none _ _))))); intro v306 w38 ho39 hb hg_ hnew_; clear hg_ hnew_; (first | rw [← Ny305.out] at ho39 | (simp only [Int.reduceToNat] at ho39; rw [← Ny305.out] at ho39)); have n0_ := Aside0.mk (Kd.R_elder' (by (with_reducible repeat (first | apply Kd.R_alloc | apply Kd.R_drewN | apply Kd.R_drew)); exact HO_5.out) (Kd.R_base ho39) hb); have n1_ := Aside0.mk (Kd.R_elder' (by (with_reducible repeat (first | apply Kd.R_alloc | apply Kd.R_drewN | apply Kd.R_drew)); exact HO_8.out) (Kd.R_base ho39) hb); have n2_ := Aside0.mk (Kd.R_lower (Kd.R_new' (Kd.R_new' ho39 (Kd.R_lt (by (with_reducible repeat (first | apply Kd.R_alloc | apply Kd.R_drewN | apply Kd.R_drew)); exact HO_5.out))) (Kd.R_lt (by (with_reducible repeat (first | apply Kd.R_alloc | apply Kd.R_drewN | apply Kd.R_drew)); exact HO_8.out))) (below_size (by repeat (first | (with_reducible first | exact HB.out | apply below_alloc | apply pw_below_drewN | apply below_drew1 | refine below_set ?_ GE290.out | refine below_set ?_ GE292.out) | exact HB.out)))); have n3_ := Aside0.mk (blk_below (g := gb290) (o := .cells #[.int .i64 a0_0, .slice (some ad291) l0_1.length c0_1, .int .i64 a0_2] 24 (0, 0)) (by (with_reducible repeat (first | refine blk_drewN ?_ _ | refine blk_drew ?_ | refine blk_alloc ?_ _)); exact BK290.out) hb); have n4_ := Aside0.mk (blk_below (g := gb292) (o := .cells #[.int .i64 ((rd_T52 l0_1 x15_1).f0), .int .i64 ((rd_T52 l0_1 x15_1).f1), .slice A291_2 ((rd_T52 l0_1 x15_1).f2).length c291_2] 52 (0, 0)) (by (with_reducible repeat (first | refine blk_drewN ?_ _ | refine blk_drew ?_ | refine blk_alloc ?_ _)); exact BK292.out) hb); have n5_ := Aside0.mk (below_step (by repeat (first | (with_reducible first | exact HB.out | apply below_alloc | apply pw_below_drewN | apply below_drew1 | refine below_set ?_ GE290.out | refine below_set ?_ GE292.out) | exact HB.out)) hb); clear HO_5; clear HO_8; clear BK290; clear BK292; clear HB; have HO_5 := n0_; have HO_8 := n1_; have HO307 := n2_; have BK290 := n3_; have BK292 := n4_; have HB := n5_; clear n0_ n1_ n2_ n3_ n4_ n5_; clear hb ho39; obtain ⟨Ao40, co40, eo40⟩ := Kd.R_slice HO_8.out; subst eo40; have p308 : 0 ≤ (0 : Int) := (by omega); have q308 : 0 < (x8_2.length : Int) := of_decide_eq_true (by first | (with_reducible assumption) | assumption); obtain ⟨ad308, e308, hx308_0⟩ := Kd.at_int (Kd.R_reads' HO_8.out).2.2 0 p308 q308; cases e308; have qi308 : (0 < x8_2.length) = True := eq_true (by omega); (try rw [show ((0 : Int)).toNat = 0 from rfl] at hx308_0); (try rw [Addr.add_zero'] at hx308_0); replace p308 := eq_true p308; replace q308 := eq_true q308; obtain ⟨Ao41, co41, eo41⟩ := Kd.R_slice HO307.out; subst eo41; have p309 : 0 ≤ ((rd x8_2 0) : Int) := of_decide_eq_true (by first | (with_reducible assumption) | assumption); have q309 : (rd x8_2 0) < (y305.length : Int) := of_decide_eq_true (by first | (with_reducible assumption) | assumption); obtain ⟨ad309, e309, hx309_0⟩ := Kd.at_int (Kd.R_reads' HO307.out).2.2 (rd x8_2 0) p309 q309; cases e309; replace p309 := eq_true p309; replace q309 := eq_true q309) | ((with_reducible refine gate_builtin (b := .append) (xs := #[.tmp 61, .tmp 63]) rfl ?_); at_builtin; refine Kd.R_append (Kd.int .i64) (w0 := w) w.heap.size rfl (.tmp 61) (.tmp 63) 33 3 (.int .i64 0) 8 rfl Try.underlying33 info3 rfl (by decide) (by omega) u5 x5_1 (rd y305 (rd x8_2 0)) [.int .i64 (rd y305 (rd x8_2 0))] (fun k_ => some k_ ≠ (.slice (some ad308) x8_2.length co40 : Value).ownBlock ∧ some k_ ≠ (.slice (some ad309) y305.length co41 : Value).ownBlock) (fun _ => False) rfl rfl ?aP (fun _ hk => hk.elim) ?aF ?aO ?aB ?aS ?aL ?_; (case aP => exact rfl); (case aB => exact (by repeat (first | (with_reducible first | exact HB.out | apply below_alloc | apply pw_below_drewN | apply below_drew1 | refine below_set ?_ GE290.out | refine below_set ?_ GE292.out) | exact HB.out))); (case aF => exact (fun k_ hk => ⟨Kd.fresh' (Kd.R_lt (by (with_reducible repeat (first | apply Kd.R_alloc | apply Kd.R_drewN | apply Kd.R_drew)); exact HO_8.out)) k_ hk, Kd.fresh' (Kd.R_lt (by (with_reducible repeat (first | apply Kd.R_alloc | apply Kd.R_drewN | apply Kd.R_drew)); exact HO307.out)) k_ hk⟩)); (case aO => exact (by (with_reducible repeat (first | apply Kd.R_alloc | apply Kd.R_drewN | apply Kd.R_drew)); exact HO_5.out)); (case aS => exact (below_size (by repeat (first | (with_reducible first | exact HB.out | apply below_alloc | apply pw_below_drewN | apply below_drew1 | refine below_set ?_ GE290.out | refine below_set ?_ GE292.out) | exact HB.out)))); (case aL => have := LMc35.out; omega); intro v311 w42 ho hb hg hat; rw [← Ny310.out] at ho; have n0_ := Aside0.mk (Kd.R_after (ok := (fun k_ => some k_ ≠ (.slice (some ad309) y305.length co41 : Value).ownBlock)) (by (with_reducible repeat (first | apply Kd.R_alloc | apply Kd.R_drewN | apply Kd.R_drew)); exact Kd.R_mono HO_8.out (fun _ hk => ⟨hk.2, hk.1⟩)) hg hat); have n1_ := Aside0.mk (blk_grown (g := gb290) (o := .cells #[.int .i64 a0_0, .slice (some ad291) l0_1.length c0_1, .int .i64 a0_2] 24 (0, 0)) (by (with_reducible repeat (first | refine blk_drewN ?_ _ | refine blk_drew ?_ | refine blk_alloc ?_ _)); exact BK290.out) hg (Kd.R_ne HO_5.out BK290.out (by decide))); have n2_ := Aside0.mk (blk_grown (g := gb292) (o := .cells #[.int .i64 ((rd_T52 l0_1 x15_1).f0), .int .i64 ((rd_T52 l0_1 x15_1).f1), .slice A291_2 ((rd_T52 l0_1 x15_1).f2).length c291_2] 52 (0, 0)) (by (with_reducible repeat (first | refine blk_drewN ?_ _ | refine blk_drew ?_ | refine blk_alloc ?_ _)); exact BK292.out) hg (Kd.R_ne HO_5.out BK292.out (by decide))); have n3_ := Aside0.mk (Kd.R_after (ok := (fun k_ => some k_ ≠ (.slice (some ad308) x8_2.length co40 : Value).ownBlock)) (by (with_reducible repeat (first | apply Kd.R_alloc | apply Kd.R_drewN | apply Kd.R_drew)); exact Kd.R_mono HO307.out (fun _ hk => ⟨hk.2, hk.1.2⟩)) hg hat); have n4_ := Aside0.mk (hb); have n5_ := Aside0.mk (ho); clear HO_8; clear BK290; clear BK292; clear HO307; clear HB; clear HO_5; have HO_8 := n0_; have BK290 := n1_; have BK292 := n2_; have HO307 := n3_; have HB := n4_; have HO312 := n5_; clear n0_ n1_ n2_ n3_ n4_ n5_; clear ho hb hg hat))
                                go_roundg k2
                                case measure => have := HK1.out; have := HK2.out; omega
                                case rel => exact ⟨(y310), (wrap64 (x15_1 + 1)), (by first | rfl | (simp; done) | (simp [*]; done)), H', ⟨by have := HK1.out; have := HK2.out; omega⟩, ⟨by (with_reducible repeat (first | apply Kd.R_alloc | apply Kd.R_drewN | apply Kd.R_drew)); exact Kd.R_mono HO312.out (fun _ hk => trivial)⟩, ⟨by (with_reducible repeat (first | refine blk_drewN ?_ _ | refine blk_drew ?_ | refine blk_alloc ?_ _)); exact BK290.out⟩, ⟨by repeat (first | (with_reducible first | exact HB.out | apply below_alloc | apply pw_below_drewN | apply below_drew1 | refine below_set ?_ GE290.out | refine below_set ?_ GE292.out) | exact HB.out)⟩⟩
                              · rw [if_neg c35] at H
                                exact absurd H (by simp)
                            · rw [if_neg c34] at H
                              exact absurd H (by simp)
                          · rw [if_neg c33] at H
                            exact absurd H (by simp)
                        · rw [if_neg c32] at H
                          exact absurd H (by simp)
                      · rw [if_neg c31] at H
                        have c31b0 : (((rd_T52 l0_1 x15_1).f0) == 4) = false := beq_eq_false_iff_ne.mpr c31
                        have c31b1 : (((rd_T52 l0_1 x15_1).f0) != 4) = true := bne_iff_ne.mpr c31
                        by_cases c43 : ((rd_T52 l0_1 x15_1).f0) = 5
                        · rw [if_pos c43] at H
                          have c43b0 : (((rd_T52 l0_1 x15_1).f0) == 5) = true := beq_iff_eq.mpr c43
                          have c43b1 : (((rd_T52 l0_1 x15_1).f0) != 5) = false := bne_eq_false_iff_eq.mpr c43
                          clear c43
                          replace H := Option.bind_eq_some_iff.mp H
                          obtain ⟨t313, A440, H⟩ := H
                          replace H : (if x5_1.length < 17592186044416 then (pentaglotref28_Values.l0 k2 l1 (x5_1 ++ [t313]) l0_1 (l0_1.length : Int) (wrap64 (x15_1 + 1))) else (none)) = some r := H
                          have A44 := Aside0.mk A440
                          clear A440
                          by_cases c45 : x5_1.length < 17592186044416
                          · rw [if_pos c45] at H
                            have LMc45 := Aside0.mk c45
                            clear c45
                            obtain ⟨y314, hy314⟩ : ∃ y_ : List Int, y_ = (x5_1 ++ [t313]) := ⟨_, rfl⟩
                            replace H : (pentaglotref28_Values.l0 k2 l1 y314 l0_1 (l0_1.length : Int) (wrap64 (x15_1 + 1))) = some r := by first | (rw [hy314]; with_reducible exact H) | (have H2_ := (Option.bind_some _ _).symm.trans H; rw [hy314]; with_reducible exact H2_) | (have H2_ := (Option.bind_some _ _).symm.trans H; with_reducible exact H2_) | with_reducible exact H | (rw [hy314]; exact H) | exact H
                            have Ny314 := Aside0.mk hy314
                            clear hy314
                            have H' := Aside0.mk H
                            clear H
                            have hnb46 := NB292_290.out
                            have hnc46 := NB290_292.out
                            have hcz47_0 : wr.cell? ⟨gb292, 0, none⟩ = some (.int .i64 ((rd_T52 l0_1 x15_1).f0)) := (blk_cell BK292.out 0).trans rfl
                            have hcz47_1 : wr.cell? ⟨gb292, 1, none⟩ = some (.int .i64 ((rd_T52 l0_1 x15_1).f1)) := (blk_cell BK292.out 1).trans rfl
                            have hcz47_2 : wr.cell? ⟨gb292, 2, none⟩ = some (.slice A291_2 ((rd_T52 l0_1 x15_1).f2).length c291_2) := (blk_cell BK292.out 2).trans rfl
                            have hfz47_0 := blk_frozen BK292.out 0
                            have hfz47_1 := blk_frozen BK292.out 1
                            have hfz47_2 := blk_frozen BK292.out 2
                            obtain ⟨Ao48, co48, eo48⟩ := Kd.R_slice HO_8.out
                            subst eo48
                            go_wp2_with (first | ((with_reducible refine gate_callee (f := 42) rfl ?_); refine goesL_ (some 56) rfl rfl Try.func42 (by kernel_rfl) rfl #[.int .i64 0, .slice Ao48 x8_2.length co48] rfl (by (try simp only [List.map_toArray, List.map_cons, List.map_nil]); first | done | rfl | (simp only [List.length_drop, List.length_take]; rfl)) ?_; (with_reducible refine (pentaglotref28_join.calls k2 0 _ _ x8_2 t313 _ ?side1 ?side2 A44.out).mono ?_); (case side1 => repeat (first | exact (Kd.R_reads' HO_8.out).2.2 | (with_reducible refine Kd.C_alloc ?_ _) | (with_reducible refine Kd.C_drewN ?_ _) | (with_reducible refine Kd.C_drew ?_))); (case side2 => exact (Kd.R_reads' HO_8.out).2.1); rintro e w' ⟨rfl, ⟨nd, rfl⟩⟩; refine ⟨_, rfl, ?_⟩) | ((with_reducible refine gate_builtin (b := .append) (xs := #[.tmp 61, .tmp 63]) rfl ?_); at_builtin; refine Kd.R_append (Kd.int .i64) (w0 := w) w.heap.size rfl (.tmp 61) (.tmp 63) 33 3 (.int .i64 0) 8 rfl Try.underlying33 info3 rfl (by decide) (by omega) u5 x5_1 t313 [.int .i64 t313] (fun k_ => some k_ ≠ (.slice Ao48 x8_2.length co48 : Value).ownBlock) (fun _ => False) rfl rfl ?aP (fun _ hk => hk.elim) ?aF ?aO ?aB ?aS ?aL ?_; (case aP => exact rfl); (case aB => exact (by repeat (first | (with_reducible first | exact HB.out | apply below_alloc | apply pw_below_drewN | apply below_drew1 | refine below_set ?_ GE290.out | refine below_set ?_ GE292.out) | exact HB.out))); (case aF => exact (fun k_ hk => Kd.fresh' (Kd.R_lt (by (with_reducible repeat (first | apply Kd.R_alloc | apply Kd.R_drewN | apply Kd.R_drew)); exact HO_8.out)) k_ hk)); (case aO => exact (by (with_reducible repeat (first | apply Kd.R_alloc | apply Kd.R_drewN | apply Kd.R_drew)); exact HO_5.out)); (case aS => exact (below_size (by repeat (first | (with_reducible first | exact HB.out | apply below_alloc | apply pw_below_drewN | apply below_drew1 | refine below_set ?_ GE290.out | refine below_set ?_ GE292.out) | exact HB.out)))); (case aL => have := LMc45.out; omega); intro v315 w49 ho hb hg hat; rw [← Ny314.out] at ho; have n0_ := Aside0.mk (Kd.R_after (ok := (fun _ => True)) (by (with_reducible repeat (first | apply Kd.R_alloc | apply Kd.R_drewN | apply Kd.R_drew)); exact Kd.R_mono HO_8.out (fun _ hk => ⟨trivial, hk⟩)) hg hat); have n1_ := Aside0.mk (blk_grown (g := gb290) (o := .cells #[.int .i64 a0_0, .slice (some ad291) l0_1.length c0_1, .int .i64 a0_2] 24 (0, 0)) (by (with_reducible repeat (first | refine blk_drewN ?_ _ | refine blk_drew ?_ | refine blk_alloc ?_ _)); exact BK290.out) hg (Kd.R_ne HO_5.out BK290.out (by decide))); have n2_ := Aside0.mk (blk_grown (g := gb292) (o := .cells #[.int .i64 ((rd_T52 l0_1 x15_1).f0), .int .i64 ((rd_T52 l0_1 x15_1).f1), .slice A291_2 ((rd_T52 l0_1 x15_1).f2).length c291_2] 52 (0, 0)) (by (with_reducible repeat (first | refine blk_drewN ?_ _ | refine blk_drew ?_ | refine blk_alloc ?_ _)); exact BK292.out) hg (Kd.R_ne HO_5.out BK292.out (by decide))); have n3_ := Aside0.mk (hb); have n4_ := Aside0.mk (ho); clear HO_8; clear BK290; clear BK292; clear HB; clear HO_5; have HO_8 := n0_; have BK290 := n1_; have BK292 := n2_; have HB := n3_; have HO316 := n4_; clear n0_ n1_ n2_ n3_ n4_; clear ho hb hg hat))
                            go_roundg k2
                            case measure => have := HK1.out; have := HK2.out; omega
                            case rel => exact ⟨(y314), (wrap64 (x15_1 + 1)), (by first | rfl | (simp; done) | (simp [*]; done)), H', ⟨by have := HK1.out; have := HK2.out; omega⟩, ⟨by (with_reducible repeat (first | apply Kd.R_alloc | apply Kd.R_drewN | apply Kd.R_drew)); exact Kd.R_mono HO316.out (fun _ hk => trivial)⟩, ⟨by (with_reducible repeat (first | refine blk_drewN ?_ _ | refine blk_drew ?_ | refine blk_alloc ?_ _)); exact BK290.out⟩, ⟨by repeat (first | (with_reducible first | exact HB.out | apply below_alloc | apply pw_below_drewN | apply below_drew1 | refine below_set ?_ GE290.out | refine below_set ?_ GE292.out) | exact HB.out)⟩⟩
                          · rw [if_neg c45] at H
                            exact absurd H (by simp)
                        · rw [if_neg c43] at H
                          have c43b0 : (((rd_T52 l0_1 x15_1).f0) == 5) = false := beq_eq_false_iff_ne.mpr c43
                          have c43b1 : (((rd_T52 l0_1 x15_1).f0) != 5) = true := bne_iff_ne.mpr c43
                          by_cases c50 : ((rd_T52 l0_1 x15_1).f0) = 6
                          · rw [if_pos c50] at H
                            have c50b0 : (((rd_T52 l0_1 x15_1).f0) == 6) = true := beq_iff_eq.mpr c50
                            have c50b1 : (((rd_T52 l0_1 x15_1).f0) != 6) = false := bne_eq_false_iff_eq.mpr c50
                            clear c50
                            replace H := Option.bind_eq_some_iff.mp H
                            obtain ⟨t317, A510, H⟩ := H
                            replace H : (if x5_1.length < 17592186044416 then (pentaglotref28_Values.l0 k2 l1 (x5_1 ++ [t317]) l0_1 (l0_1.length : Int) (wrap64 (x15_1 + 1))) else (none)) = some r := H
                            have A51 := Aside0.mk A510
                            clear A510
                            by_cases c52 : x5_1.length < 17592186044416
                            · rw [if_pos c52] at H
                              have LMc52 := Aside0.mk c52
                              clear c52
                              obtain ⟨y318, hy318⟩ : ∃ y_ : List Int, y_ = (x5_1 ++ [t317]) := ⟨_, rfl⟩
                              replace H : (pentaglotref28_Values.l0 k2 l1 y318 l0_1 (l0_1.length : Int) (wrap64 (x15_1 + 1))) = some r := by first | (rw [hy318]; with_reducible exact H) | (have H2_ := (Option.bind_some _ _).symm.trans H; rw [hy318]; with_reducible exact H2_) | (have H2_ := (Option.bind_some _ _).symm.trans H; with_reducible exact H2_) | with_reducible exact H | (rw [hy318]; exact H) | exact H
                              have Ny318 := Aside0.mk hy318
                              clear hy318
                              have H' := Aside0.mk H
                              clear H
                              have hnb53 := NB292_290.out
                              have hnc53 := NB290_292.out
                              have hcz54_0 : wr.cell? ⟨gb292, 0, none⟩ = some (.int .i64 ((rd_T52 l0_1 x15_1).f0)) := (blk_cell BK292.out 0).trans rfl
                              have hcz54_1 : wr.cell? ⟨gb292, 1, none⟩ = some (.int .i64 ((rd_T52 l0_1 x15_1).f1)) := (blk_cell BK292.out 1).trans rfl
                              have hcz54_2 : wr.cell? ⟨gb292, 2, none⟩ = some (.slice A291_2 ((rd_T52 l0_1 x15_1).f2).length c291_2) := (blk_cell BK292.out 2).trans rfl
                              have hfz54_0 := blk_frozen BK292.out 0
                              have hfz54_1 := blk_frozen BK292.out 1
                              have hfz54_2 := blk_frozen BK292.out 2
                              obtain ⟨Ao55, co55, eo55⟩ := Kd.R_slice HO_8.out
                              subst eo55
                              go_wp2_with (first | ((with_reducible refine gate_callee (f := 42) rfl ?_); refine goesL_ (some 60) rfl rfl Try.func42 (by kernel_rfl) rfl #[.int .i64 1, .slice Ao55 x8_2.length co55] rfl (by (try simp only [List.map_toArray, List.map_cons, List.map_nil]); first | done | rfl | (simp only [List.length_drop, List.length_take]; rfl)) ?_; (with_reducible refine (pentaglotref28_join.calls k2 1 _ _ x8_2 t317 _ ?side1 ?side2 A51.out).mono ?_); (case side1 => repeat (first | exact (Kd.R_reads' HO_8.out).2.2 | (with_reducible refine Kd.C_alloc ?_ _) | (with_reducible refine Kd.C_drewN ?_ _) | (with_reducible refine Kd.C_drew ?_))); (case side2 => exact (Kd.R_reads' HO_8.out).2.1); rintro e w' ⟨rfl, ⟨nd, rfl⟩⟩; refine ⟨_, rfl, ?_⟩) | ((with_reducible refine gate_builtin (b := .append) (xs := #[.tmp 61, .tmp 63]) rfl ?_); at_builtin; refine Kd.R_append (Kd.int .i64) (w0 := w) w.heap.size rfl (.tmp 61) (.tmp 63) 33 3 (.int .i64 0) 8 rfl Try.underlying33 info3 rfl (by decide) (by omega) u5 x5_1 t317 [.int .i64 t317] (fun k_ => some k_ ≠ (.slice Ao55 x8_2.length co55 : Value).ownBlock) (fun _ => False) rfl rfl ?aP (fun _ hk => hk.elim) ?aF ?aO ?aB ?aS ?aL ?_; (case aP => exact rfl); (case aB => exact (by repeat (first | (with_reducible first | exact HB.out | apply below_alloc | apply pw_below_drewN | apply below_drew1 | refine below_set ?_ GE290.out | refine below_set ?_ GE292.out) | exact HB.out))); (case aF => exact (fun k_ hk => Kd.fresh' (Kd.R_lt (by (with_reducible repeat (first | apply Kd.R_alloc | apply Kd.R_drewN | apply Kd.R_drew)); exact HO_8.out)) k_ hk)); (case aO => exact (by (with_reducible repeat (first | apply Kd.R_alloc | apply Kd.R_drewN | apply Kd.R_drew)); exact HO_5.out)); (case aS => exact (below_size (by repeat (first | (with_reducible first | exact HB.out | apply below_alloc | apply pw_below_drewN | apply below_drew1 | refine below_set ?_ GE290.out | refine below_set ?_ GE292.out) | exact HB.out)))); (case aL => have := LMc52.out; omega); intro v319 w56 ho hb hg hat; rw [← Ny318.out] at ho; have n0_ := Aside0.mk (Kd.R_after (ok := (fun _ => True)) (by (with_reducible repeat (first | apply Kd.R_alloc | apply Kd.R_drewN | apply Kd.R_drew)); exact Kd.R_mono HO_8.out (fun _ hk => ⟨trivial, hk⟩)) hg hat); have n1_ := Aside0.mk (blk_grown (g := gb290) (o := .cells #[.int .i64 a0_0, .slice (some ad291) l0_1.length c0_1, .int .i64 a0_2] 24 (0, 0)) (by (with_reducible repeat (first | refine blk_drewN ?_ _ | refine blk_drew ?_ | refine blk_alloc ?_ _)); exact BK290.out) hg (Kd.R_ne HO_5.out BK290.out (by decide))); have n2_ := Aside0.mk (blk_grown (g := gb292) (o := .cells #[.int .i64 ((rd_T52 l0_1 x15_1).f0), .int .i64 ((rd_T52 l0_1 x15_1).f1), .slice A291_2 ((rd_T52 l0_1 x15_1).f2).length c291_2] 52 (0, 0)) (by (with_reducible repeat (first | refine blk_drewN ?_ _ | refine blk_drew ?_ | refine blk_alloc ?_ _)); exact BK292.out) hg (Kd.R_ne HO_5.out BK292.out (by decide))); have n3_ := Aside0.mk (hb); have n4_ := Aside0.mk (ho); clear HO_8; clear BK290; clear BK292; clear HB; clear HO_5; have HO_8 := n0_; have BK290 := n1_; have BK292 := n2_; have HB := n3_; have HO320 := n4_; clear n0_ n1_ n2_ n3_ n4_; clear ho hb hg hat))
                              go_roundg k2
                              case measure => have := HK1.out; have := HK2.out; omega
                              case rel => exact ⟨(y318), (wrap64 (x15_1 + 1)), (by first | rfl | (simp; done) | (simp [*]; done)), H', ⟨by have := HK1.out; have := HK2.out; omega⟩, ⟨by (with_reducible repeat (first | apply Kd.R_alloc | apply Kd.R_drewN | apply Kd.R_drew)); exact Kd.R_mono HO320.out (fun _ hk => trivial)⟩, ⟨by (with_reducible repeat (first | refine blk_drewN ?_ _ | refine blk_drew ?_ | refine blk_alloc ?_ _)); exact BK290.out⟩, ⟨by repeat (first | (with_reducible first | exact HB.out | apply below_alloc | apply pw_below_drewN | apply below_drew1 | refine below_set ?_ GE290.out | refine below_set ?_ GE292.out) | exact HB.out)⟩⟩
                            · rw [if_neg c52] at H
                              exact absurd H (by simp)
                          · rw [if_neg c50] at H
                            have c50b0 : (((rd_T52 l0_1 x15_1).f0) == 6) = false := beq_eq_false_iff_ne.mpr c50
                            have c50b1 : (((rd_T52 l0_1 x15_1).f0) != 6) = true := bne_iff_ne.mpr c50
                            by_cases c57 : x5_1.length < 17592186044416
                            · rw [if_pos c57] at H
                              have LMc57 := Aside0.mk c57
                              clear c57
                              obtain ⟨y321, hy321⟩ : ∃ y_ : List Int, y_ = (x5_1 ++ [0]) := ⟨_, rfl⟩
                              replace H : (pentaglotref28_Values.l0 k2 l1 y321 l0_1 (l0_1.length : Int) (wrap64 (x15_1 + 1))) = some r := by first | (rw [hy321]; with_reducible exact H) | (have H2_ := (Option.bind_some _ _).symm.trans H; rw [hy321]; with_reducible exact H2_) | (have H2_ := (Option.bind_some _ _).symm.trans H; with_reducible exact H2_) | with_reducible exact H | (rw [hy321]; exact H) | exact H
                              have Ny321 := Aside0.mk hy321
                              clear hy321
                              have H' := Aside0.mk H
                              clear H
                              have hnb58 := NB292_290.out
                              have hnc58 := NB290_292.out
                              have hcz59_0 : wr.cell? ⟨gb292, 0, none⟩ = some (.int .i64 ((rd_T52 l0_1 x15_1).f0)) := (blk_cell BK292.out 0).trans rfl
                              have hcz59_1 : wr.cell? ⟨gb292, 1, none⟩ = some (.int .i64 ((rd_T52 l0_1 x15_1).f1)) := (blk_cell BK292.out 1).trans rfl
                              have hcz59_2 : wr.cell? ⟨gb292, 2, none⟩ = some (.slice A291_2 ((rd_T52 l0_1 x15_1).f2).length c291_2) := (blk_cell BK292.out 2).trans rfl
                              have hfz59_0 := blk_frozen BK292.out 0
                              have hfz59_1 := blk_frozen BK292.out 1
                              have hfz59_2 := blk_frozen BK292.out 2
                              go_wp2_with (first | ((with_reducible refine gate_builtin (b := .append) (xs := #[.tmp 61, .tmp 63]) rfl ?_); at_builtin; refine Kd.R_append (Kd.int .i64) (w0 := w) w.heap.size rfl (.tmp 61) (.tmp 63) 33 3 (.int .i64 0) 8 rfl Try.underlying33 info3 rfl (by decide) (by omega) u5 x5_1 0 [.int .i64 0] (fun k_ => some k_ ≠ (u8 : Value).ownBlock) (fun _ => False) rfl rfl ?aP (fun _ hk => hk.elim) ?aF ?aO ?aB ?aS ?aL ?_; (case aP => exact rfl); (case aB => exact (by repeat (first | (with_reducible first | exact HB.out | apply below_alloc | apply pw_below_drewN | apply below_drew1 | refine below_set ?_ GE290.out | refine below_set ?_ GE292.out) | exact HB.out))); (case aF => exact (fun k_ hk => Kd.fresh' (Kd.R_lt (by (with_reducible repeat (first | apply Kd.R_alloc | apply Kd.R_drewN | apply Kd.R_drew)); exact HO_8.out)) k_ hk)); (case aO => exact (by (with_reducible repeat (first | apply Kd.R_alloc | apply Kd.R_drewN | apply Kd.R_drew)); exact HO_5.out)); (case aS => exact (below_size (by repeat (first | (with_reducible first | exact HB.out | apply below_alloc | apply pw_below_drewN | apply below_drew1 | refine below_set ?_ GE290.out | refine below_set ?_ GE292.out) | exact HB.out)))); (case aL => have := LMc57.out; omega); intro v322 w60 ho hb hg hat; rw [← Ny321.out] at ho; have n0_ := Aside0.mk (Kd.R_after (ok := (fun _ => True)) (by (with_reducible repeat (first | apply Kd.R_alloc | apply Kd.R_drewN | apply Kd.R_drew)); exact Kd.R_mono HO_8.out (fun _ hk => ⟨trivial, hk⟩)) hg hat); have n1_ := Aside0.mk (blk_grown (g := gb290) (o := .cells #[.int .i64 a0_0, .slice (some ad291) l0_1.length c0_1, .int .i64 a0_2] 24 (0, 0)) (by (with_reducible repeat (first | refine blk_drewN ?_ _ | refine blk_drew ?_ | refine blk_alloc ?_ _)); exact BK290.out) hg (Kd.R_ne HO_5.out BK290.out (by decide))); have n2_ := Aside0.mk (blk_grown (g := gb292) (o := .cells #[.int .i64 ((rd_T52 l0_1 x15_1).f0), .int .i64 ((rd_T52 l0_1 x15_1).f1), .slice A291_2 ((rd_T52 l0_1 x15_1).f2).length c291_2] 52 (0, 0)) (by (with_reducible repeat (first | refine blk_drewN ?_ _ | refine blk_drew ?_ | refine blk_alloc ?_ _)); exact BK292.out) hg (Kd.R_ne HO_5.out BK292.out (by decide))); have n3_ := Aside0.mk (hb); have n4_ := Aside0.mk (ho); clear HO_8; clear BK290; clear BK292; clear HB; clear HO_5; have HO_8 := n0_; have BK290 := n1_; have BK292 := n2_; have HB := n3_; have HO323 := n4_; clear n0_ n1_ n2_ n3_ n4_; clear ho hb hg hat))
                              go_roundg k2
                              case measure => have := HK1.out; have := HK2.out; omega
                              case rel => exact ⟨(y321), (wrap64 (x15_1 + 1)), (by first | rfl | (simp; done) | (simp [*]; done)), H', ⟨by have := HK1.out; have := HK2.out; omega⟩, ⟨by (with_reducible repeat (first | apply Kd.R_alloc | apply Kd.R_drewN | apply Kd.R_drew)); exact Kd.R_mono HO323.out (fun _ hk => trivial)⟩, ⟨by (with_reducible repeat (first | refine blk_drewN ?_ _ | refine blk_drew ?_ | refine blk_alloc ?_ _)); exact BK290.out⟩, ⟨by repeat (first | (with_reducible first | exact HB.out | apply below_alloc | apply pw_below_drewN | apply below_drew1 | refine below_set ?_ GE290.out | refine below_set ?_ GE292.out) | exact HB.out)⟩⟩
                            · rw [if_neg c57] at H
                              exact absurd H (by simp)
          · rw [if_neg c7] at H
            exact absurd H (by simp)
        · rw [if_neg c6] at H
          exact absurd H (by simp)
      · rw [if_neg c5] at H
        have c5b0 : decide (x15_1 < (l0_1.length : Int)) = false := decide_eq_false c5
        clear c5
        obtain rfl := Option.some.inj H
        go_wp2
        go_ret
        exact ⟨_, by first | rfl | (simp [errW_none, errW_some] <;> rfl) | (simp [*, errW_none, errW_some] <;> rfl), by (with_reducible repeat (first | apply Kd.R_alloc | apply Kd.R_drewN | apply Kd.R_drew)); exact HO_5.out, by repeat (first | (with_reducible first | exact HB.out | apply below_alloc | apply pw_below_drewN | apply below_drew1 | refine below_set ?_ GE290.out) | exact HB.out)⟩

/-! ### pentaglotref28_Three: function 21, by hand -/
def pentaglotref28_Three.f (k : Nat) (a0_0 : Int) (l0_1 : List (S52)) (a0_2 : Int) (l1 : List Int) : Option Int := (pentaglotref28_Values.f k a0_0 l0_1 a0_2 l1).bind fun t165 => (if 0 ≤ a0_2 then (if a0_2 < (t165.length : Int) then (some (rd t165 a0_2)) else (none)) else (none))
theorem pentaglotref28_Three.mono (a0_0 : Int) (l0_1 : List (S52)) (a0_2 : Int) (l1 : List Int) (k : Nat) : LeO (pentaglotref28_Three.f k a0_0 l0_1 a0_2 l1) (pentaglotref28_Three.f (k + 1) a0_0 l0_1 a0_2 l1) :=
  LeO.bind (pentaglotref28_Values.mono _ _ _ _ _) (fun t => LeO.refl _)
set_option maxHeartbeats 8000000 in
set_option maxRecDepth 100000 in
theorem pentaglotref28_Three.calls (k : Nat) (a0_0 : Int) (A0_1 : Option Addr) (c0_1 : Nat) (l0_1 : List (S52)) (a0_2 : Int) (A1 : Option Addr) (c1 : Nat) (l1 : List Int) (r : Int) (w : World) (hr0_1 : Kd.C k52 w A0_1 l0_1.length l0_1) (hc0_1 : l0_1.length ≤ c0_1) (hr1 : Kd.C (Kd.int .i64) w A1 l1.length l1) (hc1 : l1.length ≤ c1) (h : pentaglotref28_Three.f k a0_0 l0_1 a0_2 l1 = some r) :
    Calls Try.prog 21 #[.agg #[.int .i64 a0_0, .slice A0_1 l0_1.length c0_1, .int .i64 a0_2], .slice A1 l1.length c1] w fun e w' => e = .returned (.int .i64 r) ∧ Below w.heap.size w w' := by
  obtain ⟨t, ht, h2⟩ := Option.bind_eq_some_iff.1 h
  by_cases h0 : 0 ≤ a0_2
  case neg => rw [if_neg h0] at h2; cases h2
  rw [if_pos h0] at h2
  by_cases h1 : a0_2 < (t.length : Int)
  case neg => rw [if_neg h1] at h2; cases h2
  rw [if_pos h1] at h2
  obtain rfl := Option.some.inj h2
  clear h h2
  have hcall := fun (W : World) (hW : Below w.heap.size w W) => pentaglotref28_Values.calls k a0_0 A0_1 c0_1 l0_1 a0_2 A1 c1 l1 t W (Kd.C_below hr0_1 hW) hc0_1 (Kd.C_below hr1 hW) hc1 ht
  clear hr0_1 hr1 ht
  have hu24 := Try.underlying24
  go_enter Try.func21, Try.ntmps21
  go_wp2_with fail
  go_region_with (go_at_call 36; refine (hcall _ (by repeat (first | exact Below.refl _ _ | apply below_alloc | apply pw_below_drewN | apply below_drew1))).mono ?_; rintro e w1 ⟨v, rfl, hv, hb⟩; obtain ⟨Av, cv, rfl, hcv, hCv⟩ := Kd.R_reads hv; obtain ⟨adv, rfl, hxv⟩ := ReadsOf.at_ (Kd.reads_of_C (d := (0 : Int)) hCv) a0_2 h0 h1; have hz : w1.cell? ⟨w.heap.size, 2, none⟩ = some (.int .i64 a0_2) := (hb.cell (p := ⟨w.heap.size, 2, none⟩) (by simp)).trans (by simp); have HB := Aside0.mk hb; clear hv hb hcv hCv)
  all_goals go_wp2
  all_goals go_ret
  all_goals exact ⟨rfl, (by repeat (first | exact Below.refl _ _ | apply below_alloc | apply pw_below_drewN | apply below_drew1) : Below w.heap.size w _).trans (HB.out.mono (by simp))⟩

end Go.Proofs.Ytflknolnclnhfaa.P
