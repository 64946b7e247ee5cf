-- Written by the session's own program wip/tools/xprint.py out of the translation, with the kit's print.py on a scratch copy; functions given by hand stand among them.
import Derived.Test.YtflknolnclnhfaaPx0
namespace Go.Proofs.Ytflknolnclnhfaa.P
open Go.RowKit Go.Proofs.YtflknolnclnhfaaW.PrintWords Go.Proofs.YtflknolnclnhfaaW.PrintLast Go.Proofs.YtflknolnclnhfaaW.PrintMore
attribute [local go_sem] max2_int min2_int max_two min_two max_three min_three max_four min_four   -- for this text's walks alone
set_option linter.unusedVariables false
set_option linter.unusedSimpArgs false

/-! ### sat_wellFormed: function 31 -/
mutual
def sat_wellFormed.l0 : Nat → Int → List Int → Int → Int → Int → List (S52) → Int → Int → Int → List Int → Option (Bool)
  | 0, _, _, _, _, _, _, _, _, _, _ => none
  | k + 1, x1, x14, x15, x16, x102000, x102001, x102002, x104000, x104001, x104002 => if x16 < x15 then (if 0 ≤ x16 then (if x16 < (x14.length : Int) then (if (rd x14 x16) < 0 then (some false) else (if (rd x14 x16) ≥ x1 then (some false) else (sat_wellFormed.l0 k x1 x14 x15 (wrap64 (x16 + 1)) x102000 x102001 x102002 x104000 x104001 x104002))) else (none)) else (none)) else (if x104000 = 1 then (sat_wellFormed.j1 k x104000 (x104000 == 1) x102000 x102001 x102002 x104000 x104001 x104002) else (sat_wellFormed.j1 k x104000 (x104000 == 2) x102000 x102001 x102002 x104000 x104001 x104002))
def sat_wellFormed.j1 : Nat → Int → Bool → Int → List (S52) → Int → Int → Int → List Int → Option (Bool)
  | 0, _, _, _, _, _, _, _, _ => none
  | k + 1, x29, x30, x102000, x102001, x102002, x104000, x104001, x104002 => if x30 = true then (if x104001 = 0 then (some ((x104002.length : Int) == 0)) else (some false)) else (if x29 = 3 then (if x104001 ≥ 0 then (if x104001 < x102000 then (some ((x104002.length : Int) == 0)) else (some false)) else (some false)) else (if x29 = 4 then (if x104001 = 0 then (some ((x104002.length : Int) == 1)) else (some false)) else (if x29 = 5 then (some (x104001 == 0)) else (if x29 = 6 then (some (x104001 == 0)) else (some false)))))
end
def sat_wellFormed.f (k : Nat) (a0_0 : Int) (l0_1 : List (S52)) (a0_2 : Int) (a1 : Int) : Option (Bool) := if 0 ≤ a1 then (if a1 < (l0_1.length : Int) then (sat_wellFormed.l0 k a1 ((rd_T52 l0_1 a1).f2) (((rd_T52 l0_1 a1).f2).length : Int) 0 a0_0 l0_1 a0_2 ((rd_T52 l0_1 a1).f0) ((rd_T52 l0_1 a1).f1) ((rd_T52 l0_1 a1).f2)) else (none)) else (none)
theorem sat_wellFormed.mono_l : ∀ k, (∀ y0 y1 y2 y3 y4 y5 y6 y7 y8 y9, LeO (sat_wellFormed.l0 k y0 y1 y2 y3 y4 y5 y6 y7 y8 y9) (sat_wellFormed.l0 (k + 1) y0 y1 y2 y3 y4 y5 y6 y7 y8 y9)) ∧ (∀ y0 y1 y2 y3 y4 y5 y6 y7, LeO (sat_wellFormed.j1 k y0 y1 y2 y3 y4 y5 y6 y7) (sat_wellFormed.j1 (k + 1) y0 y1 y2 y3 y4 y5 y6 y7))
  | 0 => ⟨fun _ _ _ _ _ _ _ _ _ _ r h => by simp [sat_wellFormed.l0] at h, fun _ _ _ _ _ _ _ _ r h => by simp [sat_wellFormed.j1] at h⟩
  | k + 1 => by
    obtain ⟨ih0, ih1⟩ := sat_wellFormed.mono_l k
    refine ⟨?_, ?_⟩
    · intro y0 y1 y2 y3 y4 y5 y6 y7 y8 y9
      unfold sat_wellFormed.l0
      repeat' first
      | (with_reducible exact ih0 _ _ _ _ _ _ _ _ _ _)
      | (with_reducible exact ih1 _ _ _ _ _ _ _ _)
      | (with_reducible exact LeO.refl _)
      | (with_reducible exact LeO.none _)
      | (with_reducible refine LeO.ite ?_ ?_)
      | (with_reducible refine LeO.bind ?_ (fun _ => ?_))
      | exact ih0 _ _ _ _ _ _ _ _ _ _
      | exact ih1 _ _ _ _ _ _ _ _
      | exact LeO.none _
      | refine LeO.ite ?_ ?_
      | refine LeO.bind ?_ (fun _ => ?_)
    · intro y0 y1 y2 y3 y4 y5 y6 y7
      unfold sat_wellFormed.j1
      repeat' first
      | (with_reducible exact ih0 _ _ _ _ _ _ _ _ _ _)
      | (with_reducible exact ih1 _ _ _ _ _ _ _ _)
      | (with_reducible exact LeO.refl _)
      | (with_reducible exact LeO.none _)
      | (with_reducible refine LeO.ite ?_ ?_)
      | (with_reducible refine LeO.bind ?_ (fun _ => ?_))
      | exact ih0 _ _ _ _ _ _ _ _ _ _
      | exact ih1 _ _ _ _ _ _ _ _
      | exact LeO.none _
      | refine LeO.ite ?_ ?_
      | refine LeO.bind ?_ (fun _ => ?_)
theorem sat_wellFormed.mono : ∀ a0 a1 a2 a3 k, LeO (sat_wellFormed.f k a0 a1 a2 a3) (sat_wellFormed.f (k + 1) a0 a1 a2 a3) := by
  intro a0 a1 a2 a3 k
  obtain ⟨ih0, ih1⟩ := sat_wellFormed.mono_l k
  unfold sat_wellFormed.f
  repeat' first
      | (with_reducible exact ih0 _ _ _ _ _ _ _ _ _ _)
      | (with_reducible exact ih1 _ _ _ _ _ _ _ _)
      | (with_reducible exact LeO.refl _)
      | (with_reducible exact LeO.none _)
      | (with_reducible refine LeO.ite ?_ ?_)
      | (with_reducible refine LeO.bind ?_ (fun _ => ?_))
      | exact ih0 _ _ _ _ _ _ _ _ _ _
      | exact ih1 _ _ _ _ _ _ _ _
      | exact LeO.none _
      | refine LeO.ite ?_ ?_
      | refine LeO.bind ?_ (fun _ => ?_)
set_option maxHeartbeats 8000000 in
set_option maxRecDepth 100000 in
theorem sat_wellFormed.calls (k : Nat) (a0_0 : Int) (A0_1 : Option Addr) (c0_1 : Nat) (l0_1 : List (S52)) (a0_2 : Int) (a1 : Int) (r : Bool) (w : World) (hr0_1 : Kd.C k52 w A0_1 l0_1.length l0_1) (hc0_1 : l0_1.length ≤ c0_1) (h : sat_wellFormed.f k a0_0 l0_1 a0_2 a1 = some r) :
    Calls Try.prog 31 #[.agg #[.int .i64 a0_0, .slice A0_1 l0_1.length c0_1, .int .i64 a0_2], .int .i64 a1] w fun e w' => e = .returned (.bool r) ∧ Below w.heap.size w w' := by
  have hu24 := Try.underlying24
  have hu52 := Try.underlying52
  have HR0_1 := Aside0.mk hr0_1
  have HC0_1 := Aside0.mk hc0_1
  clear hr0_1 hc0_1
  have HB := Aside0.mk (Below.refl w.heap.size w)
  have H : (if 0 ≤ a1 then (if a1 < (l0_1.length : Int) then (sat_wellFormed.l0 k a1 ((rd_T52 l0_1 a1).f2) (((rd_T52 l0_1 a1).f2).length : Int) 0 a0_0 l0_1 a0_2 ((rd_T52 l0_1 a1).f0) ((rd_T52 l0_1 a1).f1) ((rd_T52 l0_1 a1).f2)) else (none)) else (none)) = some r := h
  clear h
  by_cases c3 : 0 ≤ a1
  · rw [if_pos c3] at H
    have c3b0 : decide (0 ≤ a1) = true := decide_eq_true c3
    clear c3
    by_cases c4 : a1 < (l0_1.length : Int)
    · rw [if_pos c4] at H
      have c4b0 : decide (a1 < (l0_1.length : Int)) = true := decide_eq_true c4
      clear c4
      have H' := Aside0.mk H
      clear H
      go_enter Try.func31, Try.ntmps31
      go_wp2_with (first | ((with_reducible refine gate_dst (N := 2) rfl ?_); (try (refine gate_guard (by rfl) ?_; dsimp only)); refine box_event ?hg (N := 2) ?hd (cs := #[.int .i64 a0_0, .slice A0_1 l0_1.length c0_1, .int .i64 a0_2]) (t := 24) ?hr ?_; (case hd => rfl); (case hg => rfl); (case hr => first | (go_simp; done) | (go_simp; rfl)); intro gb101 hg w5 hbox hb; have n0_ := Aside0.mk (below_step (by repeat (first | (with_reducible first | exact HB.out | apply below_alloc | apply pw_below_drewN | apply below_drew1) | exact HB.out)) hb); have n1_ := Aside0.mk (hbox); have n2_ := Aside0.mk ((by rw [hg]; exact (below_size (by repeat (first | (with_reducible first | exact HB.out | apply below_alloc | apply pw_below_drewN | apply below_drew1) | exact HB.out))) : w.heap.size ≤ gb101)); have n3_ := Aside0.mk ((by rw [hg]; exact (below_size (by repeat (first | (with_reducible first | exact HB.out | apply below_alloc | apply pw_below_drewN | apply below_drew1) | exact HB.out))) : w.heap.size ≤ gb101)); clear HB; have HB := n0_; have BK101 := n1_; have GW101 := n2_; have GE101 := n3_; clear n0_ n1_ n2_ n3_; clear hb hbox hg; have hcz6_0 : w5.cell? ⟨gb101, 0, none⟩ = some (.int .i64 a0_0) := (blk_cell BK101.out 0).trans rfl; have hcz6_1 : w5.cell? ⟨gb101, 1, none⟩ = some (.slice A0_1 l0_1.length c0_1) := (blk_cell BK101.out 1).trans rfl; have hcz6_2 : w5.cell? ⟨gb101, 2, none⟩ = some (.int .i64 a0_2) := (blk_cell BK101.out 2).trans rfl; have hfz6_0 := blk_frozen BK101.out 0; have hfz6_1 := blk_frozen BK101.out 1; have hfz6_2 := blk_frozen BK101.out 2; have p102 : 0 ≤ (a1 : Int) := of_decide_eq_true (by first | (with_reducible assumption) | assumption); have q102 : a1 < (l0_1.length : Int) := of_decide_eq_true (by first | (with_reducible assumption) | assumption); obtain ⟨ad102, A102_2, c102_2, e102, hx102_0, hx102_1, hx102_2, hl102_2, hi102_2⟩ := at_T52 HR0_1.out a1 p102 q102; cases e102; replace hx102_0 := (HB.out.cell (World.block_lt_of_cell? w _ hx102_0)).trans hx102_0; replace hx102_1 := (HB.out.cell (World.block_lt_of_cell? w _ hx102_1)).trans hx102_1; replace hx102_2 := (HB.out.cell (World.block_lt_of_cell? w _ hx102_2)).trans hx102_2; have HR102_2 := Aside0.mk hi102_2; have HC102_2 := Aside0.mk hl102_2; clear hi102_2 hl102_2; replace p102 := eq_true p102; replace q102 := eq_true q102) | ((with_reducible refine gate_dst (N := 5) rfl ?_); (try (refine gate_guard (by rfl) ?_; dsimp only)); refine box_event ?hg (N := 5) ?hd (cs := #[.int .i64 0, .int .i64 0, .slice none 0 0]) (t := 52) ?hr ?_; (case hd => rfl); (case hg => rfl); (case hr => first | (go_simp; done) | (go_simp; rfl)); intro gb103 hg w7 hbox hb; have n0_ := Aside0.mk (blk_below (g := gb101) (o := .cells #[.int .i64 a0_0, .slice (some ad102) l0_1.length c0_1, .int .i64 a0_2] 24 (0, 0)) (by (with_reducible repeat (first | refine blk_drewN ?_ _ | refine blk_drew ?_ | refine blk_alloc ?_ _)); exact BK101.out) hb); have n1_ := Aside0.mk (below_step (by repeat (first | (with_reducible first | exact HB.out | apply below_alloc | apply pw_below_drewN | apply below_drew1 | refine below_set ?_ GE101.out) | exact HB.out)) hb); have n2_ := Aside0.mk (hbox); have n3_ := Aside0.mk ((by rw [hg]; exact (below_size (by repeat (first | (with_reducible first | exact HB.out | apply below_alloc | apply pw_below_drewN | apply below_drew1 | refine below_set ?_ GE101.out) | exact HB.out))) : w.heap.size ≤ gb103)); have n4_ := Aside0.mk ((by rw [hg]; exact (below_size (by repeat (first | (with_reducible first | exact HB.out | apply below_alloc | apply pw_below_drewN | apply below_drew1 | refine below_set ?_ GE101.out) | exact HB.out))) : w.heap.size ≤ gb103)); have n5_ := Aside0.mk ((by rw [hg]; exact Nat.ne_of_lt (blk_lt (g := gb101) (o := .cells #[.int .i64 a0_0, .slice (some ad102) l0_1.length c0_1, .int .i64 a0_2] 24 (0, 0)) (by (with_reducible repeat (first | refine blk_drewN ?_ _ | refine blk_drew ?_ | refine blk_alloc ?_ _)); exact BK101.out)) : gb101 ≠ gb103)); have n6_ := Aside0.mk ((by rw [hg]; exact Nat.ne_of_gt (blk_lt (g := gb101) (o := .cells #[.int .i64 a0_0, .slice (some ad102) l0_1.length c0_1, .int .i64 a0_2] 24 (0, 0)) (by (with_reducible repeat (first | refine blk_drewN ?_ _ | refine blk_drew ?_ | refine blk_alloc ?_ _)); exact BK101.out)) : gb103 ≠ gb101)); clear BK101; clear HB; have BK101 := n0_; have HB := n1_; have BK103 := n2_; have GW103 := n3_; have GE103 := n4_; have NB101_103 := n5_; have NB103_101 := n6_; clear n0_ n1_ n2_ n3_ n4_ n5_ n6_; clear hb hbox hg; have hnb8 := NB103_101.out; have hnc8 := NB101_103.out; have hcz9_0 : w7.cell? ⟨gb103, 0, none⟩ = some (.int .i64 0) := (blk_cell BK103.out 0).trans rfl; have hcz9_1 : w7.cell? ⟨gb103, 1, none⟩ = some (.int .i64 0) := (blk_cell BK103.out 1).trans rfl; have hcz9_2 : w7.cell? ⟨gb103, 2, none⟩ = some (.slice none 0 0) := (blk_cell BK103.out 2).trans rfl; have hfz9_0 := blk_frozen BK103.out 0; have hfz9_1 := blk_frozen BK103.out 1; have hfz9_2 := blk_frozen BK103.out 2))
      go_loopg [16] k (fun kq v16 w' => ∃ (x16_1 : Int), v16 = .int .i64 x16_1 ∧ Aside0 (sat_wellFormed.l0 kq a1 ((rd_T52 l0_1 a1).f2) (((rd_T52 l0_1 a1).f2).length : Int) x16_1 a0_0 l0_1 a0_2 ((rd_T52 l0_1 a1).f0) ((rd_T52 l0_1 a1).f1) ((rd_T52 l0_1 a1).f2) = some r) ∧ Aside0 (kq ≤ k) ∧ Aside0 (w'.heap[gb101]? = some (.cells #[.int .i64 a0_0, (.slice (some ad102) l0_1.length c0_1), .int .i64 a0_2] 24 (0, 0))) ∧ Aside0 (w'.heap[gb103]? = some (.cells #[.int .i64 ((rd_T52 l0_1 a1).f0), .int .i64 ((rd_T52 l0_1 a1).f1), (.slice A102_2 ((rd_T52 l0_1 a1).f2).length c102_2)] 52 (0, 0))) ∧ Aside0 (Below w.heap.size w w'))
      case atStart => exact ⟨(0), (by first | rfl | (simp; done) | (simp [*]; done)), H', ⟨Nat.le_refl _⟩, ⟨by (with_reducible repeat (first | refine blk_drewN ?_ _ | refine blk_drew ?_ | refine blk_alloc ?_ _)); refine blk_far ?_ NB101_103.out _; (with_reducible repeat (first | refine blk_drewN ?_ _ | refine blk_drew ?_ | refine blk_alloc ?_ _)); refine blk_far ?_ NB101_103.out _; (with_reducible repeat (first | refine blk_drewN ?_ _ | refine blk_drew ?_ | refine blk_alloc ?_ _)); refine blk_far ?_ NB101_103.out _; (with_reducible repeat (first | refine blk_drewN ?_ _ | refine blk_drew ?_ | refine blk_alloc ?_ _)); exact BK101.out⟩, ⟨by (with_reducible repeat (first | refine blk_drewN ?_ _ | refine blk_drew ?_ | refine blk_alloc ?_ _)); refine blk_put (cs := #[.int .i64 ((rd_T52 l0_1 a1).f0), .int .i64 ((rd_T52 l0_1 a1).f1), .slice none 0 0]) ?_ 2 _ rfl; (with_reducible repeat (first | refine blk_drewN ?_ _ | refine blk_drew ?_ | refine blk_alloc ?_ _)); refine blk_put (cs := #[.int .i64 ((rd_T52 l0_1 a1).f0), .int .i64 0, .slice none 0 0]) ?_ 1 _ rfl; (with_reducible repeat (first | refine blk_drewN ?_ _ | refine blk_drew ?_ | refine blk_alloc ?_ _)); refine blk_put (cs := #[.int .i64 0, .int .i64 0, .slice none 0 0]) ?_ 0 _ rfl; (with_reducible repeat (first | refine blk_drewN ?_ _ | refine blk_drew ?_ | refine blk_alloc ?_ _)); exact BK103.out⟩, ⟨by repeat (first | (with_reducible first | exact HB.out | apply below_alloc | apply pw_below_drewN | apply below_drew1 | refine below_set ?_ GE101.out | refine below_set ?_ GE103.out) | exact HB.out)⟩⟩
      case round =>
        clear H'
        try clear c1
        try clear p1
        try clear q1
        try clear hx1
        try clear p2
        try clear c3
        try clear c3b0
        try clear c4
        try clear c4b0
        try clear c8
        try clear hcz6_0
        try clear hcz6_1
        try clear hcz6_2
        try clear hcz9_0
        try clear hcz9_1
        try clear hcz9_2
        try clear hfz6_0
        try clear hfz6_1
        try clear hfz6_2
        try clear hfz9_0
        try clear hfz9_1
        try clear hfz9_2
        try clear hx102_0
        try clear hx102_1
        try clear hx102_2
        try clear p102
        try clear q102
        obtain ⟨x16_1, rfl, HA, HK1, BK101, BK103, HB⟩ := hrel
        cases gk with
        | zero => exact absurd HA.out (by simp [sat_wellFormed.l0])
        | succ k1 =>
          have H := HA.out
          clear HA
          simp only [sat_wellFormed.l0] at H
          by_cases c10 : x16_1 < (((rd_T52 l0_1 a1).f2).length : Int)
          · rw [if_pos c10] at H
            have c10b0 : decide (x16_1 < (((rd_T52 l0_1 a1).f2).length : Int)) = true := decide_eq_true c10
            clear c10
            by_cases c11 : 0 ≤ x16_1
            · rw [if_pos c11] at H
              have c11b0 : decide (0 ≤ x16_1) = true := decide_eq_true c11
              clear c11
              by_cases c12 : x16_1 < (((rd_T52 l0_1 a1).f2).length : Int)
              · rw [if_pos c12] at H
                have c12b0 : decide (x16_1 < (((rd_T52 l0_1 a1).f2).length : Int)) = true := decide_eq_true c12
                clear c12
                by_cases c13 : (rd ((rd_T52 l0_1 a1).f2) x16_1) < 0
                · rw [if_pos c13] at H
                  have c13b0 : decide ((rd ((rd_T52 l0_1 a1).f2) x16_1) < 0) = true := decide_eq_true c13
                  clear c13
                  obtain rfl := Option.some.inj H
                  have p104 : 0 ≤ (x16_1 : Int) := of_decide_eq_true (by first | (with_reducible assumption) | assumption)
                  have q104 : x16_1 < (((rd_T52 l0_1 a1).f2).length : Int) := of_decide_eq_true (by first | (with_reducible assumption) | assumption)
                  obtain ⟨ad104, e104, hx104_0⟩ := Kd.at_int HR102_2.out x16_1 p104 q104
                  cases e104
                  replace hx104_0 := (HB.out.cell (World.block_lt_of_cell? w _ hx104_0)).trans hx104_0
                  replace p104 := eq_true p104
                  replace q104 := eq_true q104
                  go_wp2
                  go_ret
                  exact ⟨by first | rfl | (simp [errW_none, errW_some] <;> rfl) | (simp [*, errW_none, errW_some] <;> rfl), by repeat (first | (with_reducible first | exact HB.out | apply below_alloc | apply pw_below_drewN | apply below_drew1 | refine below_set ?_ GE101.out | refine below_set ?_ GE103.out) | exact HB.out)⟩
                · rw [if_neg c13] at H
                  have c13b0 : decide ((rd ((rd_T52 l0_1 a1).f2) x16_1) < 0) = false := decide_eq_false c13
                  clear c13
                  by_cases c14 : (rd ((rd_T52 l0_1 a1).f2) x16_1) ≥ a1
                  · rw [if_pos c14] at H
                    have c14b0 : decide (a1 ≤ (rd ((rd_T52 l0_1 a1).f2) x16_1)) = true := decide_eq_true c14
                    clear c14
                    obtain rfl := Option.some.inj H
                    have p104 : 0 ≤ (x16_1 : Int) := of_decide_eq_true (by first | (with_reducible assumption) | assumption)
                    have q104 : x16_1 < (((rd_T52 l0_1 a1).f2).length : Int) := of_decide_eq_true (by first | (with_reducible assumption) | assumption)
                    obtain ⟨ad104, e104, hx104_0⟩ := Kd.at_int HR102_2.out x16_1 p104 q104
                    cases e104
                    replace hx104_0 := (HB.out.cell (World.block_lt_of_cell? w _ hx104_0)).trans hx104_0
                    replace p104 := eq_true p104
                    replace q104 := eq_true q104
                    go_wp2
                    go_ret
                    exact ⟨by first | rfl | (simp [errW_none, errW_some] <;> rfl) | (simp [*, errW_none, errW_some] <;> rfl), by repeat (first | (with_reducible first | exact HB.out | apply below_alloc | apply pw_below_drewN | apply below_drew1 | refine below_set ?_ GE101.out | refine below_set ?_ GE103.out) | exact HB.out)⟩
                  · rw [if_neg c14] at H
                    have c14b0 : decide (a1 ≤ (rd ((rd_T52 l0_1 a1).f2) x16_1)) = false := decide_eq_false c14
                    clear c14
                    have H' := Aside0.mk H
                    clear H
                    have p104 : 0 ≤ (x16_1 : Int) := of_decide_eq_true (by first | (with_reducible assumption) | assumption)
                    have q104 : x16_1 < (((rd_T52 l0_1 a1).f2).length : Int) := of_decide_eq_true (by first | (with_reducible assumption) | assumption)
                    obtain ⟨ad104, e104, hx104_0⟩ := Kd.at_int HR102_2.out x16_1 p104 q104
                    cases e104
                    replace hx104_0 := (HB.out.cell (World.block_lt_of_cell? w _ hx104_0)).trans hx104_0
                    replace p104 := eq_true p104
                    replace q104 := eq_true q104
                    go_wp2
                    go_roundg k1
                    case measure => have := HK1.out; omega
                    case rel => exact ⟨(wrap64 (x16_1 + 1)), (by first | rfl | (simp; done) | (simp [*]; done)), H', ⟨by have := HK1.out; omega⟩, ⟨by (with_reducible repeat (first | refine blk_drewN ?_ _ | refine blk_drew ?_ | refine blk_alloc ?_ _)); exact BK101.out⟩, ⟨by (with_reducible repeat (first | refine blk_drewN ?_ _ | refine blk_drew ?_ | refine blk_alloc ?_ _)); exact BK103.out⟩, ⟨by repeat (first | (with_reducible first | exact HB.out | apply below_alloc | apply pw_below_drewN | apply below_drew1 | refine below_set ?_ GE101.out | refine below_set ?_ GE103.out) | exact HB.out)⟩⟩
              · rw [if_neg c12] at H
                exact absurd H (by simp)
            · rw [if_neg c11] at H
              exact absurd H (by simp)
          · rw [if_neg c10] at H
            have c10b0 : decide (x16_1 < (((rd_T52 l0_1 a1).f2).length : Int)) = false := decide_eq_false c10
            clear c10
            have HC15 := Aside0.mk H
            clear H
            have hnb16 := NB103_101.out
            have hnc16 := NB101_103.out
            have hcz17_0 : wr.cell? ⟨gb103, 0, none⟩ = some (.int .i64 ((rd_T52 l0_1 a1).f0)) := (blk_cell BK103.out 0).trans rfl
            have hcz17_1 : wr.cell? ⟨gb103, 1, none⟩ = some (.int .i64 ((rd_T52 l0_1 a1).f1)) := (blk_cell BK103.out 1).trans rfl
            have hcz17_2 : wr.cell? ⟨gb103, 2, none⟩ = some (.slice A102_2 ((rd_T52 l0_1 a1).f2).length c102_2) := (blk_cell BK103.out 2).trans rfl
            have hfz17_0 := blk_frozen BK103.out 0
            have hfz17_1 := blk_frozen BK103.out 1
            have hfz17_2 := blk_frozen BK103.out 2
            go_upto_if 30 with (fail)
            go_cut [30] (fun v30 wc => ∃ (kq : Nat) (x30_14 : Bool), v30 = .bool x30_14 ∧ Aside0 (sat_wellFormed.j1 kq ((rd_T52 l0_1 a1).f0) x30_14 a0_0 l0_1 a0_2 ((rd_T52 l0_1 a1).f0) ((rd_T52 l0_1 a1).f1) ((rd_T52 l0_1 a1).f2) = some r) ∧ Aside0 (kq ≤ k1) ∧ Aside0 (wc.heap[gb101]? = some (.cells #[.int .i64 a0_0, (.slice (some ad102) l0_1.length c0_1), .int .i64 a0_2] 24 (0, 0))) ∧ Aside0 (wc.heap[gb103]? = some (.cells #[.int .i64 ((rd_T52 l0_1 a1).f0), .int .i64 ((rd_T52 l0_1 a1).f1), (.slice A102_2 ((rd_T52 l0_1 a1).f2).length c102_2)] 52 (0, 0))) ∧ Aside0 (Below w.heap.size w wc))
            case first =>
              have H := HC15.out
              clear HC15
              by_cases c18 : ((rd_T52 l0_1 a1).f0) = 1
              · rw [if_pos c18] at H
                have c18b0 : (((rd_T52 l0_1 a1).f0) == 1) = true := beq_iff_eq.mpr c18
                have c18b1 : (((rd_T52 l0_1 a1).f0) != 1) = false := bne_eq_false_iff_eq.mpr c18
                clear c18
                (first | rw [c18b0] | (simp only [i64_w, i32_w]; rw [c18b0]) | skip)
                have H' := Aside0.mk H
                clear H
                go_wp2
                go_meet
                case rel => exact ⟨_, ((((rd_T52 l0_1 a1).f0) == 1)), (by first | rfl | (simp; done) | (simp [*]; done)), H', ⟨by have := HK1.out; first | omega | exact Nat.le_refl _⟩, ⟨by (with_reducible repeat (first | refine blk_drewN ?_ _ | refine blk_drew ?_ | refine blk_alloc ?_ _)); exact BK101.out⟩, ⟨by (with_reducible repeat (first | refine blk_drewN ?_ _ | refine blk_drew ?_ | refine blk_alloc ?_ _)); exact BK103.out⟩, ⟨by repeat (first | (with_reducible first | exact HB.out | apply below_alloc | apply pw_below_drewN | apply below_drew1 | refine below_set ?_ GE101.out | refine below_set ?_ GE103.out) | exact HB.out)⟩⟩
              · rw [if_neg c18] at H
                have c18b0 : (((rd_T52 l0_1 a1).f0) == 1) = false := beq_eq_false_iff_ne.mpr c18
                have c18b1 : (((rd_T52 l0_1 a1).f0) != 1) = true := bne_iff_ne.mpr c18
                (first | rw [c18b0] | (simp only [i64_w, i32_w]; rw [c18b0]) | skip)
                have H' := Aside0.mk H
                clear H
                go_wp2
                go_meet
                case rel => exact ⟨_, ((((rd_T52 l0_1 a1).f0) == 2)), (by first | rfl | (simp; done) | (simp [*]; done)), H', ⟨by have := HK1.out; first | omega | exact Nat.le_refl _⟩, ⟨by (with_reducible repeat (first | refine blk_drewN ?_ _ | refine blk_drew ?_ | refine blk_alloc ?_ _)); exact BK101.out⟩, ⟨by (with_reducible repeat (first | refine blk_drewN ?_ _ | refine blk_drew ?_ | refine blk_alloc ?_ _)); exact BK103.out⟩, ⟨by repeat (first | (with_reducible first | exact HB.out | apply below_alloc | apply pw_below_drewN | apply below_drew1 | refine below_set ?_ GE101.out | refine below_set ?_ GE103.out) | exact HB.out)⟩⟩
            case rest =>
              clear HC15
              try clear c1
              try clear p1
              try clear q1
              try clear hx1
              try clear p2
              try clear c3
              try clear c3b0
              try clear c4
              try clear c4b0
              try clear p6
              try clear c8
              try clear c10
              try clear c10b0
              try clear p10
              try clear q10
              try clear hx10
              try clear c11
              try clear c11b0
              try clear c12
              try clear c12b0
              try clear c13
              try clear c13b0
              try clear c14
              try clear c14b0
              try clear c16
              try clear c18
              try clear c18b0
              try clear c18b1
              try clear hcz17_0
              try clear hcz17_1
              try clear hcz17_2
              try clear hcz6_0
              try clear hcz6_1
              try clear hcz6_2
              try clear hcz9_0
              try clear hcz9_1
              try clear hcz9_2
              try clear hfz17_0
              try clear hfz17_1
              try clear hfz17_2
              try clear hfz6_0
              try clear hfz6_1
              try clear hfz6_2
              try clear hfz9_0
              try clear hfz9_1
              try clear hfz9_2
              try clear hx102_0
              try clear hx102_1
              try clear hx102_2
              try clear hx104_0
              try clear p1
              try clear p102
              try clear p104
              try clear p2
              try clear q1
              try clear q102
              try clear q104
              obtain ⟨kq, x30_14, rfl, HA, HJ14, BK101, BK103, HB⟩ := hcut
              cases kq with
              | zero => exact absurd HA.out (by simp [sat_wellFormed.j1])
              | succ kj14 =>
                have H := HA.out
                clear HA
                simp only [sat_wellFormed.j1] at H
                by_cases c19 : x30_14 = true
                · subst c19
                  have H1 : (if ((rd_T52 l0_1 a1).f1) = 0 then (some ((((rd_T52 l0_1 a1).f2).length : Int) == 0)) else (some false)) = some r := by rw [if_pos rfl] at H; exact H
                  clear H
                  have H := H1
                  clear H1
                  by_cases c20 : ((rd_T52 l0_1 a1).f1) = 0
                  · rw [if_pos c20] at H
                    have c20b0 : (((rd_T52 l0_1 a1).f1) == 0) = true := beq_iff_eq.mpr c20
                    have c20b1 : (((rd_T52 l0_1 a1).f1) != 0) = false := bne_eq_false_iff_eq.mpr c20
                    clear c20
                    obtain rfl := Option.some.inj H
                    have hnb21 := NB103_101.out
                    have hnc21 := NB101_103.out
                    have hcz22_0 : wc.cell? ⟨gb103, 0, none⟩ = some (.int .i64 ((rd_T52 l0_1 a1).f0)) := (blk_cell BK103.out 0).trans rfl
                    have hcz22_1 : wc.cell? ⟨gb103, 1, none⟩ = some (.int .i64 ((rd_T52 l0_1 a1).f1)) := (blk_cell BK103.out 1).trans rfl
                    have hcz22_2 : wc.cell? ⟨gb103, 2, none⟩ = some (.slice A102_2 ((rd_T52 l0_1 a1).f2).length c102_2) := (blk_cell BK103.out 2).trans rfl
                    have hfz22_0 := blk_frozen BK103.out 0
                    have hfz22_1 := blk_frozen BK103.out 1
                    have hfz22_2 := blk_frozen BK103.out 2
                    go_wp2
                    go_ret
                    exact ⟨by first | rfl | (simp [errW_none, errW_some] <;> rfl) | (simp [*, errW_none, errW_some] <;> rfl), by repeat (first | (with_reducible first | exact HB.out | apply below_alloc | apply pw_below_drewN | apply below_drew1 | refine below_set ?_ GE101.out | refine below_set ?_ GE103.out) | exact HB.out)⟩
                  · rw [if_neg c20] at H
                    have c20b0 : (((rd_T52 l0_1 a1).f1) == 0) = false := beq_eq_false_iff_ne.mpr c20
                    have c20b1 : (((rd_T52 l0_1 a1).f1) != 0) = true := bne_iff_ne.mpr c20
                    obtain rfl := Option.some.inj H
                    have hnb23 := NB103_101.out
                    have hnc23 := NB101_103.out
                    have hcz24_0 : wc.cell? ⟨gb103, 0, none⟩ = some (.int .i64 ((rd_T52 l0_1 a1).f0)) := (blk_cell BK103.out 0).trans rfl
                    have hcz24_1 : wc.cell? ⟨gb103, 1, none⟩ = some (.int .i64 ((rd_T52 l0_1 a1).f1)) := (blk_cell BK103.out 1).trans rfl
                    have hcz24_2 : wc.cell? ⟨gb103, 2, none⟩ = some (.slice A102_2 ((rd_T52 l0_1 a1).f2).length c102_2) := (blk_cell BK103.out 2).trans rfl
                    have hfz24_0 := blk_frozen BK103.out 0
                    have hfz24_1 := blk_frozen BK103.out 1
                    have hfz24_2 := blk_frozen BK103.out 2
                    go_wp2
                    go_ret
                    exact ⟨by first | rfl | (simp [errW_none, errW_some] <;> rfl) | (simp [*, errW_none, errW_some] <;> rfl), by repeat (first | (with_reducible first | exact HB.out | apply below_alloc | apply pw_below_drewN | apply below_drew1 | refine below_set ?_ GE101.out | refine below_set ?_ GE103.out) | exact HB.out)⟩
                · replace c19 := Bool.eq_false_iff.mpr c19
                  subst c19
                  have H1 : (if ((rd_T52 l0_1 a1).f0) = 3 then (if ((rd_T52 l0_1 a1).f1) ≥ 0 then (if ((rd_T52 l0_1 a1).f1) < a0_0 then (some ((((rd_T52 l0_1 a1).f2).length : Int) == 0)) else (some false)) else (some false)) else (if ((rd_T52 l0_1 a1).f0) = 4 then (if ((rd_T52 l0_1 a1).f1) = 0 then (some ((((rd_T52 l0_1 a1).f2).length : Int) == 1)) else (some false)) else (if ((rd_T52 l0_1 a1).f0) = 5 then (some (((rd_T52 l0_1 a1).f1) == 0)) else (if ((rd_T52 l0_1 a1).f0) = 6 then (some (((rd_T52 l0_1 a1).f1) == 0)) else (some false))))) = some r := by rw [if_neg (show ¬ (false = true) by decide)] at H; exact H
                  clear H
                  have H := H1
                  clear H1
                  by_cases c25 : ((rd_T52 l0_1 a1).f0) = 3
                  · rw [if_pos c25] at H
                    have c25b0 : (((rd_T52 l0_1 a1).f0) == 3) = true := beq_iff_eq.mpr c25
                    have c25b1 : (((rd_T52 l0_1 a1).f0) != 3) = false := bne_eq_false_iff_eq.mpr c25
                    clear c25
                    by_cases c26 : ((rd_T52 l0_1 a1).f1) ≥ 0
                    · rw [if_pos c26] at H
                      have c26b0 : decide (0 ≤ ((rd_T52 l0_1 a1).f1)) = true := decide_eq_true c26
                      clear c26
                      by_cases c27 : ((rd_T52 l0_1 a1).f1) < a0_0
                      · rw [if_pos c27] at H
                        have c27b0 : decide (((rd_T52 l0_1 a1).f1) < a0_0) = true := decide_eq_true c27
                        clear c27
                        obtain rfl := Option.some.inj H
                        have hnb28 := NB103_101.out
                        have hnc28 := NB101_103.out
                        have hcz29_0 : wc.cell? ⟨gb103, 0, none⟩ = some (.int .i64 ((rd_T52 l0_1 a1).f0)) := (blk_cell BK103.out 0).trans rfl
                        have hcz29_1 : wc.cell? ⟨gb103, 1, none⟩ = some (.int .i64 ((rd_T52 l0_1 a1).f1)) := (blk_cell BK103.out 1).trans rfl
                        have hcz29_2 : wc.cell? ⟨gb103, 2, none⟩ = some (.slice A102_2 ((rd_T52 l0_1 a1).f2).length c102_2) := (blk_cell BK103.out 2).trans rfl
                        have hfz29_0 := blk_frozen BK103.out 0
                        have hfz29_1 := blk_frozen BK103.out 1
                        have hfz29_2 := blk_frozen BK103.out 2
                        have hcz30_0 : wc.cell? ⟨gb101, 0, none⟩ = some (.int .i64 a0_0) := (blk_cell BK101.out 0).trans rfl
                        have hcz30_1 : wc.cell? ⟨gb101, 1, none⟩ = some (.slice (some ad102) l0_1.length c0_1) := (blk_cell BK101.out 1).trans rfl
                        have hcz30_2 : wc.cell? ⟨gb101, 2, none⟩ = some (.int .i64 a0_2) := (blk_cell BK101.out 2).trans rfl
                        have hfz30_0 := blk_frozen BK101.out 0
                        have hfz30_1 := blk_frozen BK101.out 1
                        have hfz30_2 := blk_frozen BK101.out 2
                        go_wp2
                        go_ret
                        exact ⟨by first | rfl | (simp [errW_none, errW_some] <;> rfl) | (simp [*, errW_none, errW_some] <;> rfl), by repeat (first | (with_reducible first | exact HB.out | apply below_alloc | apply pw_below_drewN | apply below_drew1 | refine below_set ?_ GE101.out | refine below_set ?_ GE103.out) | exact HB.out)⟩
                      · rw [if_neg c27] at H
                        have c27b0 : decide (((rd_T52 l0_1 a1).f1) < a0_0) = false := decide_eq_false c27
                        clear c27
                        obtain rfl := Option.some.inj H
                        have hnb31 := NB103_101.out
                        have hnc31 := NB101_103.out
                        have hcz32_0 : wc.cell? ⟨gb103, 0, none⟩ = some (.int .i64 ((rd_T52 l0_1 a1).f0)) := (blk_cell BK103.out 0).trans rfl
                        have hcz32_1 : wc.cell? ⟨gb103, 1, none⟩ = some (.int .i64 ((rd_T52 l0_1 a1).f1)) := (blk_cell BK103.out 1).trans rfl
                        have hcz32_2 : wc.cell? ⟨gb103, 2, none⟩ = some (.slice A102_2 ((rd_T52 l0_1 a1).f2).length c102_2) := (blk_cell BK103.out 2).trans rfl
                        have hfz32_0 := blk_frozen BK103.out 0
                        have hfz32_1 := blk_frozen BK103.out 1
                        have hfz32_2 := blk_frozen BK103.out 2
                        have hcz33_0 : wc.cell? ⟨gb101, 0, none⟩ = some (.int .i64 a0_0) := (blk_cell BK101.out 0).trans rfl
                        have hcz33_1 : wc.cell? ⟨gb101, 1, none⟩ = some (.slice (some ad102) l0_1.length c0_1) := (blk_cell BK101.out 1).trans rfl
                        have hcz33_2 : wc.cell? ⟨gb101, 2, none⟩ = some (.int .i64 a0_2) := (blk_cell BK101.out 2).trans rfl
                        have hfz33_0 := blk_frozen BK101.out 0
                        have hfz33_1 := blk_frozen BK101.out 1
                        have hfz33_2 := blk_frozen BK101.out 2
                        go_wp2
                        go_ret
                        exact ⟨by first | rfl | (simp [errW_none, errW_some] <;> rfl) | (simp [*, errW_none, errW_some] <;> rfl), by repeat (first | (with_reducible first | exact HB.out | apply below_alloc | apply pw_below_drewN | apply below_drew1 | refine below_set ?_ GE101.out | refine below_set ?_ GE103.out) | exact HB.out)⟩
                    · rw [if_neg c26] at H
                      have c26b0 : decide (0 ≤ ((rd_T52 l0_1 a1).f1)) = false := decide_eq_false c26
                      clear c26
                      obtain rfl := Option.some.inj H
                      have hnb34 := NB103_101.out
                      have hnc34 := NB101_103.out
                      have hcz35_0 : wc.cell? ⟨gb103, 0, none⟩ = some (.int .i64 ((rd_T52 l0_1 a1).f0)) := (blk_cell BK103.out 0).trans rfl
                      have hcz35_1 : wc.cell? ⟨gb103, 1, none⟩ = some (.int .i64 ((rd_T52 l0_1 a1).f1)) := (blk_cell BK103.out 1).trans rfl
                      have hcz35_2 : wc.cell? ⟨gb103, 2, none⟩ = some (.slice A102_2 ((rd_T52 l0_1 a1).f2).length c102_2) := (blk_cell BK103.out 2).trans rfl
                      have hfz35_0 := blk_frozen BK103.out 0
                      have hfz35_1 := blk_frozen BK103.out 1
                      have hfz35_2 := blk_frozen BK103.out 2
                      go_wp2
                      go_ret
                      exact ⟨by first | rfl | (simp [errW_none, errW_some] <;> rfl) | (simp [*, errW_none, errW_some] <;> rfl), by repeat (first | (with_reducible first | exact HB.out | apply below_alloc | apply pw_below_drewN | apply below_drew1 | refine below_set ?_ GE101.out | refine below_set ?_ GE103.out) | exact HB.out)⟩
                  · rw [if_neg c25] at H
                    have c25b0 : (((rd_T52 l0_1 a1).f0) == 3) = false := beq_eq_false_iff_ne.mpr c25
                    have c25b1 : (((rd_T52 l0_1 a1).f0) != 3) = true := bne_iff_ne.mpr c25
                    by_cases c36 : ((rd_T52 l0_1 a1).f0) = 4
                    · rw [if_pos c36] at H
                      have c36b0 : (((rd_T52 l0_1 a1).f0) == 4) = true := beq_iff_eq.mpr c36
                      have c36b1 : (((rd_T52 l0_1 a1).f0) != 4) = false := bne_eq_false_iff_eq.mpr c36
                      clear c36
                      by_cases c37 : ((rd_T52 l0_1 a1).f1) = 0
                      · rw [if_pos c37] at H
                        have c37b0 : (((rd_T52 l0_1 a1).f1) == 0) = true := beq_iff_eq.mpr c37
                        have c37b1 : (((rd_T52 l0_1 a1).f1) != 0) = false := bne_eq_false_iff_eq.mpr c37
                        clear c37
                        obtain rfl := Option.some.inj H
                        have hnb38 := NB103_101.out
                        have hnc38 := NB101_103.out
                        have hcz39_0 : wc.cell? ⟨gb103, 0, none⟩ = some (.int .i64 ((rd_T52 l0_1 a1).f0)) := (blk_cell BK103.out 0).trans rfl
                        have hcz39_1 : wc.cell? ⟨gb103, 1, none⟩ = some (.int .i64 ((rd_T52 l0_1 a1).f1)) := (blk_cell BK103.out 1).trans rfl
                        have hcz39_2 : wc.cell? ⟨gb103, 2, none⟩ = some (.slice A102_2 ((rd_T52 l0_1 a1).f2).length c102_2) := (blk_cell BK103.out 2).trans rfl
                        have hfz39_0 := blk_frozen BK103.out 0
                        have hfz39_1 := blk_frozen BK103.out 1
                        have hfz39_2 := blk_frozen BK103.out 2
                        go_wp2
                        go_ret
                        exact ⟨by first | rfl | (simp [errW_none, errW_some] <;> rfl) | (simp [*, errW_none, errW_some] <;> rfl), by repeat (first | (with_reducible first | exact HB.out | apply below_alloc | apply pw_below_drewN | apply below_drew1 | refine below_set ?_ GE101.out | refine below_set ?_ GE103.out) | exact HB.out)⟩
                      · rw [if_neg c37] at H
                        have c37b0 : (((rd_T52 l0_1 a1).f1) == 0) = false := beq_eq_false_iff_ne.mpr c37
                        have c37b1 : (((rd_T52 l0_1 a1).f1) != 0) = true := bne_iff_ne.mpr c37
                        obtain rfl := Option.some.inj H
                        have hnb40 := NB103_101.out
                        have hnc40 := NB101_103.out
                        have hcz41_0 : wc.cell? ⟨gb103, 0, none⟩ = some (.int .i64 ((rd_T52 l0_1 a1).f0)) := (blk_cell BK103.out 0).trans rfl
                        have hcz41_1 : wc.cell? ⟨gb103, 1, none⟩ = some (.int .i64 ((rd_T52 l0_1 a1).f1)) := (blk_cell BK103.out 1).trans rfl
                        have hcz41_2 : wc.cell? ⟨gb103, 2, none⟩ = some (.slice A102_2 ((rd_T52 l0_1 a1).f2).length c102_2) := (blk_cell BK103.out 2).trans rfl
                        have hfz41_0 := blk_frozen BK103.out 0
                        have hfz41_1 := blk_frozen BK103.out 1
                        have hfz41_2 := blk_frozen BK103.out 2
                        go_wp2
                        go_ret
                        exact ⟨by first | rfl | (simp [errW_none, errW_some] <;> rfl) | (simp [*, errW_none, errW_some] <;> rfl), by repeat (first | (with_reducible first | exact HB.out | apply below_alloc | apply pw_below_drewN | apply below_drew1 | refine below_set ?_ GE101.out | refine below_set ?_ GE103.out) | exact HB.out)⟩
                    · rw [if_neg c36] at H
                      have c36b0 : (((rd_T52 l0_1 a1).f0) == 4) = false := beq_eq_false_iff_ne.mpr c36
                      have c36b1 : (((rd_T52 l0_1 a1).f0) != 4) = true := bne_iff_ne.mpr c36
                      by_cases c42 : ((rd_T52 l0_1 a1).f0) = 5
                      · rw [if_pos c42] at H
                        have c42b0 : (((rd_T52 l0_1 a1).f0) == 5) = true := beq_iff_eq.mpr c42
                        have c42b1 : (((rd_T52 l0_1 a1).f0) != 5) = false := bne_eq_false_iff_eq.mpr c42
                        clear c42
                        obtain rfl := Option.some.inj H
                        have hnb43 := NB103_101.out
                        have hnc43 := NB101_103.out
                        have hcz44_0 : wc.cell? ⟨gb103, 0, none⟩ = some (.int .i64 ((rd_T52 l0_1 a1).f0)) := (blk_cell BK103.out 0).trans rfl
                        have hcz44_1 : wc.cell? ⟨gb103, 1, none⟩ = some (.int .i64 ((rd_T52 l0_1 a1).f1)) := (blk_cell BK103.out 1).trans rfl
                        have hcz44_2 : wc.cell? ⟨gb103, 2, none⟩ = some (.slice A102_2 ((rd_T52 l0_1 a1).f2).length c102_2) := (blk_cell BK103.out 2).trans rfl
                        have hfz44_0 := blk_frozen BK103.out 0
                        have hfz44_1 := blk_frozen BK103.out 1
                        have hfz44_2 := blk_frozen BK103.out 2
                        go_wp2
                        go_ret
                        exact ⟨by first | rfl | (simp [errW_none, errW_some] <;> rfl) | (simp [*, errW_none, errW_some] <;> rfl), by repeat (first | (with_reducible first | exact HB.out | apply below_alloc | apply pw_below_drewN | apply below_drew1 | refine below_set ?_ GE101.out | refine below_set ?_ GE103.out) | exact HB.out)⟩
                      · rw [if_neg c42] at H
                        have c42b0 : (((rd_T52 l0_1 a1).f0) == 5) = false := beq_eq_false_iff_ne.mpr c42
                        have c42b1 : (((rd_T52 l0_1 a1).f0) != 5) = true := bne_iff_ne.mpr c42
                        by_cases c45 : ((rd_T52 l0_1 a1).f0) = 6
                        · rw [if_pos c45] at H
                          have c45b0 : (((rd_T52 l0_1 a1).f0) == 6) = true := beq_iff_eq.mpr c45
                          have c45b1 : (((rd_T52 l0_1 a1).f0) != 6) = false := bne_eq_false_iff_eq.mpr c45
                          clear c45
                          obtain rfl := Option.some.inj H
                          have hnb46 := NB103_101.out
                          have hnc46 := NB101_103.out
                          have hcz47_0 : wc.cell? ⟨gb103, 0, none⟩ = some (.int .i64 ((rd_T52 l0_1 a1).f0)) := (blk_cell BK103.out 0).trans rfl
                          have hcz47_1 : wc.cell? ⟨gb103, 1, none⟩ = some (.int .i64 ((rd_T52 l0_1 a1).f1)) := (blk_cell BK103.out 1).trans rfl
                          have hcz47_2 : wc.cell? ⟨gb103, 2, none⟩ = some (.slice A102_2 ((rd_T52 l0_1 a1).f2).length c102_2) := (blk_cell BK103.out 2).trans rfl
                          have hfz47_0 := blk_frozen BK103.out 0
                          have hfz47_1 := blk_frozen BK103.out 1
                          have hfz47_2 := blk_frozen BK103.out 2
                          go_wp2
                          go_ret
                          exact ⟨by first | rfl | (simp [errW_none, errW_some] <;> rfl) | (simp [*, errW_none, errW_some] <;> rfl), by repeat (first | (with_reducible first | exact HB.out | apply below_alloc | apply pw_below_drewN | apply below_drew1 | refine below_set ?_ GE101.out | refine below_set ?_ GE103.out) | exact HB.out)⟩
                        · rw [if_neg c45] at H
                          have c45b0 : (((rd_T52 l0_1 a1).f0) == 6) = false := beq_eq_false_iff_ne.mpr c45
                          have c45b1 : (((rd_T52 l0_1 a1).f0) != 6) = true := bne_iff_ne.mpr c45
                          obtain rfl := Option.some.inj H
                          go_wp2
                          go_ret
                          exact ⟨by first | rfl | (simp [errW_none, errW_some] <;> rfl) | (simp [*, errW_none, errW_some] <;> rfl), by repeat (first | (with_reducible first | exact HB.out | apply below_alloc | apply pw_below_drewN | apply below_drew1 | refine below_set ?_ GE101.out | refine below_set ?_ GE103.out) | exact HB.out)⟩
    · rw [if_neg c4] at H
      exact absurd H (by simp)
  · rw [if_neg c3] at H
    exact absurd H (by simp)

/-! ### sat_Check: function 17 -/
mutual
def sat_Check.j0 : Nat → Bool → Int → List (S52) → Int → Option (Bool)
  | 0, _, _, _, _ => none
  | k + 1, x36, x106000, x106001, x106002 => if x36 = true then (some false) else (sat_Check.l0 k (x106001.length : Int) 0 x106000 x106001 x106002)
def sat_Check.l0 : Nat → Int → Int → Int → List (S52) → Int → Option (Bool)
  | 0, _, _, _, _, _ => none
  | k + 1, x39, x40, x106000, x106001, x106002 => if x40 < x39 then ((sat_wellFormed.f k x106000 x106001 x106002 x40).bind fun t106 => (if t106 = true then (sat_Check.l0 k x39 (wrap64 (x40 + 1)) x106000 x106001 x106002) else (some false))) else (some true)
end
def sat_Check.f (k : Nat) (a0_0 : Int) (l0_1 : List (S52)) (a0_2 : Int) : Option (Bool) := if a0_0 < 0 then (sat_Check.j0 k true a0_0 l0_1 a0_2) else (if a0_0 > 1024 then (sat_Check.j0 k true a0_0 l0_1 a0_2) else (if (l0_1.length : Int) < 1 then (sat_Check.j0 k true a0_0 l0_1 a0_2) else (if (l0_1.length : Int) > 20000 then (sat_Check.j0 k true a0_0 l0_1 a0_2) else (if a0_2 < 0 then (sat_Check.j0 k true a0_0 l0_1 a0_2) else (sat_Check.j0 k (decide (a0_2 ≥ (l0_1.length : Int))) a0_0 l0_1 a0_2)))))
theorem sat_Check.mono_l : ∀ k, (∀ y0 y1 y2 y3, LeO (sat_Check.j0 k y0 y1 y2 y3) (sat_Check.j0 (k + 1) y0 y1 y2 y3)) ∧ (∀ y0 y1 y2 y3 y4, LeO (sat_Check.l0 k y0 y1 y2 y3 y4) (sat_Check.l0 (k + 1) y0 y1 y2 y3 y4))
  | 0 => ⟨fun _ _ _ _ r h => by simp [sat_Check.j0] at h, fun _ _ _ _ _ r h => by simp [sat_Check.l0] at h⟩
  | k + 1 => by
    obtain ⟨ih0, ih1⟩ := sat_Check.mono_l k
    refine ⟨?_, ?_⟩
    · intro y0 y1 y2 y3
      unfold sat_Check.j0
      repeat' first
      | (with_reducible exact ih0 _ _ _ _)
      | (with_reducible exact ih1 _ _ _ _ _)
      | (with_reducible exact sat_wellFormed.mono _ _ _ _ _)
      | (with_reducible exact LeO.refl _)
      | (with_reducible exact LeO.none _)
      | (with_reducible refine LeO.ite ?_ ?_)
      | (with_reducible refine LeO.bind ?_ (fun _ => ?_))
      | exact ih0 _ _ _ _
      | exact ih1 _ _ _ _ _
      | exact sat_wellFormed.mono _ _ _ _ _
      | exact LeO.none _
      | refine LeO.ite ?_ ?_
      | refine LeO.bind ?_ (fun _ => ?_)
    · intro y0 y1 y2 y3 y4
      unfold sat_Check.l0
      repeat' first
      | (with_reducible exact ih0 _ _ _ _)
      | (with_reducible exact ih1 _ _ _ _ _)
      | (with_reducible exact sat_wellFormed.mono _ _ _ _ _)
      | (with_reducible exact LeO.refl _)
      | (with_reducible exact LeO.none _)
      | (with_reducible refine LeO.ite ?_ ?_)
      | (with_reducible refine LeO.bind ?_ (fun _ => ?_))
      | exact ih0 _ _ _ _
      | exact ih1 _ _ _ _ _
      | exact sat_wellFormed.mono _ _ _ _ _
      | exact LeO.none _
      | refine LeO.ite ?_ ?_
      | refine LeO.bind ?_ (fun _ => ?_)
theorem sat_Check.mono : ∀ a0 a1 a2 k, LeO (sat_Check.f k a0 a1 a2) (sat_Check.f (k + 1) a0 a1 a2) := by
  intro a0 a1 a2 k
  obtain ⟨ih0, ih1⟩ := sat_Check.mono_l k
  unfold sat_Check.f
  repeat' first
      | (with_reducible exact ih0 _ _ _ _)
      | (with_reducible exact ih1 _ _ _ _ _)
      | (with_reducible exact sat_wellFormed.mono _ _ _ _ _)
      | (with_reducible exact LeO.refl _)
      | (with_reducible exact LeO.none _)
      | (with_reducible refine LeO.ite ?_ ?_)
      | (with_reducible refine LeO.bind ?_ (fun _ => ?_))
      | exact ih0 _ _ _ _
      | exact ih1 _ _ _ _ _
      | exact sat_wellFormed.mono _ _ _ _ _
      | exact LeO.none _
      | refine LeO.ite ?_ ?_
      | refine LeO.bind ?_ (fun _ => ?_)
set_option maxHeartbeats 8000000 in
set_option maxRecDepth 100000 in
theorem sat_Check.calls (k : Nat) (a0_0 : Int) (A0_1 : Option Addr) (c0_1 : Nat) (l0_1 : List (S52)) (a0_2 : Int) (r : Bool) (w : World) (hr0_1 : Kd.C k52 w A0_1 l0_1.length l0_1) (hc0_1 : l0_1.length ≤ c0_1) (h : sat_Check.f k a0_0 l0_1 a0_2 = some r) :
    Calls Try.prog 17 #[.agg #[.int .i64 a0_0, .slice A0_1 l0_1.length c0_1, .int .i64 a0_2]] w fun e w' => e = .returned (.bool r) ∧ Below w.heap.size w w' := by
  have hu24 := Try.underlying24
  have HR0_1 := Aside0.mk hr0_1
  have HC0_1 := Aside0.mk hc0_1
  clear hr0_1 hc0_1
  have HB := Aside0.mk (Below.refl w.heap.size w)
  have H : (if a0_0 < 0 then (sat_Check.j0 k true a0_0 l0_1 a0_2) else (if a0_0 > 1024 then (sat_Check.j0 k true a0_0 l0_1 a0_2) else (if (l0_1.length : Int) < 1 then (sat_Check.j0 k true a0_0 l0_1 a0_2) else (if (l0_1.length : Int) > 20000 then (sat_Check.j0 k true a0_0 l0_1 a0_2) else (if a0_2 < 0 then (sat_Check.j0 k true a0_0 l0_1 a0_2) else (sat_Check.j0 k (decide (a0_2 ≥ (l0_1.length : Int))) a0_0 l0_1 a0_2)))))) = some r := h
  clear h
  have HC2 := Aside0.mk H
  clear H
  go_enter Try.func17, Try.ntmps17
  go_upto_region 1 with (first | ((with_reducible refine gate_dst (N := 1) rfl ?_); (try (refine gate_guard (by rfl) ?_; dsimp only)); refine box_event ?hg (N := 1) ?hd (cs := #[.int .i64 a0_0, .slice A0_1 l0_1.length c0_1, .int .i64 a0_2]) (t := 24) ?hr ?_; (case hd => rfl); (case hg => rfl); (case hr => first | (go_simp; done) | (go_simp; rfl)); intro gb105 hg w3 hbox hb; have n0_ := Aside0.mk (below_step (by repeat (first | (with_reducible first | exact HB.out | apply below_alloc | apply pw_below_drewN | apply below_drew1) | exact HB.out)) hb); have n1_ := Aside0.mk (hbox); have n2_ := Aside0.mk ((by rw [hg]; exact (below_size (by repeat (first | (with_reducible first | exact HB.out | apply below_alloc | apply pw_below_drewN | apply below_drew1) | exact HB.out))) : w.heap.size ≤ gb105)); have n3_ := Aside0.mk ((by rw [hg]; exact (below_size (by repeat (first | (with_reducible first | exact HB.out | apply below_alloc | apply pw_below_drewN | apply below_drew1) | exact HB.out))) : w.heap.size ≤ gb105)); clear HB; have HB := n0_; have BK105 := n1_; have GW105 := n2_; have GE105 := n3_; clear n0_ n1_ n2_ n3_; clear hb hbox hg))
  (try simp only [Act.put, List.setIfInBounds_toArray, List.set_cons_zero, List.set_cons_succ])
  go_cut [36] (fun v36 wc => ∃ (kq : Nat) (x36_1 : Bool), v36 = .bool x36_1 ∧ Aside0 (sat_Check.j0 kq x36_1 a0_0 l0_1 a0_2 = some r) ∧ Aside0 (kq ≤ k) ∧ Aside0 (wc.heap[gb105]? = some (.cells #[.int .i64 a0_0, (.slice A0_1 l0_1.length c0_1), .int .i64 a0_2] 24 (0, 0))) ∧ Aside0 (Below w.heap.size w wc))
  case first =>
    have H := HC2.out
    clear HC2
    by_cases c4 : a0_0 < 0
    · rw [if_pos c4] at H
      have c4b0 : decide (a0_0 < 0) = true := decide_eq_true c4
      clear c4
      (first | rw [c4b0] | (simp only [i64_w, i32_w]; rw [c4b0]) | skip)
      have H' := Aside0.mk H
      clear H
      have hcz5_0 : w3.cell? ⟨gb105, 0, none⟩ = some (.int .i64 a0_0) := (blk_cell BK105.out 0).trans rfl
      have hcz5_1 : w3.cell? ⟨gb105, 1, none⟩ = some (.slice A0_1 l0_1.length c0_1) := (blk_cell BK105.out 1).trans rfl
      have hcz5_2 : w3.cell? ⟨gb105, 2, none⟩ = some (.int .i64 a0_2) := (blk_cell BK105.out 2).trans rfl
      have hfz5_0 := blk_frozen BK105.out 0
      have hfz5_1 := blk_frozen BK105.out 1
      have hfz5_2 := blk_frozen BK105.out 2
      go_wp2
      go_meet
      case rel => exact ⟨_, (true), (by first | rfl | (simp; done) | (simp [*]; done)), H', ⟨by first | omega | exact Nat.le_refl _⟩, ⟨by (with_reducible repeat (first | refine blk_drewN ?_ _ | refine blk_drew ?_ | refine blk_alloc ?_ _)); exact BK105.out⟩, ⟨by repeat (first | (with_reducible first | exact HB.out | apply below_alloc | apply pw_below_drewN | apply below_drew1 | refine below_set ?_ GE105.out) | exact HB.out)⟩⟩
    · rw [if_neg c4] at H
      have c4b0 : decide (a0_0 < 0) = false := decide_eq_false c4
      clear c4
      (first | rw [c4b0] | (simp only [i64_w, i32_w]; rw [c4b0]) | skip)
      by_cases c6 : a0_0 > 1024
      · rw [if_pos c6] at H
        have c6b0 : decide (1024 < a0_0) = true := decide_eq_true c6
        clear c6
        have H' := Aside0.mk H
        clear H
        have hcz7_0 : w3.cell? ⟨gb105, 0, none⟩ = some (.int .i64 a0_0) := (blk_cell BK105.out 0).trans rfl
        have hcz7_1 : w3.cell? ⟨gb105, 1, none⟩ = some (.slice A0_1 l0_1.length c0_1) := (blk_cell BK105.out 1).trans rfl
        have hcz7_2 : w3.cell? ⟨gb105, 2, none⟩ = some (.int .i64 a0_2) := (blk_cell BK105.out 2).trans rfl
        have hfz7_0 := blk_frozen BK105.out 0
        have hfz7_1 := blk_frozen BK105.out 1
        have hfz7_2 := blk_frozen BK105.out 2
        go_wp2
        go_meet
        case rel => exact ⟨_, (true), (by first | rfl | (simp; done) | (simp [*]; done)), H', ⟨by first | omega | exact Nat.le_refl _⟩, ⟨by (with_reducible repeat (first | refine blk_drewN ?_ _ | refine blk_drew ?_ | refine blk_alloc ?_ _)); exact BK105.out⟩, ⟨by repeat (first | (with_reducible first | exact HB.out | apply below_alloc | apply pw_below_drewN | apply below_drew1 | refine below_set ?_ GE105.out) | exact HB.out)⟩⟩
      · rw [if_neg c6] at H
        have c6b0 : decide (1024 < a0_0) = false := decide_eq_false c6
        clear c6
        by_cases c8 : (l0_1.length : Int) < 1
        · rw [if_pos c8] at H
          have c8b0 : decide ((l0_1.length : Int) < 1) = true := decide_eq_true c8
          have c8b1 : decide (l0_1.length < 1) = true := decide_eq_true (by omega)
          clear c8
          have H' := Aside0.mk H
          clear H
          have hcz9_0 : w3.cell? ⟨gb105, 0, none⟩ = some (.int .i64 a0_0) := (blk_cell BK105.out 0).trans rfl
          have hcz9_1 : w3.cell? ⟨gb105, 1, none⟩ = some (.slice A0_1 l0_1.length c0_1) := (blk_cell BK105.out 1).trans rfl
          have hcz9_2 : w3.cell? ⟨gb105, 2, none⟩ = some (.int .i64 a0_2) := (blk_cell BK105.out 2).trans rfl
          have hfz9_0 := blk_frozen BK105.out 0
          have hfz9_1 := blk_frozen BK105.out 1
          have hfz9_2 := blk_frozen BK105.out 2
          go_wp2
          go_meet
          case rel => exact ⟨_, (true), (by first | rfl | (simp; done) | (simp [*]; done)), H', ⟨by first | omega | exact Nat.le_refl _⟩, ⟨by (with_reducible repeat (first | refine blk_drewN ?_ _ | refine blk_drew ?_ | refine blk_alloc ?_ _)); exact BK105.out⟩, ⟨by repeat (first | (with_reducible first | exact HB.out | apply below_alloc | apply pw_below_drewN | apply below_drew1 | refine below_set ?_ GE105.out) | exact HB.out)⟩⟩
        · rw [if_neg c8] at H
          have c8b0 : decide ((l0_1.length : Int) < 1) = false := decide_eq_false c8
          have c8b1 : decide (l0_1.length < 1) = false := decide_eq_false (by omega)
          clear c8
          by_cases c10 : (l0_1.length : Int) > 20000
          · rw [if_pos c10] at H
            have c10b0 : decide (20000 < (l0_1.length : Int)) = true := decide_eq_true c10
            have c10b1 : decide (20000 < l0_1.length) = true := decide_eq_true (by omega)
            clear c10
            have H' := Aside0.mk H
            clear H
            have hcz11_0 : w3.cell? ⟨gb105, 0, none⟩ = some (.int .i64 a0_0) := (blk_cell BK105.out 0).trans rfl
            have hcz11_1 : w3.cell? ⟨gb105, 1, none⟩ = some (.slice A0_1 l0_1.length c0_1) := (blk_cell BK105.out 1).trans rfl
            have hcz11_2 : w3.cell? ⟨gb105, 2, none⟩ = some (.int .i64 a0_2) := (blk_cell BK105.out 2).trans rfl
            have hfz11_0 := blk_frozen BK105.out 0
            have hfz11_1 := blk_frozen BK105.out 1
            have hfz11_2 := blk_frozen BK105.out 2
            go_wp2
            go_meet
            case rel => exact ⟨_, (true), (by first | rfl | (simp; done) | (simp [*]; done)), H', ⟨by first | omega | exact Nat.le_refl _⟩, ⟨by (with_reducible repeat (first | refine blk_drewN ?_ _ | refine blk_drew ?_ | refine blk_alloc ?_ _)); exact BK105.out⟩, ⟨by repeat (first | (with_reducible first | exact HB.out | apply below_alloc | apply pw_below_drewN | apply below_drew1 | refine below_set ?_ GE105.out) | exact HB.out)⟩⟩
          · rw [if_neg c10] at H
            have c10b0 : decide (20000 < (l0_1.length : Int)) = false := decide_eq_false c10
            have c10b1 : decide (20000 < l0_1.length) = false := decide_eq_false (by omega)
            clear c10
            by_cases c12 : a0_2 < 0
            · rw [if_pos c12] at H
              have c12b0 : decide (a0_2 < 0) = true := decide_eq_true c12
              clear c12
              have H' := Aside0.mk H
              clear H
              have hcz13_0 : w3.cell? ⟨gb105, 0, none⟩ = some (.int .i64 a0_0) := (blk_cell BK105.out 0).trans rfl
              have hcz13_1 : w3.cell? ⟨gb105, 1, none⟩ = some (.slice A0_1 l0_1.length c0_1) := (blk_cell BK105.out 1).trans rfl
              have hcz13_2 : w3.cell? ⟨gb105, 2, none⟩ = some (.int .i64 a0_2) := (blk_cell BK105.out 2).trans rfl
              have hfz13_0 := blk_frozen BK105.out 0
              have hfz13_1 := blk_frozen BK105.out 1
              have hfz13_2 := blk_frozen BK105.out 2
              go_wp2
              go_meet
              case rel => exact ⟨_, (true), (by first | rfl | (simp; done) | (simp [*]; done)), H', ⟨by first | omega | exact Nat.le_refl _⟩, ⟨by (with_reducible repeat (first | refine blk_drewN ?_ _ | refine blk_drew ?_ | refine blk_alloc ?_ _)); exact BK105.out⟩, ⟨by repeat (first | (with_reducible first | exact HB.out | apply below_alloc | apply pw_below_drewN | apply below_drew1 | refine below_set ?_ GE105.out) | exact HB.out)⟩⟩
            · rw [if_neg c12] at H
              have c12b0 : decide (a0_2 < 0) = false := decide_eq_false c12
              clear c12
              have H' := Aside0.mk H
              clear H
              have hcz14_0 : w3.cell? ⟨gb105, 0, none⟩ = some (.int .i64 a0_0) := (blk_cell BK105.out 0).trans rfl
              have hcz14_1 : w3.cell? ⟨gb105, 1, none⟩ = some (.slice A0_1 l0_1.length c0_1) := (blk_cell BK105.out 1).trans rfl
              have hcz14_2 : w3.cell? ⟨gb105, 2, none⟩ = some (.int .i64 a0_2) := (blk_cell BK105.out 2).trans rfl
              have hfz14_0 := blk_frozen BK105.out 0
              have hfz14_1 := blk_frozen BK105.out 1
              have hfz14_2 := blk_frozen BK105.out 2
              go_wp2
              go_meet
              case rel => exact ⟨_, (decide (a0_2 ≥ (l0_1.length : Int))), (by first | rfl | (simp; done) | (simp [*]; done)), H', ⟨by first | omega | exact Nat.le_refl _⟩, ⟨by (with_reducible repeat (first | refine blk_drewN ?_ _ | refine blk_drew ?_ | refine blk_alloc ?_ _)); exact BK105.out⟩, ⟨by repeat (first | (with_reducible first | exact HB.out | apply below_alloc | apply pw_below_drewN | apply below_drew1 | refine below_set ?_ GE105.out) | exact HB.out)⟩⟩
  case rest =>
    clear HC2
    try clear c1
    try clear p2
    try clear c4
    try clear c4b0
    try clear c6
    try clear c6b0
    try clear c8
    try clear c8b0
    try clear c8b1
    try clear c10
    try clear c10b0
    try clear c10b1
    try clear c12
    try clear c12b0
    try clear hcz11_0
    try clear hcz11_1
    try clear hcz11_2
    try clear hcz13_0
    try clear hcz13_1
    try clear hcz13_2
    try clear hcz14_0
    try clear hcz14_1
    try clear hcz14_2
    try clear hcz5_0
    try clear hcz5_1
    try clear hcz5_2
    try clear hcz7_0
    try clear hcz7_1
    try clear hcz7_2
    try clear hcz9_0
    try clear hcz9_1
    try clear hcz9_2
    try clear hfz11_0
    try clear hfz11_1
    try clear hfz11_2
    try clear hfz13_0
    try clear hfz13_1
    try clear hfz13_2
    try clear hfz14_0
    try clear hfz14_1
    try clear hfz14_2
    try clear hfz5_0
    try clear hfz5_1
    try clear hfz5_2
    try clear hfz7_0
    try clear hfz7_1
    try clear hfz7_2
    try clear hfz9_0
    try clear hfz9_1
    try clear hfz9_2
    obtain ⟨kq, x36_1, rfl, HA, HJ1, BK105, HB⟩ := hcut
    cases kq with
    | zero => exact absurd HA.out (by simp [sat_Check.j0])
    | succ kj1 =>
      have H := HA.out
      clear HA
      simp only [sat_Check.j0] at H
      by_cases c15 : x36_1 = true
      · subst c15
        have H1 : (some false) = some r := by rw [if_pos rfl] at H; exact H
        clear H
        have H := H1
        clear H1
        obtain rfl := Option.some.inj H
        go_wp2
        go_ret
        exact ⟨by first | rfl | (simp [errW_none, errW_some] <;> rfl) | (simp [*, errW_none, errW_some] <;> rfl), by repeat (first | (with_reducible first | exact HB.out | apply below_alloc | apply pw_below_drewN | apply below_drew1 | refine below_set ?_ GE105.out) | exact HB.out)⟩
      · replace c15 := Bool.eq_false_iff.mpr c15
        subst c15
        have H1 : (sat_Check.l0 kj1 (l0_1.length : Int) 0 a0_0 l0_1 a0_2) = some r := by rw [if_neg (show ¬ (false = true) by decide)] at H; exact H
        clear H
        have H := H1
        clear H1
        have H' := Aside0.mk H
        clear H
        have hcz16_0 : wc.cell? ⟨gb105, 0, none⟩ = some (.int .i64 a0_0) := (blk_cell BK105.out 0).trans rfl
        have hcz16_1 : wc.cell? ⟨gb105, 1, none⟩ = some (.slice A0_1 l0_1.length c0_1) := (blk_cell BK105.out 1).trans rfl
        have hcz16_2 : wc.cell? ⟨gb105, 2, none⟩ = some (.int .i64 a0_2) := (blk_cell BK105.out 2).trans rfl
        have hfz16_0 := blk_frozen BK105.out 0
        have hfz16_1 := blk_frozen BK105.out 1
        have hfz16_2 := blk_frozen BK105.out 2
        go_wp2
        go_loopg [40] kj1 (fun kq v40 w' => ∃ (x40_2 : Int), v40 = .int .i64 x40_2 ∧ Aside0 (sat_Check.l0 kq (l0_1.length : Int) x40_2 a0_0 l0_1 a0_2 = some r) ∧ Aside0 (kq ≤ kj1) ∧ Aside0 (w'.heap[gb105]? = some (.cells #[.int .i64 a0_0, (.slice A0_1 l0_1.length c0_1), .int .i64 a0_2] 24 (0, 0))) ∧ Aside0 (Below w.heap.size w w'))
        case atStart => exact ⟨(0), (by first | rfl | (simp; done) | (simp [*]; done)), H', ⟨Nat.le_refl _⟩, ⟨by (with_reducible repeat (first | refine blk_drewN ?_ _ | refine blk_drew ?_ | refine blk_alloc ?_ _)); exact BK105.out⟩, ⟨by repeat (first | (with_reducible first | exact HB.out | apply below_alloc | apply pw_below_drewN | apply below_drew1 | refine below_set ?_ GE105.out) | exact HB.out)⟩⟩
        case round =>
          clear H'
          try clear c1
          try clear p2
          try clear c4
          try clear c4b0
          try clear c6
          try clear c6b0
          try clear c8
          try clear c8b0
          try clear c8b1
          try clear c10
          try clear c10b0
          try clear c10b1
          try clear c12
          try clear c12b0
          try clear c15
          try clear hcz11_0
          try clear hcz11_1
          try clear hcz11_2
          try clear hcz13_0
          try clear hcz13_1
          try clear hcz13_2
          try clear hcz14_0
          try clear hcz14_1
          try clear hcz14_2
          try clear hcz16_0
          try clear hcz16_1
          try clear hcz16_2
          try clear hcz5_0
          try clear hcz5_1
          try clear hcz5_2
          try clear hcz7_0
          try clear hcz7_1
          try clear hcz7_2
          try clear hcz9_0
          try clear hcz9_1
          try clear hcz9_2
          try clear hfz11_0
          try clear hfz11_1
          try clear hfz11_2
          try clear hfz13_0
          try clear hfz13_1
          try clear hfz13_2
          try clear hfz14_0
          try clear hfz14_1
          try clear hfz14_2
          try clear hfz16_0
          try clear hfz16_1
          try clear hfz16_2
          try clear hfz5_0
          try clear hfz5_1
          try clear hfz5_2
          try clear hfz7_0
          try clear hfz7_1
          try clear hfz7_2
          try clear hfz9_0
          try clear hfz9_1
          try clear hfz9_2
          try clear p2
          obtain ⟨x40_2, rfl, HA, HK2, BK105, HB⟩ := hrel
          cases gk with
          | zero => exact absurd HA.out (by simp [sat_Check.l0])
          | succ k2 =>
            have H := HA.out
            clear HA
            simp only [sat_Check.l0] at H
            by_cases c17 : x40_2 < (l0_1.length : Int)
            · rw [if_pos c17] at H
              have c17b0 : decide (x40_2 < (l0_1.length : Int)) = true := decide_eq_true c17
              clear c17
              replace H := Option.bind_eq_some_iff.mp H
              obtain ⟨t106, A180, H⟩ := H
              replace H : (if t106 = true then (sat_Check.l0 k2 (l0_1.length : Int) (wrap64 (x40_2 + 1)) a0_0 l0_1 a0_2) else (some false)) = some r := H
              have A18 := Aside0.mk A180
              clear A180
              by_cases c19 : t106 = true
              · subst c19
                have H1 : (sat_Check.l0 k2 (l0_1.length : Int) (wrap64 (x40_2 + 1)) a0_0 l0_1 a0_2) = some r := by rw [if_pos rfl] at H; exact H
                clear H
                have H := H1
                clear H1
                have H' := Aside0.mk H
                clear H
                have hcz20_0 : wr.cell? ⟨gb105, 0, none⟩ = some (.int .i64 a0_0) := (blk_cell BK105.out 0).trans rfl
                have hcz20_1 : wr.cell? ⟨gb105, 1, none⟩ = some (.slice A0_1 l0_1.length c0_1) := (blk_cell BK105.out 1).trans rfl
                have hcz20_2 : wr.cell? ⟨gb105, 2, none⟩ = some (.int .i64 a0_2) := (blk_cell BK105.out 2).trans rfl
                have hfz20_0 := blk_frozen BK105.out 0
                have hfz20_1 := blk_frozen BK105.out 1
                have hfz20_2 := blk_frozen BK105.out 2
                go_wp2_with (first | ((with_reducible refine gate_callee (f := 31) rfl ?_); refine goesL_ (some 45) rfl rfl Try.func31 (by kernel_rfl) rfl #[.agg #[.int .i64 a0_0, .slice A0_1 l0_1.length c0_1, .int .i64 a0_2], .int .i64 x40_2] rfl (by (try simp only [List.map_toArray, List.map_cons, List.map_nil]); first | done | rfl | (simp only [List.length_drop, List.length_take]; rfl)) ?_; (with_reducible refine (sat_wellFormed.calls k2 a0_0 _ _ l0_1 a0_2 x40_2 true _ ?side1 ?side2 A18.out).mono ?_); (case side1 => repeat (first | exact (Kd.C_below HR0_1.out HB.out) | (with_reducible refine Kd.C_alloc ?_ _) | (with_reducible refine Kd.C_drewN ?_ _) | (with_reducible refine Kd.C_drew ?_))); (case side2 => exact HC0_1.out); rintro e w21 ⟨rfl, hb⟩; refine ⟨_, rfl, ?_⟩; have n0_ := Aside0.mk (blk_below (g := gb105) (o := .cells #[.int .i64 a0_0, .slice A0_1 l0_1.length c0_1, .int .i64 a0_2] 24 (0, 0)) (by (with_reducible repeat (first | refine blk_drewN ?_ _ | refine blk_drew ?_ | refine blk_alloc ?_ _)); exact BK105.out) hb); have n1_ := Aside0.mk (below_step (by repeat (first | (with_reducible first | exact HB.out | apply below_alloc | apply pw_below_drewN | apply below_drew1 | refine below_set ?_ GE105.out) | exact HB.out)) hb); clear BK105; clear HB; have BK105 := n0_; have HB := n1_; clear n0_ n1_; (try clear hb); (try clear hb2); (try clear hk); (try clear hi)))
                go_roundg k2
                case measure => have := HJ1.out; have := HK2.out; omega
                case rel => exact ⟨(wrap64 (x40_2 + 1)), (by first | rfl | (simp; done) | (simp [*]; done)), H', ⟨by have := HJ1.out; have := HK2.out; omega⟩, ⟨by (with_reducible repeat (first | refine blk_drewN ?_ _ | refine blk_drew ?_ | refine blk_alloc ?_ _)); exact BK105.out⟩, ⟨by repeat (first | (with_reducible first | exact HB.out | apply below_alloc | apply pw_below_drewN | apply below_drew1 | refine below_set ?_ GE105.out) | exact HB.out)⟩⟩
              · replace c19 := Bool.eq_false_iff.mpr c19
                subst c19
                have H1 : (some false) = some r := by rw [if_neg (show ¬ (false = true) by decide)] at H; exact H
                clear H
                have H := H1
                clear H1
                obtain rfl := Option.some.inj H
                have hcz22_0 : wr.cell? ⟨gb105, 0, none⟩ = some (.int .i64 a0_0) := (blk_cell BK105.out 0).trans rfl
                have hcz22_1 : wr.cell? ⟨gb105, 1, none⟩ = some (.slice A0_1 l0_1.length c0_1) := (blk_cell BK105.out 1).trans rfl
                have hcz22_2 : wr.cell? ⟨gb105, 2, none⟩ = some (.int .i64 a0_2) := (blk_cell BK105.out 2).trans rfl
                have hfz22_0 := blk_frozen BK105.out 0
                have hfz22_1 := blk_frozen BK105.out 1
                have hfz22_2 := blk_frozen BK105.out 2
                go_wp2_with (first | ((with_reducible refine gate_callee (f := 31) rfl ?_); refine goesL_ (some 45) rfl rfl Try.func31 (by kernel_rfl) rfl #[.agg #[.int .i64 a0_0, .slice A0_1 l0_1.length c0_1, .int .i64 a0_2], .int .i64 x40_2] rfl (by (try simp only [List.map_toArray, List.map_cons, List.map_nil]); first | done | rfl | (simp only [List.length_drop, List.length_take]; rfl)) ?_; (with_reducible refine (sat_wellFormed.calls k2 a0_0 _ _ l0_1 a0_2 x40_2 false _ ?side1 ?side2 A18.out).mono ?_); (case side1 => repeat (first | exact (Kd.C_below HR0_1.out HB.out) | (with_reducible refine Kd.C_alloc ?_ _) | (with_reducible refine Kd.C_drewN ?_ _) | (with_reducible refine Kd.C_drew ?_))); (case side2 => exact HC0_1.out); rintro e w23 ⟨rfl, hb⟩; refine ⟨_, rfl, ?_⟩; have n0_ := Aside0.mk (blk_below (g := gb105) (o := .cells #[.int .i64 a0_0, .slice A0_1 l0_1.length c0_1, .int .i64 a0_2] 24 (0, 0)) (by (with_reducible repeat (first | refine blk_drewN ?_ _ | refine blk_drew ?_ | refine blk_alloc ?_ _)); exact BK105.out) hb); have n1_ := Aside0.mk (below_step (by repeat (first | (with_reducible first | exact HB.out | apply below_alloc | apply pw_below_drewN | apply below_drew1 | refine below_set ?_ GE105.out) | exact HB.out)) hb); clear BK105; clear HB; have BK105 := n0_; have HB := n1_; clear n0_ n1_; (try clear hb); (try clear hb2); (try clear hk); (try clear hi)))
                go_ret
                exact ⟨by first | rfl | (simp [errW_none, errW_some] <;> rfl) | (simp [*, errW_none, errW_some] <;> rfl), by repeat (first | (with_reducible first | exact HB.out | apply below_alloc | apply pw_below_drewN | apply below_drew1 | refine below_set ?_ GE105.out) | exact HB.out)⟩
            · rw [if_neg c17] at H
              have c17b0 : decide (x40_2 < (l0_1.length : Int)) = false := decide_eq_false c17
              clear c17
              obtain rfl := Option.some.inj H
              go_wp2
              go_ret
              exact ⟨by first | rfl | (simp [errW_none, errW_some] <;> rfl) | (simp [*, errW_none, errW_some] <;> rfl), by repeat (first | (with_reducible first | exact HB.out | apply below_alloc | apply pw_below_drewN | apply below_drew1 | refine below_set ?_ GE105.out) | exact HB.out)⟩

end Go.Proofs.Ytflknolnclnhfaa.P
