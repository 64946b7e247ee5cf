-- Written by the session's own program wip/tools/xprint.py out of the translation, with the kit's print.py on a scratch copy; functions given by hand stand among them.
import Derived.Test.YtflknolnclnhfaaPx0
namespace Go.Proofs.Ytflknolnclnhfaa.P
open Go.RowKit Go.Proofs.YtflknolnclnhfaaW.PrintWords Go.Proofs.YtflknolnclnhfaaW.PrintLast Go.Proofs.YtflknolnclnhfaaW.PrintMore
attribute [local go_sem] max2_int min2_int max_two min_two max_three min_three max_four min_four   -- for this text's walks alone
set_option linter.unusedVariables false
set_option linter.unusedSimpArgs false

/-! ### pentaglotref27_gate: function 30 -/
mutual
def pentaglotref27_gate.l0 : Nat → Int → Int → Int → Int → Int → List Int → Option (Bool)
  | 0, _, _, _, _, _, _ => none
  | k + 1, x1, x2, x7, x192000, x192001, x192002 => if x7 < (x192002.length : Int) then (if 0 ≤ x7 then (if (rd x192002 x7) < 0 then (some false) else (if (rd x192002 x7) ≥ x1 then (some false) else (pentaglotref27_gate.l0 k x1 x2 (wrap64 (x7 + 1)) x192000 x192001 x192002))) else (none)) else (if x192000 = 1 then (pentaglotref27_gate.j1 k x2 x192000 (x192000 == 1) x192000 x192001 x192002) else (pentaglotref27_gate.j1 k x2 x192000 (x192000 == 2) x192000 x192001 x192002))
def pentaglotref27_gate.j1 : Nat → Int → Int → Bool → Int → Int → List Int → Option (Bool)
  | 0, _, _, _, _, _, _ => none
  | k + 1, x2, x31, x32, x192000, x192001, x192002 => if x32 = true then (if x192001 = 0 then (some ((x192002.length : Int) == 0)) else (some false)) else (if x31 = 3 then (if x192001 ≥ 0 then (if x192001 < x2 then (some ((x192002.length : Int) == 0)) else (some false)) else (some false)) else (if x31 = 4 then (if x192001 = 0 then (some ((x192002.length : Int) == 1)) else (some false)) else (if x31 = 5 then (some (x192001 == 0)) else (if x31 = 6 then (some (x192001 == 0)) else (some false)))))
end
def pentaglotref27_gate.f (k : Nat) (a0_0 : Int) (a0_1 : Int) (l0_2 : List Int) (a1 : Int) (a2 : Int) : Option (Bool) := pentaglotref27_gate.l0 k a1 a2 0 a0_0 a0_1 l0_2
theorem pentaglotref27_gate.mono_l : ∀ k, (∀ y0 y1 y2 y3 y4 y5, LeO (pentaglotref27_gate.l0 k y0 y1 y2 y3 y4 y5) (pentaglotref27_gate.l0 (k + 1) y0 y1 y2 y3 y4 y5)) ∧ (∀ y0 y1 y2 y3 y4 y5, LeO (pentaglotref27_gate.j1 k y0 y1 y2 y3 y4 y5) (pentaglotref27_gate.j1 (k + 1) y0 y1 y2 y3 y4 y5))
  | 0 => ⟨fun _ _ _ _ _ _ r h => by simp [pentaglotref27_gate.l0] at h, fun _ _ _ _ _ _ r h => by simp [pentaglotref27_gate.j1] at h⟩
  | k + 1 => by
    obtain ⟨ih0, ih1⟩ := pentaglotref27_gate.mono_l k
    refine ⟨?_, ?_⟩
    · intro y0 y1 y2 y3 y4 y5
      unfold pentaglotref27_gate.l0
      repeat' first
      | (with_reducible exact ih0 _ _ _ _ _ _)
      | (with_reducible exact ih1 _ _ _ _ _ _)
      | (with_reducible exact LeO.refl _)
      | (with_reducible exact LeO.none _)
      | (with_reducible refine LeO.ite ?_ ?_)
      | (with_reducible refine LeO.bind ?_ (fun _ => ?_))
      | exact ih0 _ _ _ _ _ _
      | exact ih1 _ _ _ _ _ _
      | exact LeO.none _
      | refine LeO.ite ?_ ?_
      | refine LeO.bind ?_ (fun _ => ?_)
    · intro y0 y1 y2 y3 y4 y5
      unfold pentaglotref27_gate.j1
      repeat' first
      | (with_reducible exact ih0 _ _ _ _ _ _)
      | (with_reducible exact ih1 _ _ _ _ _ _)
      | (with_reducible exact LeO.refl _)
      | (with_reducible exact LeO.none _)
      | (with_reducible refine LeO.ite ?_ ?_)
      | (with_reducible refine LeO.bind ?_ (fun _ => ?_))
      | exact ih0 _ _ _ _ _ _
      | exact ih1 _ _ _ _ _ _
      | exact LeO.none _
      | refine LeO.ite ?_ ?_
      | refine LeO.bind ?_ (fun _ => ?_)
theorem pentaglotref27_gate.mono : ∀ a0 a1 a2 a3 a4 k, LeO (pentaglotref27_gate.f k a0 a1 a2 a3 a4) (pentaglotref27_gate.f (k + 1) a0 a1 a2 a3 a4) := by
  intro a0 a1 a2 a3 a4 k
  obtain ⟨ih0, ih1⟩ := pentaglotref27_gate.mono_l k
  unfold pentaglotref27_gate.f
  repeat' first
      | (with_reducible exact ih0 _ _ _ _ _ _)
      | (with_reducible exact ih1 _ _ _ _ _ _)
      | (with_reducible exact LeO.refl _)
      | (with_reducible exact LeO.none _)
      | (with_reducible refine LeO.ite ?_ ?_)
      | (with_reducible refine LeO.bind ?_ (fun _ => ?_))
      | exact ih0 _ _ _ _ _ _
      | exact ih1 _ _ _ _ _ _
      | exact LeO.none _
      | refine LeO.ite ?_ ?_
      | refine LeO.bind ?_ (fun _ => ?_)
set_option maxHeartbeats 8000000 in
set_option maxRecDepth 100000 in
theorem pentaglotref27_gate.calls (k : Nat) (a0_0 : Int) (a0_1 : Int) (A0_2 : Option Addr) (c0_2 : Nat) (l0_2 : List Int) (a1 : Int) (a2 : Int) (r : Bool) (w : World) (hr0_2 : Kd.C (Kd.int .i64) w A0_2 l0_2.length l0_2) (hc0_2 : l0_2.length ≤ c0_2) (h : pentaglotref27_gate.f k a0_0 a0_1 l0_2 a1 a2 = some r) :
    Calls Try.prog 30 #[.agg #[.int .i64 a0_0, .int .i64 a0_1, .slice A0_2 l0_2.length c0_2], .int .i64 a1, .int .i64 a2] w fun e w' => e = .returned (.bool r) ∧ Below w.heap.size w w' := by
  have hu52 := Try.underlying52
  have HR0_2 := Aside0.mk hr0_2
  have HC0_2 := Aside0.mk hc0_2
  clear hr0_2 hc0_2
  have HB := Aside0.mk (Below.refl w.heap.size w)
  have H : (pentaglotref27_gate.l0 k a1 a2 0 a0_0 a0_1 l0_2) = some r := h
  clear h
  have H' := Aside0.mk H
  clear H
  go_enter Try.func30, Try.ntmps30
  go_wp2_with (first | ((with_reducible refine gate_dst (N := 3) rfl ?_); (try (refine gate_guard (by rfl) ?_; dsimp only)); refine box_event ?hg (N := 3) ?hd (cs := #[.int .i64 a0_0, .int .i64 a0_1, .slice A0_2 l0_2.length c0_2]) (t := 52) ?hr ?_; (case hd => rfl); (case hg => rfl); (case hr => first | (go_simp; done) | (go_simp; rfl)); intro gb191 hg w4 hbox hb; have n0_ := Aside0.mk (below_step (by repeat (first | (with_reducible first | exact HB.out | apply below_alloc | apply pw_below_drewN | apply below_drew1) | exact HB.out)) hb); have n1_ := Aside0.mk (hbox); have n2_ := Aside0.mk ((by rw [hg]; exact (below_size (by repeat (first | (with_reducible first | exact HB.out | apply below_alloc | apply pw_below_drewN | apply below_drew1) | exact HB.out))) : w.heap.size ≤ gb191)); have n3_ := Aside0.mk ((by rw [hg]; exact (below_size (by repeat (first | (with_reducible first | exact HB.out | apply below_alloc | apply pw_below_drewN | apply below_drew1) | exact HB.out))) : w.heap.size ≤ gb191)); clear HB; have HB := n0_; have BK191 := n1_; have GW191 := n2_; have GE191 := n3_; clear n0_ n1_ n2_ n3_; clear hb hbox hg))
  go_loopg [7] k (fun kq v7 w' => ∃ (x7_1 : Int), v7 = .int .i64 x7_1 ∧ Aside0 (pentaglotref27_gate.l0 kq a1 a2 x7_1 a0_0 a0_1 l0_2 = some r) ∧ Aside0 (kq ≤ k) ∧ Aside0 (w'.heap[gb191]? = some (.cells #[.int .i64 a0_0, .int .i64 a0_1, (.slice A0_2 l0_2.length c0_2)] 52 (0, 0))) ∧ Aside0 (Below w.heap.size w w'))
  case atStart => exact ⟨(0), (by first | rfl | (simp; done) | (simp [*]; done)), H', ⟨Nat.le_refl _⟩, ⟨by (with_reducible repeat (first | refine blk_drewN ?_ _ | refine blk_drew ?_ | refine blk_alloc ?_ _)); exact BK191.out⟩, ⟨by repeat (first | (with_reducible first | exact HB.out | apply below_alloc | apply pw_below_drewN | apply below_drew1 | refine below_set ?_ GE191.out) | exact HB.out)⟩⟩
  case round =>
    clear H'
    try clear p2
    try clear c3
    obtain ⟨x7_1, rfl, HA, HK1, BK191, HB⟩ := hrel
    cases gk with
    | zero => exact absurd HA.out (by simp [pentaglotref27_gate.l0])
    | succ k1 =>
      have H := HA.out
      clear HA
      simp only [pentaglotref27_gate.l0] at H
      by_cases c5 : x7_1 < (l0_2.length : Int)
      · rw [if_pos c5] at H
        have c5b0 : decide (x7_1 < (l0_2.length : Int)) = true := decide_eq_true c5
        clear c5
        by_cases c6 : 0 ≤ x7_1
        · rw [if_pos c6] at H
          have c6b0 : decide (0 ≤ x7_1) = true := decide_eq_true c6
          clear c6
          by_cases c7 : (rd l0_2 x7_1) < 0
          · rw [if_pos c7] at H
            have c7b0 : decide ((rd l0_2 x7_1) < 0) = true := decide_eq_true c7
            clear c7
            obtain rfl := Option.some.inj H
            have hcz8_0 : wr.cell? ⟨gb191, 0, none⟩ = some (.int .i64 a0_0) := (blk_cell BK191.out 0).trans rfl
            have hcz8_1 : wr.cell? ⟨gb191, 1, none⟩ = some (.int .i64 a0_1) := (blk_cell BK191.out 1).trans rfl
            have hcz8_2 : wr.cell? ⟨gb191, 2, none⟩ = some (.slice A0_2 l0_2.length c0_2) := (blk_cell BK191.out 2).trans rfl
            have hfz8_0 := blk_frozen BK191.out 0
            have hfz8_1 := blk_frozen BK191.out 1
            have hfz8_2 := blk_frozen BK191.out 2
            have p192 : 0 ≤ (x7_1 : Int) := of_decide_eq_true (by first | (with_reducible assumption) | assumption)
            have q192 : x7_1 < (l0_2.length : Int) := of_decide_eq_true (by first | (with_reducible assumption) | assumption)
            obtain ⟨ad192, e192, hx192_0⟩ := Kd.at_int HR0_2.out x7_1 p192 q192
            cases e192
            replace hx192_0 := (HB.out.cell (World.block_lt_of_cell? w _ hx192_0)).trans hx192_0
            replace p192 := eq_true p192
            replace q192 := eq_true q192
            go_wp2
            go_ret
            exact ⟨by first | rfl | (simp [errW_none, errW_some] <;> rfl) | (simp [*, errW_none, errW_some] <;> rfl), by repeat (first | (with_reducible first | exact HB.out | apply below_alloc | apply pw_below_drewN | apply below_drew1 | refine below_set ?_ GE191.out) | exact HB.out)⟩
          · rw [if_neg c7] at H
            have c7b0 : decide ((rd l0_2 x7_1) < 0) = false := decide_eq_false c7
            clear c7
            by_cases c9 : (rd l0_2 x7_1) ≥ a1
            · rw [if_pos c9] at H
              have c9b0 : decide (a1 ≤ (rd l0_2 x7_1)) = true := decide_eq_true c9
              clear c9
              obtain rfl := Option.some.inj H
              have hcz10_0 : wr.cell? ⟨gb191, 0, none⟩ = some (.int .i64 a0_0) := (blk_cell BK191.out 0).trans rfl
              have hcz10_1 : wr.cell? ⟨gb191, 1, none⟩ = some (.int .i64 a0_1) := (blk_cell BK191.out 1).trans rfl
              have hcz10_2 : wr.cell? ⟨gb191, 2, none⟩ = some (.slice A0_2 l0_2.length c0_2) := (blk_cell BK191.out 2).trans rfl
              have hfz10_0 := blk_frozen BK191.out 0
              have hfz10_1 := blk_frozen BK191.out 1
              have hfz10_2 := blk_frozen BK191.out 2
              have p192 : 0 ≤ (x7_1 : Int) := of_decide_eq_true (by first | (with_reducible assumption) | assumption)
              have q192 : x7_1 < (l0_2.length : Int) := of_decide_eq_true (by first | (with_reducible assumption) | assumption)
              obtain ⟨ad192, e192, hx192_0⟩ := Kd.at_int HR0_2.out x7_1 p192 q192
              cases e192
              replace hx192_0 := (HB.out.cell (World.block_lt_of_cell? w _ hx192_0)).trans hx192_0
              replace p192 := eq_true p192
              replace q192 := eq_true q192
              have p193 : 0 ≤ (x7_1 : Int) := of_decide_eq_true (by first | (with_reducible assumption) | assumption)
              have q193 : x7_1 < (l0_2.length : Int) := of_decide_eq_true (by first | (with_reducible assumption) | assumption)
              obtain ⟨ad193, e193, hx193_0⟩ := Kd.at_int HR0_2.out x7_1 p193 q193
              obtain rfl : ad192 = ad193 := (by injection e193)
              replace hx193_0 := (HB.out.cell (World.block_lt_of_cell? w _ hx193_0)).trans hx193_0
              replace p193 := eq_true p193
              replace q193 := eq_true q193
              go_wp2
              go_ret
              exact ⟨by first | rfl | (simp [errW_none, errW_some] <;> rfl) | (simp [*, errW_none, errW_some] <;> rfl), by repeat (first | (with_reducible first | exact HB.out | apply below_alloc | apply pw_below_drewN | apply below_drew1 | refine below_set ?_ GE191.out) | exact HB.out)⟩
            · rw [if_neg c9] at H
              have c9b0 : decide (a1 ≤ (rd l0_2 x7_1)) = false := decide_eq_false c9
              clear c9
              have H' := Aside0.mk H
              clear H
              have hcz11_0 : wr.cell? ⟨gb191, 0, none⟩ = some (.int .i64 a0_0) := (blk_cell BK191.out 0).trans rfl
              have hcz11_1 : wr.cell? ⟨gb191, 1, none⟩ = some (.int .i64 a0_1) := (blk_cell BK191.out 1).trans rfl
              have hcz11_2 : wr.cell? ⟨gb191, 2, none⟩ = some (.slice A0_2 l0_2.length c0_2) := (blk_cell BK191.out 2).trans rfl
              have hfz11_0 := blk_frozen BK191.out 0
              have hfz11_1 := blk_frozen BK191.out 1
              have hfz11_2 := blk_frozen BK191.out 2
              have p192 : 0 ≤ (x7_1 : Int) := of_decide_eq_true (by first | (with_reducible assumption) | assumption)
              have q192 : x7_1 < (l0_2.length : Int) := of_decide_eq_true (by first | (with_reducible assumption) | assumption)
              obtain ⟨ad192, e192, hx192_0⟩ := Kd.at_int HR0_2.out x7_1 p192 q192
              cases e192
              replace hx192_0 := (HB.out.cell (World.block_lt_of_cell? w _ hx192_0)).trans hx192_0
              replace p192 := eq_true p192
              replace q192 := eq_true q192
              have p193 : 0 ≤ (x7_1 : Int) := of_decide_eq_true (by first | (with_reducible assumption) | assumption)
              have q193 : x7_1 < (l0_2.length : Int) := of_decide_eq_true (by first | (with_reducible assumption) | assumption)
              obtain ⟨ad193, e193, hx193_0⟩ := Kd.at_int HR0_2.out x7_1 p193 q193
              obtain rfl : ad192 = ad193 := (by injection e193)
              replace hx193_0 := (HB.out.cell (World.block_lt_of_cell? w _ hx193_0)).trans hx193_0
              replace p193 := eq_true p193
              replace q193 := eq_true q193
              go_wp2
              go_roundg k1
              case measure => have := HK1.out; omega
              case rel => exact ⟨(wrap64 (x7_1 + 1)), (by first | rfl | (simp; done) | (simp [*]; done)), H', ⟨by have := HK1.out; omega⟩, ⟨by (with_reducible repeat (first | refine blk_drewN ?_ _ | refine blk_drew ?_ | refine blk_alloc ?_ _)); exact BK191.out⟩, ⟨by repeat (first | (with_reducible first | exact HB.out | apply below_alloc | apply pw_below_drewN | apply below_drew1 | refine below_set ?_ GE191.out) | exact HB.out)⟩⟩
        · rw [if_neg c6] at H
          exact absurd H (by simp)
      · rw [if_neg c5] at H
        have c5b0 : decide (x7_1 < (l0_2.length : Int)) = false := decide_eq_false c5
        clear c5
        have HC12 := Aside0.mk H
        clear H
        have hcz13_0 : wr.cell? ⟨gb191, 0, none⟩ = some (.int .i64 a0_0) := (blk_cell BK191.out 0).trans rfl
        have hcz13_1 : wr.cell? ⟨gb191, 1, none⟩ = some (.int .i64 a0_1) := (blk_cell BK191.out 1).trans rfl
        have hcz13_2 : wr.cell? ⟨gb191, 2, none⟩ = some (.slice A0_2 l0_2.length c0_2) := (blk_cell BK191.out 2).trans rfl
        have hfz13_0 := blk_frozen BK191.out 0
        have hfz13_1 := blk_frozen BK191.out 1
        have hfz13_2 := blk_frozen BK191.out 2
        go_upto_if 32 with (fail)
        go_cut [32] (fun v32 wc => ∃ (kq : Nat) (x32_11 : Bool), v32 = .bool x32_11 ∧ Aside0 (pentaglotref27_gate.j1 kq a2 a0_0 x32_11 a0_0 a0_1 l0_2 = some r) ∧ Aside0 (kq ≤ k1) ∧ Aside0 (wc.heap[gb191]? = some (.cells #[.int .i64 a0_0, .int .i64 a0_1, (.slice A0_2 l0_2.length c0_2)] 52 (0, 0))) ∧ Aside0 (Below w.heap.size w wc))
        case first =>
          have H := HC12.out
          clear HC12
          by_cases c14 : a0_0 = 1
          · rw [if_pos c14] at H
            have c14b0 : (a0_0 == 1) = true := beq_iff_eq.mpr c14
            have c14b1 : (a0_0 != 1) = false := bne_eq_false_iff_eq.mpr c14
            clear c14
            (first | rw [c14b0] | (simp only [i64_w, i32_w]; rw [c14b0]) | skip)
            have H' := Aside0.mk H
            clear H
            go_wp2
            go_meet
            case rel => exact ⟨_, ((a0_0 == 1)), (by first | rfl | (simp; done) | (simp [*]; done)), H', ⟨by have := HK1.out; first | omega | exact Nat.le_refl _⟩, ⟨by (with_reducible repeat (first | refine blk_drewN ?_ _ | refine blk_drew ?_ | refine blk_alloc ?_ _)); exact BK191.out⟩, ⟨by repeat (first | (with_reducible first | exact HB.out | apply below_alloc | apply pw_below_drewN | apply below_drew1 | refine below_set ?_ GE191.out) | exact HB.out)⟩⟩
          · rw [if_neg c14] at H
            have c14b0 : (a0_0 == 1) = false := beq_eq_false_iff_ne.mpr c14
            have c14b1 : (a0_0 != 1) = true := bne_iff_ne.mpr c14
            (first | rw [c14b0] | (simp only [i64_w, i32_w]; rw [c14b0]) | skip)
            have H' := Aside0.mk H
            clear H
            go_wp2
            go_meet
            case rel => exact ⟨_, ((a0_0 == 2)), (by first | rfl | (simp; done) | (simp [*]; done)), H', ⟨by have := HK1.out; first | omega | exact Nat.le_refl _⟩, ⟨by (with_reducible repeat (first | refine blk_drewN ?_ _ | refine blk_drew ?_ | refine blk_alloc ?_ _)); exact BK191.out⟩, ⟨by repeat (first | (with_reducible first | exact HB.out | apply below_alloc | apply pw_below_drewN | apply below_drew1 | refine below_set ?_ GE191.out) | exact HB.out)⟩⟩
        case rest =>
          clear HC12
          try clear c1
          try clear p1
          try clear q1
          try clear hx1
          try clear p2
          try clear c3
          try clear c5
          try clear c5b0
          try clear c6
          try clear c6b0
          try clear p6
          try clear c7
          try clear c7b0
          try clear c9
          try clear c9b0
          try clear c14
          try clear c14b0
          try clear c14b1
          try clear hcz10_0
          try clear hcz10_1
          try clear hcz10_2
          try clear hcz11_0
          try clear hcz11_1
          try clear hcz11_2
          try clear hcz13_0
          try clear hcz13_1
          try clear hcz13_2
          try clear hcz8_0
          try clear hcz8_1
          try clear hcz8_2
          try clear hfz10_0
          try clear hfz10_1
          try clear hfz10_2
          try clear hfz11_0
          try clear hfz11_1
          try clear hfz11_2
          try clear hfz13_0
          try clear hfz13_1
          try clear hfz13_2
          try clear hfz8_0
          try clear hfz8_1
          try clear hfz8_2
          try clear hx192_0
          try clear hx193_0
          try clear p192
          try clear p193
          try clear p2
          try clear q192
          try clear q193
          obtain ⟨kq, x32_11, rfl, HA, HJ11, BK191, HB⟩ := hcut
          cases kq with
          | zero => exact absurd HA.out (by simp [pentaglotref27_gate.j1])
          | succ kj11 =>
            have H := HA.out
            clear HA
            simp only [pentaglotref27_gate.j1] at H
            by_cases c15 : x32_11 = true
            · subst c15
              have H1 : (if a0_1 = 0 then (some ((l0_2.length : Int) == 0)) else (some false)) = some r := by rw [if_pos rfl] at H; exact H
              clear H
              have H := H1
              clear H1
              by_cases c16 : a0_1 = 0
              · rw [if_pos c16] at H
                have c16b0 : (a0_1 == 0) = true := beq_iff_eq.mpr c16
                have c16b1 : (a0_1 != 0) = false := bne_eq_false_iff_eq.mpr c16
                clear c16
                obtain rfl := Option.some.inj H
                have hcz17_0 : wc.cell? ⟨gb191, 0, none⟩ = some (.int .i64 a0_0) := (blk_cell BK191.out 0).trans rfl
                have hcz17_1 : wc.cell? ⟨gb191, 1, none⟩ = some (.int .i64 a0_1) := (blk_cell BK191.out 1).trans rfl
                have hcz17_2 : wc.cell? ⟨gb191, 2, none⟩ = some (.slice A0_2 l0_2.length c0_2) := (blk_cell BK191.out 2).trans rfl
                have hfz17_0 := blk_frozen BK191.out 0
                have hfz17_1 := blk_frozen BK191.out 1
                have hfz17_2 := blk_frozen BK191.out 2
                go_wp2
                go_ret
                exact ⟨by first | rfl | (simp [errW_none, errW_some] <;> rfl) | (simp [*, errW_none, errW_some] <;> rfl), by repeat (first | (with_reducible first | exact HB.out | apply below_alloc | apply pw_below_drewN | apply below_drew1 | refine below_set ?_ GE191.out) | exact HB.out)⟩
              · rw [if_neg c16] at H
                have c16b0 : (a0_1 == 0) = false := beq_eq_false_iff_ne.mpr c16
                have c16b1 : (a0_1 != 0) = true := bne_iff_ne.mpr c16
                obtain rfl := Option.some.inj H
                have hcz18_0 : wc.cell? ⟨gb191, 0, none⟩ = some (.int .i64 a0_0) := (blk_cell BK191.out 0).trans rfl
                have hcz18_1 : wc.cell? ⟨gb191, 1, none⟩ = some (.int .i64 a0_1) := (blk_cell BK191.out 1).trans rfl
                have hcz18_2 : wc.cell? ⟨gb191, 2, none⟩ = some (.slice A0_2 l0_2.length c0_2) := (blk_cell BK191.out 2).trans rfl
                have hfz18_0 := blk_frozen BK191.out 0
                have hfz18_1 := blk_frozen BK191.out 1
                have hfz18_2 := blk_frozen BK191.out 2
                go_wp2
                go_ret
                exact ⟨by first | rfl | (simp [errW_none, errW_some] <;> rfl) | (simp [*, errW_none, errW_some] <;> rfl), by repeat (first | (with_reducible first | exact HB.out | apply below_alloc | apply pw_below_drewN | apply below_drew1 | refine below_set ?_ GE191.out) | exact HB.out)⟩
            · replace c15 := Bool.eq_false_iff.mpr c15
              subst c15
              have H1 : (if a0_0 = 3 then (if a0_1 ≥ 0 then (if a0_1 < a2 then (some ((l0_2.length : Int) == 0)) else (some false)) else (some false)) else (if a0_0 = 4 then (if a0_1 = 0 then (some ((l0_2.length : Int) == 1)) else (some false)) else (if a0_0 = 5 then (some (a0_1 == 0)) else (if a0_0 = 6 then (some (a0_1 == 0)) else (some false))))) = some r := by rw [if_neg (show ¬ (false = true) by decide)] at H; exact H
              clear H
              have H := H1
              clear H1
              by_cases c19 : a0_0 = 3
              · rw [if_pos c19] at H
                have c19b0 : (a0_0 == 3) = true := beq_iff_eq.mpr c19
                have c19b1 : (a0_0 != 3) = false := bne_eq_false_iff_eq.mpr c19
                clear c19
                by_cases c20 : a0_1 ≥ 0
                · rw [if_pos c20] at H
                  have c20b0 : decide (0 ≤ a0_1) = true := decide_eq_true c20
                  clear c20
                  by_cases c21 : a0_1 < a2
                  · rw [if_pos c21] at H
                    have c21b0 : decide (a0_1 < a2) = true := decide_eq_true c21
                    clear c21
                    obtain rfl := Option.some.inj H
                    have hcz22_0 : wc.cell? ⟨gb191, 0, none⟩ = some (.int .i64 a0_0) := (blk_cell BK191.out 0).trans rfl
                    have hcz22_1 : wc.cell? ⟨gb191, 1, none⟩ = some (.int .i64 a0_1) := (blk_cell BK191.out 1).trans rfl
                    have hcz22_2 : wc.cell? ⟨gb191, 2, none⟩ = some (.slice A0_2 l0_2.length c0_2) := (blk_cell BK191.out 2).trans rfl
                    have hfz22_0 := blk_frozen BK191.out 0
                    have hfz22_1 := blk_frozen BK191.out 1
                    have hfz22_2 := blk_frozen BK191.out 2
                    go_wp2
                    go_ret
                    exact ⟨by first | rfl | (simp [errW_none, errW_some] <;> rfl) | (simp [*, errW_none, errW_some] <;> rfl), by repeat (first | (with_reducible first | exact HB.out | apply below_alloc | apply pw_below_drewN | apply below_drew1 | refine below_set ?_ GE191.out) | exact HB.out)⟩
                  · rw [if_neg c21] at H
                    have c21b0 : decide (a0_1 < a2) = false := decide_eq_false c21
                    clear c21
                    obtain rfl := Option.some.inj H
                    have hcz23_0 : wc.cell? ⟨gb191, 0, none⟩ = some (.int .i64 a0_0) := (blk_cell BK191.out 0).trans rfl
                    have hcz23_1 : wc.cell? ⟨gb191, 1, none⟩ = some (.int .i64 a0_1) := (blk_cell BK191.out 1).trans rfl
                    have hcz23_2 : wc.cell? ⟨gb191, 2, none⟩ = some (.slice A0_2 l0_2.length c0_2) := (blk_cell BK191.out 2).trans rfl
                    have hfz23_0 := blk_frozen BK191.out 0
                    have hfz23_1 := blk_frozen BK191.out 1
                    have hfz23_2 := blk_frozen BK191.out 2
                    go_wp2
                    go_ret
                    exact ⟨by first | rfl | (simp [errW_none, errW_some] <;> rfl) | (simp [*, errW_none, errW_some] <;> rfl), by repeat (first | (with_reducible first | exact HB.out | apply below_alloc | apply pw_below_drewN | apply below_drew1 | refine below_set ?_ GE191.out) | exact HB.out)⟩
                · rw [if_neg c20] at H
                  have c20b0 : decide (0 ≤ a0_1) = false := decide_eq_false c20
                  clear c20
                  obtain rfl := Option.some.inj H
                  have hcz24_0 : wc.cell? ⟨gb191, 0, none⟩ = some (.int .i64 a0_0) := (blk_cell BK191.out 0).trans rfl
                  have hcz24_1 : wc.cell? ⟨gb191, 1, none⟩ = some (.int .i64 a0_1) := (blk_cell BK191.out 1).trans rfl
                  have hcz24_2 : wc.cell? ⟨gb191, 2, none⟩ = some (.slice A0_2 l0_2.length c0_2) := (blk_cell BK191.out 2).trans rfl
                  have hfz24_0 := blk_frozen BK191.out 0
                  have hfz24_1 := blk_frozen BK191.out 1
                  have hfz24_2 := blk_frozen BK191.out 2
                  go_wp2
                  go_ret
                  exact ⟨by first | rfl | (simp [errW_none, errW_some] <;> rfl) | (simp [*, errW_none, errW_some] <;> rfl), by repeat (first | (with_reducible first | exact HB.out | apply below_alloc | apply pw_below_drewN | apply below_drew1 | refine below_set ?_ GE191.out) | exact HB.out)⟩
              · rw [if_neg c19] at H
                have c19b0 : (a0_0 == 3) = false := beq_eq_false_iff_ne.mpr c19
                have c19b1 : (a0_0 != 3) = true := bne_iff_ne.mpr c19
                by_cases c25 : a0_0 = 4
                · rw [if_pos c25] at H
                  have c25b0 : (a0_0 == 4) = true := beq_iff_eq.mpr c25
                  have c25b1 : (a0_0 != 4) = false := bne_eq_false_iff_eq.mpr c25
                  clear c25
                  by_cases c26 : a0_1 = 0
                  · rw [if_pos c26] at H
                    have c26b0 : (a0_1 == 0) = true := beq_iff_eq.mpr c26
                    have c26b1 : (a0_1 != 0) = false := bne_eq_false_iff_eq.mpr c26
                    clear c26
                    obtain rfl := Option.some.inj H
                    have hcz27_0 : wc.cell? ⟨gb191, 0, none⟩ = some (.int .i64 a0_0) := (blk_cell BK191.out 0).trans rfl
                    have hcz27_1 : wc.cell? ⟨gb191, 1, none⟩ = some (.int .i64 a0_1) := (blk_cell BK191.out 1).trans rfl
                    have hcz27_2 : wc.cell? ⟨gb191, 2, none⟩ = some (.slice A0_2 l0_2.length c0_2) := (blk_cell BK191.out 2).trans rfl
                    have hfz27_0 := blk_frozen BK191.out 0
                    have hfz27_1 := blk_frozen BK191.out 1
                    have hfz27_2 := blk_frozen BK191.out 2
                    go_wp2
                    go_ret
                    exact ⟨by first | rfl | (simp [errW_none, errW_some] <;> rfl) | (simp [*, errW_none, errW_some] <;> rfl), by repeat (first | (with_reducible first | exact HB.out | apply below_alloc | apply pw_below_drewN | apply below_drew1 | refine below_set ?_ GE191.out) | exact HB.out)⟩
                  · rw [if_neg c26] at H
                    have c26b0 : (a0_1 == 0) = false := beq_eq_false_iff_ne.mpr c26
                    have c26b1 : (a0_1 != 0) = true := bne_iff_ne.mpr c26
                    obtain rfl := Option.some.inj H
                    have hcz28_0 : wc.cell? ⟨gb191, 0, none⟩ = some (.int .i64 a0_0) := (blk_cell BK191.out 0).trans rfl
                    have hcz28_1 : wc.cell? ⟨gb191, 1, none⟩ = some (.int .i64 a0_1) := (blk_cell BK191.out 1).trans rfl
                    have hcz28_2 : wc.cell? ⟨gb191, 2, none⟩ = some (.slice A0_2 l0_2.length c0_2) := (blk_cell BK191.out 2).trans rfl
                    have hfz28_0 := blk_frozen BK191.out 0
                    have hfz28_1 := blk_frozen BK191.out 1
                    have hfz28_2 := blk_frozen BK191.out 2
                    go_wp2
                    go_ret
                    exact ⟨by first | rfl | (simp [errW_none, errW_some] <;> rfl) | (simp [*, errW_none, errW_some] <;> rfl), by repeat (first | (with_reducible first | exact HB.out | apply below_alloc | apply pw_below_drewN | apply below_drew1 | refine below_set ?_ GE191.out) | exact HB.out)⟩
                · rw [if_neg c25] at H
                  have c25b0 : (a0_0 == 4) = false := beq_eq_false_iff_ne.mpr c25
                  have c25b1 : (a0_0 != 4) = true := bne_iff_ne.mpr c25
                  by_cases c29 : a0_0 = 5
                  · rw [if_pos c29] at H
                    have c29b0 : (a0_0 == 5) = true := beq_iff_eq.mpr c29
                    have c29b1 : (a0_0 != 5) = false := bne_eq_false_iff_eq.mpr c29
                    clear c29
                    obtain rfl := Option.some.inj H
                    have hcz30_0 : wc.cell? ⟨gb191, 0, none⟩ = some (.int .i64 a0_0) := (blk_cell BK191.out 0).trans rfl
                    have hcz30_1 : wc.cell? ⟨gb191, 1, none⟩ = some (.int .i64 a0_1) := (blk_cell BK191.out 1).trans rfl
                    have hcz30_2 : wc.cell? ⟨gb191, 2, none⟩ = some (.slice A0_2 l0_2.length c0_2) := (blk_cell BK191.out 2).trans rfl
                    have hfz30_0 := blk_frozen BK191.out 0
                    have hfz30_1 := blk_frozen BK191.out 1
                    have hfz30_2 := blk_frozen BK191.out 2
                    go_wp2
                    go_ret
                    exact ⟨by first | rfl | (simp [errW_none, errW_some] <;> rfl) | (simp [*, errW_none, errW_some] <;> rfl), by repeat (first | (with_reducible first | exact HB.out | apply below_alloc | apply pw_below_drewN | apply below_drew1 | refine below_set ?_ GE191.out) | exact HB.out)⟩
                  · rw [if_neg c29] at H
                    have c29b0 : (a0_0 == 5) = false := beq_eq_false_iff_ne.mpr c29
                    have c29b1 : (a0_0 != 5) = true := bne_iff_ne.mpr c29
                    by_cases c31 : a0_0 = 6
                    · rw [if_pos c31] at H
                      have c31b0 : (a0_0 == 6) = true := beq_iff_eq.mpr c31
                      have c31b1 : (a0_0 != 6) = false := bne_eq_false_iff_eq.mpr c31
                      clear c31
                      obtain rfl := Option.some.inj H
                      have hcz32_0 : wc.cell? ⟨gb191, 0, none⟩ = some (.int .i64 a0_0) := (blk_cell BK191.out 0).trans rfl
                      have hcz32_1 : wc.cell? ⟨gb191, 1, none⟩ = some (.int .i64 a0_1) := (blk_cell BK191.out 1).trans rfl
                      have hcz32_2 : wc.cell? ⟨gb191, 2, none⟩ = some (.slice A0_2 l0_2.length c0_2) := (blk_cell BK191.out 2).trans rfl
                      have hfz32_0 := blk_frozen BK191.out 0
                      have hfz32_1 := blk_frozen BK191.out 1
                      have hfz32_2 := blk_frozen BK191.out 2
                      go_wp2
                      go_ret
                      exact ⟨by first | rfl | (simp [errW_none, errW_some] <;> rfl) | (simp [*, errW_none, errW_some] <;> rfl), by repeat (first | (with_reducible first | exact HB.out | apply below_alloc | apply pw_below_drewN | apply below_drew1 | refine below_set ?_ GE191.out) | exact HB.out)⟩
                    · rw [if_neg c31] at H
                      have c31b0 : (a0_0 == 6) = false := beq_eq_false_iff_ne.mpr c31
                      have c31b1 : (a0_0 != 6) = true := bne_iff_ne.mpr c31
                      obtain rfl := Option.some.inj H
                      go_wp2
                      go_ret
                      exact ⟨by first | rfl | (simp [errW_none, errW_some] <;> rfl) | (simp [*, errW_none, errW_some] <;> rfl), by repeat (first | (with_reducible first | exact HB.out | apply below_alloc | apply pw_below_drewN | apply below_drew1 | refine below_set ?_ GE191.out) | exact HB.out)⟩

end Go.Proofs.Ytflknolnclnhfaa.P
