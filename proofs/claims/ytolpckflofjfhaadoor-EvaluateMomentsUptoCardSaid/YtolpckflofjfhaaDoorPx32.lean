-- Written by the session's own program wip/tools/xprint.py out of the translation, with the kit's print.py on a scratch copy; functions given by hand stand among them.
import Derived.Test.YtolpckflofjfhaaDoorPx0
import Derived.Test.YtolpckflofjfhaaDoorPx12
import Derived.Test.YtolpckflofjfhaaDoorPx13
import Derived.Test.YtolpckflofjfhaaDoorPx15
import Derived.Test.YtolpckflofjfhaaDoorPx16
import Derived.Test.YtolpckflofjfhaaDoorPx22
namespace Go.Proofs.YtolpckflofjfhaaDoor.P
open Go.RowKit Go.Proofs.YtolpckflofjfhaaDoorW.PrintWords Go.Proofs.YtolpckflofjfhaaDoorW.PrintLast Go.Proofs.YtolpckflofjfhaaDoorW.PrintMore
attribute [local go_sem] max2_int min2_int max_two min_two max_three min_three max_four min_four   -- for this text's walks alone
set_option linter.unusedVariables false
set_option linter.unusedSimpArgs false

/-! ### pentaglotlaw26_EvaluateMoments: function 5 -/
def pentaglotlaw26_EvaluateMoments.j0 : Nat → Int → Int → Bool → List (S73) → List Int → Int → List (S62) → Option (Bool)
 | 0, _, _, _, _, _, _, _ => none
 | k + 1, x1, x2, x24, x373000, x373001, x373002, x373003 => if x24 = true then (some true) else ((evaluate_Moments.f k x373000 x373001 x373002 x373003 x1 x2).bind fun bt374 => ((pentaglotref26_Interval.f k x373000 x373001 x373002 x1 x2).bind fun bt378 => (if bt378.2 = true then ((pentaglotref26_Proper.f k x373000 x373001 x373002).bind fun t382 => (if t382 = true then (if bt374.2 = 0 then ((pentaglotref22_SameInts.f k bt374.1 bt378.1).bind fun t383 => (some t383)) else (some false)) else (if (bt374.1.length : Int) = 0 then (some (bt374.2 == 1)) else (some false)))) else (if (bt374.1.length : Int) = 0 then (some (bt374.2 == 1)) else (some false)))))
def pentaglotlaw26_EvaluateMoments.f (k : Nat) (l0_0 : List (S73)) (l0_1 : List Int) (a0_2 : Int) (l0_3 : List (S62)) (a1 : Int) (a2 : Int) : Option (Bool) := (pentaglotlaw26_awake.f k).bind fun t373 => (if t373 = true then (if (l0_1.length : Int) > 100 then (pentaglotlaw26_EvaluateMoments.j0 k a1 a2 true l0_0 l0_1 a0_2 l0_3) else (pentaglotlaw26_EvaluateMoments.j0 k a1 a2 (decide ((l0_0.length : Int) > 100)) l0_0 l0_1 a0_2 l0_3)) else (some false))
theorem pentaglotlaw26_EvaluateMoments.mono_l : ∀ k, (∀ y0 y1 y2 y3 y4 y5 y6, LeO (pentaglotlaw26_EvaluateMoments.j0 k y0 y1 y2 y3 y4 y5 y6) (pentaglotlaw26_EvaluateMoments.j0 (k + 1) y0 y1 y2 y3 y4 y5 y6))
 | 0 => fun _ _ _ _ _ _ _ r h => by simp [pentaglotlaw26_EvaluateMoments.j0] at h
 | k + 1 => by
  have ih0 := pentaglotlaw26_EvaluateMoments.mono_l k
  ·intro y0 y1 y2 y3 y4 y5 y6
   unfold pentaglotlaw26_EvaluateMoments.j0
   repeat' first
   | (with_reducible exact ih0 _ _ _ _ _ _ _)
   | (with_reducible exact evaluate_Moments.mono _ _ _ _ _ _ _)
   | (with_reducible exact pentaglotlaw26_awake.mono _)
   | (with_reducible exact pentaglotref22_SameInts.mono _ _ _)
   | (with_reducible exact pentaglotref26_Interval.mono _ _ _ _ _ _)
   | (with_reducible exact pentaglotref26_Proper.mono _ _ _ _)
   | (with_reducible exact LeO.refl _)
   | (with_reducible exact LeO.none _)
   | (with_reducible refine LeO.ite ?_ ?_)
   | (with_reducible refine LeO.bind ?_ (fun _ => ?_))
   | exact ih0 _ _ _ _ _ _ _
   | exact evaluate_Moments.mono _ _ _ _ _ _ _
   | exact pentaglotlaw26_awake.mono _
   | exact pentaglotref22_SameInts.mono _ _ _
   | exact pentaglotref26_Interval.mono _ _ _ _ _ _
   | exact pentaglotref26_Proper.mono _ _ _ _
   | exact LeO.none _
   | refine LeO.ite ?_ ?_
   | refine LeO.bind ?_ (fun _ => ?_)
theorem pentaglotlaw26_EvaluateMoments.mono : ∀ a0 a1 a2 a3 a4 a5 k, LeO (pentaglotlaw26_EvaluateMoments.f k a0 a1 a2 a3 a4 a5) (pentaglotlaw26_EvaluateMoments.f (k + 1) a0 a1 a2 a3 a4 a5) := by
 intro a0 a1 a2 a3 a4 a5 k
 have ih0 := pentaglotlaw26_EvaluateMoments.mono_l k
 unfold pentaglotlaw26_EvaluateMoments.f
 repeat' first
   | (with_reducible exact ih0 _ _ _ _ _ _ _)
   | (with_reducible exact evaluate_Moments.mono _ _ _ _ _ _ _)
   | (with_reducible exact pentaglotlaw26_awake.mono _)
   | (with_reducible exact pentaglotref22_SameInts.mono _ _ _)
   | (with_reducible exact pentaglotref26_Interval.mono _ _ _ _ _ _)
   | (with_reducible exact pentaglotref26_Proper.mono _ _ _ _)
   | (with_reducible exact LeO.refl _)
   | (with_reducible exact LeO.none _)
   | (with_reducible refine LeO.ite ?_ ?_)
   | (with_reducible refine LeO.bind ?_ (fun _ => ?_))
   | exact ih0 _ _ _ _ _ _ _
   | exact evaluate_Moments.mono _ _ _ _ _ _ _
   | exact pentaglotlaw26_awake.mono _
   | exact pentaglotref22_SameInts.mono _ _ _
   | exact pentaglotref26_Interval.mono _ _ _ _ _ _
   | exact pentaglotref26_Proper.mono _ _ _ _
   | exact LeO.none _
   | refine LeO.ite ?_ ?_
   | refine LeO.bind ?_ (fun _ => ?_)
set_option maxHeartbeats 8000000 in
set_option maxRecDepth 100000 in
theorem pentaglotlaw26_EvaluateMoments.calls (k : Nat) (A0_0 : Option Addr) (c0_0 : Nat) (l0_0 : List (S73)) (A0_1 : Option Addr) (c0_1 : Nat) (l0_1 : List Int) (a0_2 : Int) (A0_3 : Option Addr) (c0_3 : Nat) (l0_3 : List (S62)) (a1 : Int) (a2 : Int) (r : Bool) (w : World) (hr0_0 : Kd.C k73 w A0_0 l0_0.length l0_0) (hc0_0 : l0_0.length ≤ c0_0) (hr0_1 : Kd.C (Kd.int .i64) w A0_1 l0_1.length l0_1) (hc0_1 : l0_1.length ≤ c0_1) (hr0_3 : Kd.C k62 w A0_3 l0_3.length l0_3) (hc0_3 : l0_3.length ≤ c0_3) (h : pentaglotlaw26_EvaluateMoments.f k l0_0 l0_1 a0_2 l0_3 a1 a2 = some r) (htb : Tb w) :
  Calls Tryd.prog 5 #[.agg #[.slice A0_0 l0_0.length c0_0, .slice A0_1 l0_1.length c0_1, .int .i64 a0_2, .slice A0_3 l0_3.length c0_3], .int .i64 a1, .int .i64 a2] w fun e w' => e = .returned (.bool r) ∧ Below w.heap.size w w' := by
 have HTB := Aside0.mk htb
 clear htb
 have hu28 := Tryd.underlying28
 have hu25 := Tryd.underlying25
 have HR0_0 := Aside0.mk hr0_0
 have HC0_0 := Aside0.mk hc0_0
 clear hr0_0 hc0_0
 have HR0_1 := Aside0.mk hr0_1
 have HC0_1 := Aside0.mk hc0_1
 clear hr0_1 hc0_1
 have HR0_3 := Aside0.mk hr0_3
 have HC0_3 := Aside0.mk hc0_3
 clear hr0_3 hc0_3
 have HB := Aside0.mk (Below.refl w.heap.size w)
 have H : ((pentaglotlaw26_awake.f k).bind fun t373 => (if t373 = true then (if (l0_1.length : Int) > 100 then (pentaglotlaw26_EvaluateMoments.j0 k a1 a2 true l0_0 l0_1 a0_2 l0_3) else (pentaglotlaw26_EvaluateMoments.j0 k a1 a2 (decide ((l0_0.length : Int) > 100)) l0_0 l0_1 a0_2 l0_3)) else (some false))) = some r := h
 clear h
 replace H := Option.bind_eq_some_iff.mp H
 obtain ⟨t373, A40, H⟩ := H
 replace H : (if t373 = true then (if (l0_1.length : Int) > 100 then (pentaglotlaw26_EvaluateMoments.j0 k a1 a2 true l0_0 l0_1 a0_2 l0_3) else (pentaglotlaw26_EvaluateMoments.j0 k a1 a2 (decide ((l0_0.length : Int) > 100)) l0_0 l0_1 a0_2 l0_3)) else (some false)) = some r := H
 have A4 := Aside0.mk A40
 clear A40
 by_cases c5 : t373 = true
 ·subst c5
  have H1 : (if (l0_1.length : Int) > 100 then (pentaglotlaw26_EvaluateMoments.j0 k a1 a2 true l0_0 l0_1 a0_2 l0_3) else (pentaglotlaw26_EvaluateMoments.j0 k a1 a2 (decide ((l0_0.length : Int) > 100)) l0_0 l0_1 a0_2 l0_3)) = some r := by rw [if_pos rfl] at H; exact H
  clear H
  have H := H1
  clear H1
  have HC6 := Aside0.mk H
  clear H
  go_enter Tryd.func5, Tryd.ntmps5
  go_upto_region 3 with (first | ((with_reducible refine gate_dst (N := 3) rfl ?_); (try (refine gate_guard (by rfl) ?_; dsimp only)); refine box_event ?hg (N := 3) ?hd (cs := #[.slice A0_0 l0_0.length c0_0, .slice A0_1 l0_1.length c0_1, .int .i64 a0_2, .slice A0_3 l0_3.length c0_3]) (t := 28) ?hr ?_; (case hd => rfl); (case hg => rfl); (case hr => first | (go_simp; done) | (go_simp; rfl)); intro gb372 hg w7 hbox hb; have n0_ := Aside0.mk (below_step (be_ HB) hb); have n1_ := Aside0.mk (hbox); have n2_ := Aside0.mk ((by rw [hg]; exact (below_size (be_ HB)) : w.heap.size ≤ gb372)); have n3_ := Aside0.mk ((by rw [hg]; exact (below_size (be_ HB)) : w.heap.size ≤ gb372)); clear HB; have HB := n0_; have BK372 := n1_; have GW372 := n2_; have GE372 := n3_; clear n0_ n1_ n2_ n3_; clear hb hbox hg) | ((with_reducible refine gate_callee (f := 12) rfl ?_); refine goesL_ (some 11) rfl rfl Tryd.func12 (by kernel_rfl) rfl #[] rfl (by (try simp only [List.map_toArray, List.map_cons, List.map_nil]); first | done | rfl | (simp only [List.length_drop, List.length_take]; rfl)) ?_; (with_reducible refine (pentaglotlaw26_awake.calls k  true _ A4.out (tb_on HTB.out (be1_ HB GE372))).mono ?_); rintro e w8 ⟨rfl, hb⟩; refine ⟨_, rfl, ?_⟩; have n0_ := Aside0.mk (blk_below (g := gb372) (o := .cells #[.slice A0_0 l0_0.length c0_0, .slice A0_1 l0_1.length c0_1, .int .i64 a0_2, .slice A0_3 l0_3.length c0_3] 28 (0, 0)) (bq_ BK372) hb); have n1_ := Aside0.mk (below_step (be1_ HB GE372) hb); clear BK372; clear HB; have BK372 := n0_; have HB := n1_; clear n0_ n1_; (try clear hb); (try clear hb2); (try clear hk); (try clear hi)))
  (try simp only [Act.put, List.setIfInBounds_toArray, List.set_cons_zero, List.set_cons_succ])
  go_cut [24] (fun v24 wc => ∃ (kq : Nat) (x24_5 : Bool), v24 = .bool x24_5 ∧ Aside0 (pentaglotlaw26_EvaluateMoments.j0 kq a1 a2 x24_5 l0_0 l0_1 a0_2 l0_3 = some r) ∧ Aside0 (kq ≤ k) ∧ Aside0 (wc.heap[gb372]? = some (.cells #[(.slice A0_0 l0_0.length c0_0), (.slice A0_1 l0_1.length c0_1), .int .i64 a0_2, (.slice A0_3 l0_3.length c0_3)] 28 (0, 0))) ∧ Aside0 (Below w.heap.size w wc))
  case first =>
   have H := HC6.out
   clear HC6
   by_cases c9 : (l0_1.length : Int) > 100
   ·rw [if_pos c9] at H
    have c9b0 : decide (100 < (l0_1.length : Int)) = true := decide_eq_true c9
    have c9b1 : decide (100 < l0_1.length) = true := decide_eq_true (by omega)
    clear c9
    (first | rw [c9b0] | (simp only [i64_w, i32_w]; rw [c9b0]) | skip)
    have H' := Aside0.mk H
    clear H
    have hcz10_0 : w8.cell? ⟨gb372, 0, none⟩ = some (.slice A0_0 l0_0.length c0_0) := (blk_cell BK372.out 0).trans rfl
    have hcz10_1 : w8.cell? ⟨gb372, 1, none⟩ = some (.slice A0_1 l0_1.length c0_1) := (blk_cell BK372.out 1).trans rfl
    have hcz10_2 : w8.cell? ⟨gb372, 2, none⟩ = some (.int .i64 a0_2) := (blk_cell BK372.out 2).trans rfl
    have hcz10_3 : w8.cell? ⟨gb372, 3, none⟩ = some (.slice A0_3 l0_3.length c0_3) := (blk_cell BK372.out 3).trans rfl
    have hfz10_0 := blk_frozen BK372.out 0
    have hfz10_1 := blk_frozen BK372.out 1
    have hfz10_2 := blk_frozen BK372.out 2
    have hfz10_3 := blk_frozen BK372.out 3
    go_wp2
    go_meet
    case rel => exact ⟨_, (true), fi_, H', ⟨by first | omega | exact Nat.le_refl _⟩, ⟨bq_ BK372⟩, ⟨be1_ HB GE372⟩⟩
   ·rw [if_neg c9] at H
    have c9b0 : decide (100 < (l0_1.length : Int)) = false := decide_eq_false c9
    have c9b1 : decide (100 < l0_1.length) = false := decide_eq_false (by omega)
    clear c9
    (first | rw [c9b0] | (simp only [i64_w, i32_w]; rw [c9b0]) | skip)
    have H' := Aside0.mk H
    clear H
    have hcz11_0 : w8.cell? ⟨gb372, 0, none⟩ = some (.slice A0_0 l0_0.length c0_0) := (blk_cell BK372.out 0).trans rfl
    have hcz11_1 : w8.cell? ⟨gb372, 1, none⟩ = some (.slice A0_1 l0_1.length c0_1) := (blk_cell BK372.out 1).trans rfl
    have hcz11_2 : w8.cell? ⟨gb372, 2, none⟩ = some (.int .i64 a0_2) := (blk_cell BK372.out 2).trans rfl
    have hcz11_3 : w8.cell? ⟨gb372, 3, none⟩ = some (.slice A0_3 l0_3.length c0_3) := (blk_cell BK372.out 3).trans rfl
    have hfz11_0 := blk_frozen BK372.out 0
    have hfz11_1 := blk_frozen BK372.out 1
    have hfz11_2 := blk_frozen BK372.out 2
    have hfz11_3 := blk_frozen BK372.out 3
    go_wp2
    go_meet
    case rel => exact ⟨_, (decide ((l0_0.length : Int) > 100)), fi_, H', ⟨by first | omega | exact Nat.le_refl _⟩, ⟨bq_ BK372⟩, ⟨be1_ HB GE372⟩⟩
  case rest =>
   clear HC6
   try clear c1
   try clear p2
   try clear c5
   try clear c9
   try clear c9b0
   try clear c9b1
   try clear hcz10_0
   try clear hcz10_1
   try clear hcz10_2
   try clear hcz10_3
   try clear hcz11_0
   try clear hcz11_1
   try clear hcz11_2
   try clear hcz11_3
   try clear hfz10_0
   try clear hfz10_1
   try clear hfz10_2
   try clear hfz10_3
   try clear hfz11_0
   try clear hfz11_1
   try clear hfz11_2
   try clear hfz11_3
   obtain ⟨kq, x24_5, rfl, HA, HJ5, BK372, HB⟩ := hcut
   cases kq with
   | zero => exact absurd HA.out (by simp [pentaglotlaw26_EvaluateMoments.j0])
   | succ kj5 =>
    have H := HA.out
    clear HA
    simp only [pentaglotlaw26_EvaluateMoments.j0] at H
    by_cases c12 : x24_5 = true
    ·subst c12
     have H1 : (some true) = some r := by rw [if_pos rfl] at H; exact H
     clear H
     have H := H1
     clear H1
     obtain rfl := Option.some.inj H
     go_wp2
     go_ret
     exact ⟨er_, be1_ HB GE372⟩
    ·replace c12 := Bool.eq_false_iff.mpr c12
     subst c12
     have H1 : ((evaluate_Moments.f kj5 l0_0 l0_1 a0_2 l0_3 a1 a2).bind fun bt374 => ((pentaglotref26_Interval.f kj5 l0_0 l0_1 a0_2 a1 a2).bind fun bt378 => (if bt378.2 = true then ((pentaglotref26_Proper.f kj5 l0_0 l0_1 a0_2).bind fun t382 => (if t382 = true then (if bt374.2 = 0 then ((pentaglotref22_SameInts.f kj5 bt374.1 bt378.1).bind fun t383 => (some t383)) else (some false)) else (if (bt374.1.length : Int) = 0 then (some (bt374.2 == 1)) else (some false)))) else (if (bt374.1.length : Int) = 0 then (some (bt374.2 == 1)) else (some false))))) = some r := by rw [if_neg (show ¬ (false = true) by decide)] at H; exact H
     clear H
     have H := H1
     clear H1
     replace H := Option.bind_eq_some_iff.mp H
     obtain ⟨⟨t374, t377⟩, A130, H⟩ := H
     replace H : ((pentaglotref26_Interval.f kj5 l0_0 l0_1 a0_2 a1 a2).bind fun bt378 => (if bt378.2 = true then ((pentaglotref26_Proper.f kj5 l0_0 l0_1 a0_2).bind fun t382 => (if t382 = true then (if t377 = 0 then ((pentaglotref22_SameInts.f kj5 t374 bt378.1).bind fun t383 => (some t383)) else (some false)) else (if (t374.length : Int) = 0 then (some (t377 == 1)) else (some false)))) else (if (t374.length : Int) = 0 then (some (t377 == 1)) else (some false)))) = some r := H
     have A13 := Aside0.mk A130
     clear A130
     replace H := Option.bind_eq_some_iff.mp H
     obtain ⟨⟨t378, t381⟩, A140, H⟩ := H
     replace H : (if t381 = true then ((pentaglotref26_Proper.f kj5 l0_0 l0_1 a0_2).bind fun t382 => (if t382 = true then (if t377 = 0 then ((pentaglotref22_SameInts.f kj5 t374 t378).bind fun t383 => (some t383)) else (some false)) else (if (t374.length : Int) = 0 then (some (t377 == 1)) else (some false)))) else (if (t374.length : Int) = 0 then (some (t377 == 1)) else (some false))) = some r := H
     have A14 := Aside0.mk A140
     clear A140
     by_cases c15 : t381 = true
     ·subst c15
      have H1 : ((pentaglotref26_Proper.f kj5 l0_0 l0_1 a0_2).bind fun t382 => (if t382 = true then (if t377 = 0 then ((pentaglotref22_SameInts.f kj5 t374 t378).bind fun t383 => (some t383)) else (some false)) else (if (t374.length : Int) = 0 then (some (t377 == 1)) else (some false)))) = some r := by rw [if_pos rfl] at H; exact H
      clear H
      have H := H1
      clear H1
      replace H := Option.bind_eq_some_iff.mp H
      obtain ⟨t382, A160, H⟩ := H
      replace H : (if t382 = true then (if t377 = 0 then ((pentaglotref22_SameInts.f kj5 t374 t378).bind fun t383 => (some t383)) else (some false)) else (if (t374.length : Int) = 0 then (some (t377 == 1)) else (some false))) = some r := H
      have A16 := Aside0.mk A160
      clear A160
      by_cases c17 : t382 = true
      ·subst c17
       have H1 : (if t377 = 0 then ((pentaglotref22_SameInts.f kj5 t374 t378).bind fun t383 => (some t383)) else (some false)) = some r := by rw [if_pos rfl] at H; exact H
       clear H
       have H := H1
       clear H1
       by_cases c18 : t377 = 0
       ·rw [if_pos c18] at H
        have c18b0 : (t377 == 0) = true := beq_iff_eq.mpr c18
        have c18b1 : (t377 != 0) = false := bne_eq_false_iff_eq.mpr c18
        clear c18
        replace H := Option.bind_eq_some_iff.mp H
        obtain ⟨t383, A190, H⟩ := H
        replace H : (some t383) = some r := H
        have A19 := Aside0.mk A190
        clear A190
        obtain rfl := Option.some.inj H
        have hcz20_0 : wc.cell? ⟨gb372, 0, none⟩ = some (.slice A0_0 l0_0.length c0_0) := (blk_cell BK372.out 0).trans rfl
        have hcz20_1 : wc.cell? ⟨gb372, 1, none⟩ = some (.slice A0_1 l0_1.length c0_1) := (blk_cell BK372.out 1).trans rfl
        have hcz20_2 : wc.cell? ⟨gb372, 2, none⟩ = some (.int .i64 a0_2) := (blk_cell BK372.out 2).trans rfl
        have hcz20_3 : wc.cell? ⟨gb372, 3, none⟩ = some (.slice A0_3 l0_3.length c0_3) := (blk_cell BK372.out 3).trans rfl
        have hfz20_0 := blk_frozen BK372.out 0
        have hfz20_1 := blk_frozen BK372.out 1
        have hfz20_2 := blk_frozen BK372.out 2
        have hfz20_3 := blk_frozen BK372.out 3
        go_wp2_with (first | ((with_reducible refine gate_callee (f := 22) rfl ?_); refine goesL_ (some 29) rfl rfl Tryd.func22 (by kernel_rfl) rfl #[.agg #[.slice A0_0 l0_0.length c0_0, .slice A0_1 l0_1.length c0_1, .int .i64 a0_2, .slice A0_3 l0_3.length c0_3], .int .i64 a1, .int .i64 a2] rfl (by (try simp only [List.map_toArray, List.map_cons, List.map_nil]); first | done | rfl | (simp only [List.length_drop, List.length_take]; rfl)) ?_; (with_reducible refine (evaluate_Moments.calls kj5 _ _ l0_0 _ _ l0_1 a0_2 _ _ l0_3 a1 a2 t374 t377 _ ?side1 ?side2 ?side3 ?side4 ?side5 ?side6 A13.out).mono ?_); (case side1 => exact cs_ (Kd.C_below HR0_0.out HB.out)); (case side2 => exact HC0_0.out); (case side3 => exact cs_ (Kd.C_below HR0_1.out HB.out)); (case side4 => exact HC0_1.out); (case side5 => exact cs_ (Kd.C_below HR0_3.out HB.out)); (case side6 => exact HC0_3.out); rintro e w21 ⟨v375, rfl, ho0, hb⟩; refine ⟨_, rfl, ?_⟩; have n0_ := Aside0.mk (Kd.R_lower ho0 (below_size (be1_ HB GE372))); have n1_ := Aside0.mk (blk_below (g := gb372) (o := .cells #[.slice A0_0 l0_0.length c0_0, .slice A0_1 l0_1.length c0_1, .int .i64 a0_2, .slice A0_3 l0_3.length c0_3] 28 (0, 0)) (bq_ BK372) hb); have n2_ := Aside0.mk (below_step (be1_ HB GE372) hb); clear BK372; clear HB; have HO376 := n0_; have BK372 := n1_; have HB := n2_; clear n0_ n1_ n2_; (try clear hb); (try clear hb2); (try clear hk); (try clear hi); (try clear ho0); have hcz22_0 : w21.cell? ⟨gb372, 0, none⟩ = some (.slice A0_0 l0_0.length c0_0) := (blk_cell BK372.out 0).trans rfl; have hcz22_1 : w21.cell? ⟨gb372, 1, none⟩ = some (.slice A0_1 l0_1.length c0_1) := (blk_cell BK372.out 1).trans rfl; have hcz22_2 : w21.cell? ⟨gb372, 2, none⟩ = some (.int .i64 a0_2) := (blk_cell BK372.out 2).trans rfl; have hcz22_3 : w21.cell? ⟨gb372, 3, none⟩ = some (.slice A0_3 l0_3.length c0_3) := (blk_cell BK372.out 3).trans rfl; have hfz22_0 := blk_frozen BK372.out 0; have hfz22_1 := blk_frozen BK372.out 1; have hfz22_2 := blk_frozen BK372.out 2; have hfz22_3 := blk_frozen BK372.out 3) | ((with_reducible refine gate_callee (f := 23) rfl ?_); refine goesL_ (some 37) rfl rfl Tryd.func23 (by kernel_rfl) rfl #[.agg #[.slice A0_0 l0_0.length c0_0, .slice A0_1 l0_1.length c0_1, .int .i64 a0_2], .int .i64 a1, .int .i64 a2] rfl (by (try simp only [List.map_toArray, List.map_cons, List.map_nil]); first | done | rfl | (simp only [List.length_drop, List.length_take]; rfl)) ?_; (with_reducible refine (pentaglotref26_Interval.calls kj5 _ _ l0_0 _ _ l0_1 a0_2 a1 a2 t378 true _ ?side1 ?side2 ?side3 ?side4 A14.out).mono ?_); (case side1 => exact cs_ (Kd.C_below HR0_0.out HB.out)); (case side2 => exact HC0_0.out); (case side3 => exact cs_ (Kd.C_below HR0_1.out HB.out)); (case side4 => exact HC0_1.out); rintro e w23 ⟨v379, rfl, ho0, hb⟩; refine ⟨_, rfl, ?_⟩; have n0_ := Aside0.mk (Kd.R_elder' (rq_ HO376) (Kd.R_base ho0) hb); have n1_ := Aside0.mk (Kd.R_lower (Kd.R_new' ho0 (Kd.R_lt (rq_ HO376))) (below_size (be1_ HB GE372))); have n2_ := Aside0.mk (blk_below (g := gb372) (o := .cells #[.slice A0_0 l0_0.length c0_0, .slice A0_1 l0_1.length c0_1, .int .i64 a0_2, .slice A0_3 l0_3.length c0_3] 28 (0, 0)) (bq_ BK372) hb); have n3_ := Aside0.mk (below_step (be1_ HB GE372) hb); clear HO376; clear BK372; clear HB; have HO376 := n0_; have HO380 := n1_; have BK372 := n2_; have HB := n3_; clear n0_ n1_ n2_ n3_; (try clear hb); (try clear hb2); (try clear hk); (try clear hi); (try clear ho0); have hcz24_0 : w23.cell? ⟨gb372, 0, none⟩ = some (.slice A0_0 l0_0.length c0_0) := (blk_cell BK372.out 0).trans rfl; have hcz24_1 : w23.cell? ⟨gb372, 1, none⟩ = some (.slice A0_1 l0_1.length c0_1) := (blk_cell BK372.out 1).trans rfl; have hcz24_2 : w23.cell? ⟨gb372, 2, none⟩ = some (.int .i64 a0_2) := (blk_cell BK372.out 2).trans rfl; have hcz24_3 : w23.cell? ⟨gb372, 3, none⟩ = some (.slice A0_3 l0_3.length c0_3) := (blk_cell BK372.out 3).trans rfl; have hfz24_0 := blk_frozen BK372.out 0; have hfz24_1 := blk_frozen BK372.out 1; have hfz24_2 := blk_frozen BK372.out 2; have hfz24_3 := blk_frozen BK372.out 3) | (go_at_call 24; (with_reducible refine (pentaglotref26_Proper.calls kj5 _ _ l0_0 _ _ l0_1 a0_2 true _ ?side1 ?side2 ?side3 ?side4 A16.out).mono ?_); (case side1 => exact cs_ (Kd.C_below HR0_0.out HB.out)); (case side2 => exact HC0_0.out); (case side3 => exact cs_ (Kd.C_below HR0_1.out HB.out)); (case side4 => exact HC0_1.out); rintro e w25 ⟨rfl, hb⟩; have n0_ := Aside0.mk (Kd.R_below (rq_ HO376) hb); have n1_ := Aside0.mk (Kd.R_below (rq_ HO380) hb); have n2_ := Aside0.mk (blk_below (g := gb372) (o := .cells #[.slice A0_0 l0_0.length c0_0, .slice A0_1 l0_1.length c0_1, .int .i64 a0_2, .slice A0_3 l0_3.length c0_3] 28 (0, 0)) (bq_ BK372) hb); have n3_ := Aside0.mk (below_step (be1_ HB GE372) hb); clear HO376; clear HO380; clear BK372; clear HB; have HO376 := n0_; have HO380 := n1_; have BK372 := n2_; have HB := n3_; clear n0_ n1_ n2_ n3_; (try clear hb); (try clear hb2); (try clear hk); (try clear hi); obtain ⟨Ao26, co26, eo26⟩ := Kd.R_slice HO376.out; subst eo26; obtain ⟨Ao27, co27, eo27⟩ := Kd.R_slice HO380.out; subst eo27) | (go_at_call 25; (with_reducible refine (pentaglotref22_SameInts.calls kj5 _ _ t374 _ _ t378 t383 _ ?side1 ?side2 ?side3 ?side4 A19.out).mono ?_); (case side1 => repeat (first | exact (Kd.R_reads' HO376.out).2.2 | (with_reducible refine Kd.C_alloc ?_ _) | (with_reducible refine Kd.C_drewN ?_ _) | (with_reducible refine Kd.C_drew ?_))); (case side2 => exact (Kd.R_reads' HO376.out).2.1); (case side3 => repeat (first | exact (Kd.R_reads' HO380.out).2.2 | (with_reducible refine Kd.C_alloc ?_ _) | (with_reducible refine Kd.C_drewN ?_ _) | (with_reducible refine Kd.C_drew ?_))); (case side4 => exact (Kd.R_reads' HO380.out).2.1); rintro e w' ⟨rfl, ⟨nd, rfl⟩⟩))
        go_ret
        exact ⟨er_, be1_ HB GE372⟩
       ·rw [if_neg c18] at H
        have c18b0 : (t377 == 0) = false := beq_eq_false_iff_ne.mpr c18
        have c18b1 : (t377 != 0) = true := bne_iff_ne.mpr c18
        obtain rfl := Option.some.inj H
        have hcz28_0 : wc.cell? ⟨gb372, 0, none⟩ = some (.slice A0_0 l0_0.length c0_0) := (blk_cell BK372.out 0).trans rfl
        have hcz28_1 : wc.cell? ⟨gb372, 1, none⟩ = some (.slice A0_1 l0_1.length c0_1) := (blk_cell BK372.out 1).trans rfl
        have hcz28_2 : wc.cell? ⟨gb372, 2, none⟩ = some (.int .i64 a0_2) := (blk_cell BK372.out 2).trans rfl
        have hcz28_3 : wc.cell? ⟨gb372, 3, none⟩ = some (.slice A0_3 l0_3.length c0_3) := (blk_cell BK372.out 3).trans rfl
        have hfz28_0 := blk_frozen BK372.out 0
        have hfz28_1 := blk_frozen BK372.out 1
        have hfz28_2 := blk_frozen BK372.out 2
        have hfz28_3 := blk_frozen BK372.out 3
        go_wp2_with (first | ((with_reducible refine gate_callee (f := 22) rfl ?_); refine goesL_ (some 29) rfl rfl Tryd.func22 (by kernel_rfl) rfl #[.agg #[.slice A0_0 l0_0.length c0_0, .slice A0_1 l0_1.length c0_1, .int .i64 a0_2, .slice A0_3 l0_3.length c0_3], .int .i64 a1, .int .i64 a2] rfl (by (try simp only [List.map_toArray, List.map_cons, List.map_nil]); first | done | rfl | (simp only [List.length_drop, List.length_take]; rfl)) ?_; (with_reducible refine (evaluate_Moments.calls kj5 _ _ l0_0 _ _ l0_1 a0_2 _ _ l0_3 a1 a2 t374 t377 _ ?side1 ?side2 ?side3 ?side4 ?side5 ?side6 A13.out).mono ?_); (case side1 => exact cs_ (Kd.C_below HR0_0.out HB.out)); (case side2 => exact HC0_0.out); (case side3 => exact cs_ (Kd.C_below HR0_1.out HB.out)); (case side4 => exact HC0_1.out); (case side5 => exact cs_ (Kd.C_below HR0_3.out HB.out)); (case side6 => exact HC0_3.out); rintro e w29 ⟨v375, rfl, ho0, hb⟩; refine ⟨_, rfl, ?_⟩; have n0_ := Aside0.mk (Kd.R_lower ho0 (below_size (be1_ HB GE372))); have n1_ := Aside0.mk (blk_below (g := gb372) (o := .cells #[.slice A0_0 l0_0.length c0_0, .slice A0_1 l0_1.length c0_1, .int .i64 a0_2, .slice A0_3 l0_3.length c0_3] 28 (0, 0)) (bq_ BK372) hb); have n2_ := Aside0.mk (below_step (be1_ HB GE372) hb); clear BK372; clear HB; have HO376 := n0_; have BK372 := n1_; have HB := n2_; clear n0_ n1_ n2_; (try clear hb); (try clear hb2); (try clear hk); (try clear hi); (try clear ho0); have hcz30_0 : w29.cell? ⟨gb372, 0, none⟩ = some (.slice A0_0 l0_0.length c0_0) := (blk_cell BK372.out 0).trans rfl; have hcz30_1 : w29.cell? ⟨gb372, 1, none⟩ = some (.slice A0_1 l0_1.length c0_1) := (blk_cell BK372.out 1).trans rfl; have hcz30_2 : w29.cell? ⟨gb372, 2, none⟩ = some (.int .i64 a0_2) := (blk_cell BK372.out 2).trans rfl; have hcz30_3 : w29.cell? ⟨gb372, 3, none⟩ = some (.slice A0_3 l0_3.length c0_3) := (blk_cell BK372.out 3).trans rfl; have hfz30_0 := blk_frozen BK372.out 0; have hfz30_1 := blk_frozen BK372.out 1; have hfz30_2 := blk_frozen BK372.out 2; have hfz30_3 := blk_frozen BK372.out 3) | ((with_reducible refine gate_callee (f := 23) rfl ?_); refine goesL_ (some 37) rfl rfl Tryd.func23 (by kernel_rfl) rfl #[.agg #[.slice A0_0 l0_0.length c0_0, .slice A0_1 l0_1.length c0_1, .int .i64 a0_2], .int .i64 a1, .int .i64 a2] rfl (by (try simp only [List.map_toArray, List.map_cons, List.map_nil]); first | done | rfl | (simp only [List.length_drop, List.length_take]; rfl)) ?_; (with_reducible refine (pentaglotref26_Interval.calls kj5 _ _ l0_0 _ _ l0_1 a0_2 a1 a2 t378 true _ ?side1 ?side2 ?side3 ?side4 A14.out).mono ?_); (case side1 => exact cs_ (Kd.C_below HR0_0.out HB.out)); (case side2 => exact HC0_0.out); (case side3 => exact cs_ (Kd.C_below HR0_1.out HB.out)); (case side4 => exact HC0_1.out); rintro e w31 ⟨v379, rfl, ho0, hb⟩; refine ⟨_, rfl, ?_⟩; have n0_ := Aside0.mk (Kd.R_elder' (rq_ HO376) (Kd.R_base ho0) hb); have n1_ := Aside0.mk (Kd.R_lower (Kd.R_new' ho0 (Kd.R_lt (rq_ HO376))) (below_size (be1_ HB GE372))); have n2_ := Aside0.mk (blk_below (g := gb372) (o := .cells #[.slice A0_0 l0_0.length c0_0, .slice A0_1 l0_1.length c0_1, .int .i64 a0_2, .slice A0_3 l0_3.length c0_3] 28 (0, 0)) (bq_ BK372) hb); have n3_ := Aside0.mk (below_step (be1_ HB GE372) hb); clear HO376; clear BK372; clear HB; have HO376 := n0_; have HO380 := n1_; have BK372 := n2_; have HB := n3_; clear n0_ n1_ n2_ n3_; (try clear hb); (try clear hb2); (try clear hk); (try clear hi); (try clear ho0); have hcz32_0 : w31.cell? ⟨gb372, 0, none⟩ = some (.slice A0_0 l0_0.length c0_0) := (blk_cell BK372.out 0).trans rfl; have hcz32_1 : w31.cell? ⟨gb372, 1, none⟩ = some (.slice A0_1 l0_1.length c0_1) := (blk_cell BK372.out 1).trans rfl; have hcz32_2 : w31.cell? ⟨gb372, 2, none⟩ = some (.int .i64 a0_2) := (blk_cell BK372.out 2).trans rfl; have hcz32_3 : w31.cell? ⟨gb372, 3, none⟩ = some (.slice A0_3 l0_3.length c0_3) := (blk_cell BK372.out 3).trans rfl; have hfz32_0 := blk_frozen BK372.out 0; have hfz32_1 := blk_frozen BK372.out 1; have hfz32_2 := blk_frozen BK372.out 2; have hfz32_3 := blk_frozen BK372.out 3) | (go_at_call 24; (with_reducible refine (pentaglotref26_Proper.calls kj5 _ _ l0_0 _ _ l0_1 a0_2 true _ ?side1 ?side2 ?side3 ?side4 A16.out).mono ?_); (case side1 => exact cs_ (Kd.C_below HR0_0.out HB.out)); (case side2 => exact HC0_0.out); (case side3 => exact cs_ (Kd.C_below HR0_1.out HB.out)); (case side4 => exact HC0_1.out); rintro e w33 ⟨rfl, hb⟩; have n0_ := Aside0.mk (Kd.R_below (rq_ HO376) hb); have n1_ := Aside0.mk (Kd.R_below (rq_ HO380) hb); have n2_ := Aside0.mk (blk_below (g := gb372) (o := .cells #[.slice A0_0 l0_0.length c0_0, .slice A0_1 l0_1.length c0_1, .int .i64 a0_2, .slice A0_3 l0_3.length c0_3] 28 (0, 0)) (bq_ BK372) hb); have n3_ := Aside0.mk (below_step (be1_ HB GE372) hb); clear HO376; clear HO380; clear BK372; clear HB; have HO376 := n0_; have HO380 := n1_; have BK372 := n2_; have HB := n3_; clear n0_ n1_ n2_ n3_; (try clear hb); (try clear hb2); (try clear hk); (try clear hi)))
        go_ret
        exact ⟨er_, be1_ HB GE372⟩
      ·replace c17 := Bool.eq_false_iff.mpr c17
       subst c17
       have H1 : (if (t374.length : Int) = 0 then (some (t377 == 1)) else (some false)) = some r := by rw [if_neg (show ¬ (false = true) by decide)] at H; exact H
       clear H
       have H := H1
       clear H1
       by_cases c34 : (t374.length : Int) = 0
       ·rw [if_pos c34] at H
        have c34b0 : ((t374.length : Int) == 0) = true := beq_iff_eq.mpr c34
        have c34b1 : ((t374.length : Int) != 0) = false := bne_eq_false_iff_eq.mpr c34
        clear c34
        obtain rfl := Option.some.inj H
        have hcz35_0 : wc.cell? ⟨gb372, 0, none⟩ = some (.slice A0_0 l0_0.length c0_0) := (blk_cell BK372.out 0).trans rfl
        have hcz35_1 : wc.cell? ⟨gb372, 1, none⟩ = some (.slice A0_1 l0_1.length c0_1) := (blk_cell BK372.out 1).trans rfl
        have hcz35_2 : wc.cell? ⟨gb372, 2, none⟩ = some (.int .i64 a0_2) := (blk_cell BK372.out 2).trans rfl
        have hcz35_3 : wc.cell? ⟨gb372, 3, none⟩ = some (.slice A0_3 l0_3.length c0_3) := (blk_cell BK372.out 3).trans rfl
        have hfz35_0 := blk_frozen BK372.out 0
        have hfz35_1 := blk_frozen BK372.out 1
        have hfz35_2 := blk_frozen BK372.out 2
        have hfz35_3 := blk_frozen BK372.out 3
        go_wp2_with (first | ((with_reducible refine gate_callee (f := 22) rfl ?_); refine goesL_ (some 29) rfl rfl Tryd.func22 (by kernel_rfl) rfl #[.agg #[.slice A0_0 l0_0.length c0_0, .slice A0_1 l0_1.length c0_1, .int .i64 a0_2, .slice A0_3 l0_3.length c0_3], .int .i64 a1, .int .i64 a2] rfl (by (try simp only [List.map_toArray, List.map_cons, List.map_nil]); first | done | rfl | (simp only [List.length_drop, List.length_take]; rfl)) ?_; (with_reducible refine (evaluate_Moments.calls kj5 _ _ l0_0 _ _ l0_1 a0_2 _ _ l0_3 a1 a2 t374 t377 _ ?side1 ?side2 ?side3 ?side4 ?side5 ?side6 A13.out).mono ?_); (case side1 => exact cs_ (Kd.C_below HR0_0.out HB.out)); (case side2 => exact HC0_0.out); (case side3 => exact cs_ (Kd.C_below HR0_1.out HB.out)); (case side4 => exact HC0_1.out); (case side5 => exact cs_ (Kd.C_below HR0_3.out HB.out)); (case side6 => exact HC0_3.out); rintro e w36 ⟨v375, rfl, ho0, hb⟩; refine ⟨_, rfl, ?_⟩; have n0_ := Aside0.mk (Kd.R_lower ho0 (below_size (be1_ HB GE372))); have n1_ := Aside0.mk (blk_below (g := gb372) (o := .cells #[.slice A0_0 l0_0.length c0_0, .slice A0_1 l0_1.length c0_1, .int .i64 a0_2, .slice A0_3 l0_3.length c0_3] 28 (0, 0)) (bq_ BK372) hb); have n2_ := Aside0.mk (below_step (be1_ HB GE372) hb); clear BK372; clear HB; have HO376 := n0_; have BK372 := n1_; have HB := n2_; clear n0_ n1_ n2_; (try clear hb); (try clear hb2); (try clear hk); (try clear hi); (try clear ho0); have hcz37_0 : w36.cell? ⟨gb372, 0, none⟩ = some (.slice A0_0 l0_0.length c0_0) := (blk_cell BK372.out 0).trans rfl; have hcz37_1 : w36.cell? ⟨gb372, 1, none⟩ = some (.slice A0_1 l0_1.length c0_1) := (blk_cell BK372.out 1).trans rfl; have hcz37_2 : w36.cell? ⟨gb372, 2, none⟩ = some (.int .i64 a0_2) := (blk_cell BK372.out 2).trans rfl; have hcz37_3 : w36.cell? ⟨gb372, 3, none⟩ = some (.slice A0_3 l0_3.length c0_3) := (blk_cell BK372.out 3).trans rfl; have hfz37_0 := blk_frozen BK372.out 0; have hfz37_1 := blk_frozen BK372.out 1; have hfz37_2 := blk_frozen BK372.out 2; have hfz37_3 := blk_frozen BK372.out 3) | ((with_reducible refine gate_callee (f := 23) rfl ?_); refine goesL_ (some 37) rfl rfl Tryd.func23 (by kernel_rfl) rfl #[.agg #[.slice A0_0 l0_0.length c0_0, .slice A0_1 l0_1.length c0_1, .int .i64 a0_2], .int .i64 a1, .int .i64 a2] rfl (by (try simp only [List.map_toArray, List.map_cons, List.map_nil]); first | done | rfl | (simp only [List.length_drop, List.length_take]; rfl)) ?_; (with_reducible refine (pentaglotref26_Interval.calls kj5 _ _ l0_0 _ _ l0_1 a0_2 a1 a2 t378 true _ ?side1 ?side2 ?side3 ?side4 A14.out).mono ?_); (case side1 => exact cs_ (Kd.C_below HR0_0.out HB.out)); (case side2 => exact HC0_0.out); (case side3 => exact cs_ (Kd.C_below HR0_1.out HB.out)); (case side4 => exact HC0_1.out); rintro e w38 ⟨v379, rfl, ho0, hb⟩; refine ⟨_, rfl, ?_⟩; have n0_ := Aside0.mk (Kd.R_elder' (rq_ HO376) (Kd.R_base ho0) hb); have n1_ := Aside0.mk (Kd.R_lower (Kd.R_new' ho0 (Kd.R_lt (rq_ HO376))) (below_size (be1_ HB GE372))); have n2_ := Aside0.mk (blk_below (g := gb372) (o := .cells #[.slice A0_0 l0_0.length c0_0, .slice A0_1 l0_1.length c0_1, .int .i64 a0_2, .slice A0_3 l0_3.length c0_3] 28 (0, 0)) (bq_ BK372) hb); have n3_ := Aside0.mk (below_step (be1_ HB GE372) hb); clear HO376; clear BK372; clear HB; have HO376 := n0_; have HO380 := n1_; have BK372 := n2_; have HB := n3_; clear n0_ n1_ n2_ n3_; (try clear hb); (try clear hb2); (try clear hk); (try clear hi); (try clear ho0); have hcz39_0 : w38.cell? ⟨gb372, 0, none⟩ = some (.slice A0_0 l0_0.length c0_0) := (blk_cell BK372.out 0).trans rfl; have hcz39_1 : w38.cell? ⟨gb372, 1, none⟩ = some (.slice A0_1 l0_1.length c0_1) := (blk_cell BK372.out 1).trans rfl; have hcz39_2 : w38.cell? ⟨gb372, 2, none⟩ = some (.int .i64 a0_2) := (blk_cell BK372.out 2).trans rfl; have hcz39_3 : w38.cell? ⟨gb372, 3, none⟩ = some (.slice A0_3 l0_3.length c0_3) := (blk_cell BK372.out 3).trans rfl; have hfz39_0 := blk_frozen BK372.out 0; have hfz39_1 := blk_frozen BK372.out 1; have hfz39_2 := blk_frozen BK372.out 2; have hfz39_3 := blk_frozen BK372.out 3) | (go_at_call 24; (with_reducible refine (pentaglotref26_Proper.calls kj5 _ _ l0_0 _ _ l0_1 a0_2 false _ ?side1 ?side2 ?side3 ?side4 A16.out).mono ?_); (case side1 => exact cs_ (Kd.C_below HR0_0.out HB.out)); (case side2 => exact HC0_0.out); (case side3 => exact cs_ (Kd.C_below HR0_1.out HB.out)); (case side4 => exact HC0_1.out); rintro e w40 ⟨rfl, hb⟩; have n0_ := Aside0.mk (Kd.R_below (rq_ HO376) hb); have n1_ := Aside0.mk (Kd.R_below (rq_ HO380) hb); have n2_ := Aside0.mk (blk_below (g := gb372) (o := .cells #[.slice A0_0 l0_0.length c0_0, .slice A0_1 l0_1.length c0_1, .int .i64 a0_2, .slice A0_3 l0_3.length c0_3] 28 (0, 0)) (bq_ BK372) hb); have n3_ := Aside0.mk (below_step (be1_ HB GE372) hb); clear HO376; clear HO380; clear BK372; clear HB; have HO376 := n0_; have HO380 := n1_; have BK372 := n2_; have HB := n3_; clear n0_ n1_ n2_ n3_; (try clear hb); (try clear hb2); (try clear hk); (try clear hi); obtain ⟨Ao41, co41, eo41⟩ := Kd.R_slice HO376.out; subst eo41))
        go_ret
        exact ⟨er_, be1_ HB GE372⟩
       ·rw [if_neg c34] at H
        have c34b0 : ((t374.length : Int) == 0) = false := beq_eq_false_iff_ne.mpr c34
        have c34b1 : ((t374.length : Int) != 0) = true := bne_iff_ne.mpr c34
        have c34b2 : ¬ (t374 = []) := fun h_ => c34 (by rw [h_]; rfl)
        obtain rfl := Option.some.inj H
        have hcz42_0 : wc.cell? ⟨gb372, 0, none⟩ = some (.slice A0_0 l0_0.length c0_0) := (blk_cell BK372.out 0).trans rfl
        have hcz42_1 : wc.cell? ⟨gb372, 1, none⟩ = some (.slice A0_1 l0_1.length c0_1) := (blk_cell BK372.out 1).trans rfl
        have hcz42_2 : wc.cell? ⟨gb372, 2, none⟩ = some (.int .i64 a0_2) := (blk_cell BK372.out 2).trans rfl
        have hcz42_3 : wc.cell? ⟨gb372, 3, none⟩ = some (.slice A0_3 l0_3.length c0_3) := (blk_cell BK372.out 3).trans rfl
        have hfz42_0 := blk_frozen BK372.out 0
        have hfz42_1 := blk_frozen BK372.out 1
        have hfz42_2 := blk_frozen BK372.out 2
        have hfz42_3 := blk_frozen BK372.out 3
        go_wp2_with (first | ((with_reducible refine gate_callee (f := 22) rfl ?_); refine goesL_ (some 29) rfl rfl Tryd.func22 (by kernel_rfl) rfl #[.agg #[.slice A0_0 l0_0.length c0_0, .slice A0_1 l0_1.length c0_1, .int .i64 a0_2, .slice A0_3 l0_3.length c0_3], .int .i64 a1, .int .i64 a2] rfl (by (try simp only [List.map_toArray, List.map_cons, List.map_nil]); first | done | rfl | (simp only [List.length_drop, List.length_take]; rfl)) ?_; (with_reducible refine (evaluate_Moments.calls kj5 _ _ l0_0 _ _ l0_1 a0_2 _ _ l0_3 a1 a2 t374 t377 _ ?side1 ?side2 ?side3 ?side4 ?side5 ?side6 A13.out).mono ?_); (case side1 => exact cs_ (Kd.C_below HR0_0.out HB.out)); (case side2 => exact HC0_0.out); (case side3 => exact cs_ (Kd.C_below HR0_1.out HB.out)); (case side4 => exact HC0_1.out); (case side5 => exact cs_ (Kd.C_below HR0_3.out HB.out)); (case side6 => exact HC0_3.out); rintro e w43 ⟨v375, rfl, ho0, hb⟩; refine ⟨_, rfl, ?_⟩; have n0_ := Aside0.mk (Kd.R_lower ho0 (below_size (be1_ HB GE372))); have n1_ := Aside0.mk (blk_below (g := gb372) (o := .cells #[.slice A0_0 l0_0.length c0_0, .slice A0_1 l0_1.length c0_1, .int .i64 a0_2, .slice A0_3 l0_3.length c0_3] 28 (0, 0)) (bq_ BK372) hb); have n2_ := Aside0.mk (below_step (be1_ HB GE372) hb); clear BK372; clear HB; have HO376 := n0_; have BK372 := n1_; have HB := n2_; clear n0_ n1_ n2_; (try clear hb); (try clear hb2); (try clear hk); (try clear hi); (try clear ho0); have hcz44_0 : w43.cell? ⟨gb372, 0, none⟩ = some (.slice A0_0 l0_0.length c0_0) := (blk_cell BK372.out 0).trans rfl; have hcz44_1 : w43.cell? ⟨gb372, 1, none⟩ = some (.slice A0_1 l0_1.length c0_1) := (blk_cell BK372.out 1).trans rfl; have hcz44_2 : w43.cell? ⟨gb372, 2, none⟩ = some (.int .i64 a0_2) := (blk_cell BK372.out 2).trans rfl; have hcz44_3 : w43.cell? ⟨gb372, 3, none⟩ = some (.slice A0_3 l0_3.length c0_3) := (blk_cell BK372.out 3).trans rfl; have hfz44_0 := blk_frozen BK372.out 0; have hfz44_1 := blk_frozen BK372.out 1; have hfz44_2 := blk_frozen BK372.out 2; have hfz44_3 := blk_frozen BK372.out 3) | ((with_reducible refine gate_callee (f := 23) rfl ?_); refine goesL_ (some 37) rfl rfl Tryd.func23 (by kernel_rfl) rfl #[.agg #[.slice A0_0 l0_0.length c0_0, .slice A0_1 l0_1.length c0_1, .int .i64 a0_2], .int .i64 a1, .int .i64 a2] rfl (by (try simp only [List.map_toArray, List.map_cons, List.map_nil]); first | done | rfl | (simp only [List.length_drop, List.length_take]; rfl)) ?_; (with_reducible refine (pentaglotref26_Interval.calls kj5 _ _ l0_0 _ _ l0_1 a0_2 a1 a2 t378 true _ ?side1 ?side2 ?side3 ?side4 A14.out).mono ?_); (case side1 => exact cs_ (Kd.C_below HR0_0.out HB.out)); (case side2 => exact HC0_0.out); (case side3 => exact cs_ (Kd.C_below HR0_1.out HB.out)); (case side4 => exact HC0_1.out); rintro e w45 ⟨v379, rfl, ho0, hb⟩; refine ⟨_, rfl, ?_⟩; have n0_ := Aside0.mk (Kd.R_elder' (rq_ HO376) (Kd.R_base ho0) hb); have n1_ := Aside0.mk (Kd.R_lower (Kd.R_new' ho0 (Kd.R_lt (rq_ HO376))) (below_size (be1_ HB GE372))); have n2_ := Aside0.mk (blk_below (g := gb372) (o := .cells #[.slice A0_0 l0_0.length c0_0, .slice A0_1 l0_1.length c0_1, .int .i64 a0_2, .slice A0_3 l0_3.length c0_3] 28 (0, 0)) (bq_ BK372) hb); have n3_ := Aside0.mk (below_step (be1_ HB GE372) hb); clear HO376; clear BK372; clear HB; have HO376 := n0_; have HO380 := n1_; have BK372 := n2_; have HB := n3_; clear n0_ n1_ n2_ n3_; (try clear hb); (try clear hb2); (try clear hk); (try clear hi); (try clear ho0); have hcz46_0 : w45.cell? ⟨gb372, 0, none⟩ = some (.slice A0_0 l0_0.length c0_0) := (blk_cell BK372.out 0).trans rfl; have hcz46_1 : w45.cell? ⟨gb372, 1, none⟩ = some (.slice A0_1 l0_1.length c0_1) := (blk_cell BK372.out 1).trans rfl; have hcz46_2 : w45.cell? ⟨gb372, 2, none⟩ = some (.int .i64 a0_2) := (blk_cell BK372.out 2).trans rfl; have hcz46_3 : w45.cell? ⟨gb372, 3, none⟩ = some (.slice A0_3 l0_3.length c0_3) := (blk_cell BK372.out 3).trans rfl; have hfz46_0 := blk_frozen BK372.out 0; have hfz46_1 := blk_frozen BK372.out 1; have hfz46_2 := blk_frozen BK372.out 2; have hfz46_3 := blk_frozen BK372.out 3) | (go_at_call 24; (with_reducible refine (pentaglotref26_Proper.calls kj5 _ _ l0_0 _ _ l0_1 a0_2 false _ ?side1 ?side2 ?side3 ?side4 A16.out).mono ?_); (case side1 => exact cs_ (Kd.C_below HR0_0.out HB.out)); (case side2 => exact HC0_0.out); (case side3 => exact cs_ (Kd.C_below HR0_1.out HB.out)); (case side4 => exact HC0_1.out); rintro e w47 ⟨rfl, hb⟩; have n0_ := Aside0.mk (Kd.R_below (rq_ HO376) hb); have n1_ := Aside0.mk (Kd.R_below (rq_ HO380) hb); have n2_ := Aside0.mk (blk_below (g := gb372) (o := .cells #[.slice A0_0 l0_0.length c0_0, .slice A0_1 l0_1.length c0_1, .int .i64 a0_2, .slice A0_3 l0_3.length c0_3] 28 (0, 0)) (bq_ BK372) hb); have n3_ := Aside0.mk (below_step (be1_ HB GE372) hb); clear HO376; clear HO380; clear BK372; clear HB; have HO376 := n0_; have HO380 := n1_; have BK372 := n2_; have HB := n3_; clear n0_ n1_ n2_ n3_; (try clear hb); (try clear hb2); (try clear hk); (try clear hi); obtain ⟨Ao48, co48, eo48⟩ := Kd.R_slice HO376.out; subst eo48))
        go_ret
        exact ⟨er_, be1_ HB GE372⟩
     ·replace c15 := Bool.eq_false_iff.mpr c15
      subst c15
      have H1 : (if (t374.length : Int) = 0 then (some (t377 == 1)) else (some false)) = some r := by rw [if_neg (show ¬ (false = true) by decide)] at H; exact H
      clear H
      have H := H1
      clear H1
      by_cases c49 : (t374.length : Int) = 0
      ·rw [if_pos c49] at H
       have c49b0 : ((t374.length : Int) == 0) = true := beq_iff_eq.mpr c49
       have c49b1 : ((t374.length : Int) != 0) = false := bne_eq_false_iff_eq.mpr c49
       clear c49
       obtain rfl := Option.some.inj H
       have hcz50_0 : wc.cell? ⟨gb372, 0, none⟩ = some (.slice A0_0 l0_0.length c0_0) := (blk_cell BK372.out 0).trans rfl
       have hcz50_1 : wc.cell? ⟨gb372, 1, none⟩ = some (.slice A0_1 l0_1.length c0_1) := (blk_cell BK372.out 1).trans rfl
       have hcz50_2 : wc.cell? ⟨gb372, 2, none⟩ = some (.int .i64 a0_2) := (blk_cell BK372.out 2).trans rfl
       have hcz50_3 : wc.cell? ⟨gb372, 3, none⟩ = some (.slice A0_3 l0_3.length c0_3) := (blk_cell BK372.out 3).trans rfl
       have hfz50_0 := blk_frozen BK372.out 0
       have hfz50_1 := blk_frozen BK372.out 1
       have hfz50_2 := blk_frozen BK372.out 2
       have hfz50_3 := blk_frozen BK372.out 3
       go_wp2_with (first | ((with_reducible refine gate_callee (f := 22) rfl ?_); refine goesL_ (some 29) rfl rfl Tryd.func22 (by kernel_rfl) rfl #[.agg #[.slice A0_0 l0_0.length c0_0, .slice A0_1 l0_1.length c0_1, .int .i64 a0_2, .slice A0_3 l0_3.length c0_3], .int .i64 a1, .int .i64 a2] rfl (by (try simp only [List.map_toArray, List.map_cons, List.map_nil]); first | done | rfl | (simp only [List.length_drop, List.length_take]; rfl)) ?_; (with_reducible refine (evaluate_Moments.calls kj5 _ _ l0_0 _ _ l0_1 a0_2 _ _ l0_3 a1 a2 t374 t377 _ ?side1 ?side2 ?side3 ?side4 ?side5 ?side6 A13.out).mono ?_); (case side1 => exact cs_ (Kd.C_below HR0_0.out HB.out)); (case side2 => exact HC0_0.out); (case side3 => exact cs_ (Kd.C_below HR0_1.out HB.out)); (case side4 => exact HC0_1.out); (case side5 => exact cs_ (Kd.C_below HR0_3.out HB.out)); (case side6 => exact HC0_3.out); rintro e w51 ⟨v375, rfl, ho0, hb⟩; refine ⟨_, rfl, ?_⟩; have n0_ := Aside0.mk (Kd.R_lower ho0 (below_size (be1_ HB GE372))); have n1_ := Aside0.mk (blk_below (g := gb372) (o := .cells #[.slice A0_0 l0_0.length c0_0, .slice A0_1 l0_1.length c0_1, .int .i64 a0_2, .slice A0_3 l0_3.length c0_3] 28 (0, 0)) (bq_ BK372) hb); have n2_ := Aside0.mk (below_step (be1_ HB GE372) hb); clear BK372; clear HB; have HO376 := n0_; have BK372 := n1_; have HB := n2_; clear n0_ n1_ n2_; (try clear hb); (try clear hb2); (try clear hk); (try clear hi); (try clear ho0); have hcz52_0 : w51.cell? ⟨gb372, 0, none⟩ = some (.slice A0_0 l0_0.length c0_0) := (blk_cell BK372.out 0).trans rfl; have hcz52_1 : w51.cell? ⟨gb372, 1, none⟩ = some (.slice A0_1 l0_1.length c0_1) := (blk_cell BK372.out 1).trans rfl; have hcz52_2 : w51.cell? ⟨gb372, 2, none⟩ = some (.int .i64 a0_2) := (blk_cell BK372.out 2).trans rfl; have hcz52_3 : w51.cell? ⟨gb372, 3, none⟩ = some (.slice A0_3 l0_3.length c0_3) := (blk_cell BK372.out 3).trans rfl; have hfz52_0 := blk_frozen BK372.out 0; have hfz52_1 := blk_frozen BK372.out 1; have hfz52_2 := blk_frozen BK372.out 2; have hfz52_3 := blk_frozen BK372.out 3) | ((with_reducible refine gate_callee (f := 23) rfl ?_); refine goesL_ (some 37) rfl rfl Tryd.func23 (by kernel_rfl) rfl #[.agg #[.slice A0_0 l0_0.length c0_0, .slice A0_1 l0_1.length c0_1, .int .i64 a0_2], .int .i64 a1, .int .i64 a2] rfl (by (try simp only [List.map_toArray, List.map_cons, List.map_nil]); first | done | rfl | (simp only [List.length_drop, List.length_take]; rfl)) ?_; (with_reducible refine (pentaglotref26_Interval.calls kj5 _ _ l0_0 _ _ l0_1 a0_2 a1 a2 t378 false _ ?side1 ?side2 ?side3 ?side4 A14.out).mono ?_); (case side1 => exact cs_ (Kd.C_below HR0_0.out HB.out)); (case side2 => exact HC0_0.out); (case side3 => exact cs_ (Kd.C_below HR0_1.out HB.out)); (case side4 => exact HC0_1.out); rintro e w53 ⟨v379, rfl, ho0, hb⟩; refine ⟨_, rfl, ?_⟩; have n0_ := Aside0.mk (Kd.R_elder' (rq_ HO376) (Kd.R_base ho0) hb); have n1_ := Aside0.mk (Kd.R_lower (Kd.R_new' ho0 (Kd.R_lt (rq_ HO376))) (below_size (be1_ HB GE372))); have n2_ := Aside0.mk (blk_below (g := gb372) (o := .cells #[.slice A0_0 l0_0.length c0_0, .slice A0_1 l0_1.length c0_1, .int .i64 a0_2, .slice A0_3 l0_3.length c0_3] 28 (0, 0)) (bq_ BK372) hb); have n3_ := Aside0.mk (below_step (be1_ HB GE372) hb); clear HO376; clear BK372; clear HB; have HO376 := n0_; have HO380 := n1_; have BK372 := n2_; have HB := n3_; clear n0_ n1_ n2_ n3_; (try clear hb); (try clear hb2); (try clear hk); (try clear hi); (try clear ho0); obtain ⟨Ao54, co54, eo54⟩ := Kd.R_slice HO376.out; subst eo54))
       go_ret
       exact ⟨er_, be1_ HB GE372⟩
      ·rw [if_neg c49] at H
       have c49b0 : ((t374.length : Int) == 0) = false := beq_eq_false_iff_ne.mpr c49
       have c49b1 : ((t374.length : Int) != 0) = true := bne_iff_ne.mpr c49
       have c49b2 : ¬ (t374 = []) := fun h_ => c49 (by rw [h_]; rfl)
       obtain rfl := Option.some.inj H
       have hcz55_0 : wc.cell? ⟨gb372, 0, none⟩ = some (.slice A0_0 l0_0.length c0_0) := (blk_cell BK372.out 0).trans rfl
       have hcz55_1 : wc.cell? ⟨gb372, 1, none⟩ = some (.slice A0_1 l0_1.length c0_1) := (blk_cell BK372.out 1).trans rfl
       have hcz55_2 : wc.cell? ⟨gb372, 2, none⟩ = some (.int .i64 a0_2) := (blk_cell BK372.out 2).trans rfl
       have hcz55_3 : wc.cell? ⟨gb372, 3, none⟩ = some (.slice A0_3 l0_3.length c0_3) := (blk_cell BK372.out 3).trans rfl
       have hfz55_0 := blk_frozen BK372.out 0
       have hfz55_1 := blk_frozen BK372.out 1
       have hfz55_2 := blk_frozen BK372.out 2
       have hfz55_3 := blk_frozen BK372.out 3
       go_wp2_with (first | ((with_reducible refine gate_callee (f := 22) rfl ?_); refine goesL_ (some 29) rfl rfl Tryd.func22 (by kernel_rfl) rfl #[.agg #[.slice A0_0 l0_0.length c0_0, .slice A0_1 l0_1.length c0_1, .int .i64 a0_2, .slice A0_3 l0_3.length c0_3], .int .i64 a1, .int .i64 a2] rfl (by (try simp only [List.map_toArray, List.map_cons, List.map_nil]); first | done | rfl | (simp only [List.length_drop, List.length_take]; rfl)) ?_; (with_reducible refine (evaluate_Moments.calls kj5 _ _ l0_0 _ _ l0_1 a0_2 _ _ l0_3 a1 a2 t374 t377 _ ?side1 ?side2 ?side3 ?side4 ?side5 ?side6 A13.out).mono ?_); (case side1 => exact cs_ (Kd.C_below HR0_0.out HB.out)); (case side2 => exact HC0_0.out); (case side3 => exact cs_ (Kd.C_below HR0_1.out HB.out)); (case side4 => exact HC0_1.out); (case side5 => exact cs_ (Kd.C_below HR0_3.out HB.out)); (case side6 => exact HC0_3.out); rintro e w56 ⟨v375, rfl, ho0, hb⟩; refine ⟨_, rfl, ?_⟩; have n0_ := Aside0.mk (Kd.R_lower ho0 (below_size (be1_ HB GE372))); have n1_ := Aside0.mk (blk_below (g := gb372) (o := .cells #[.slice A0_0 l0_0.length c0_0, .slice A0_1 l0_1.length c0_1, .int .i64 a0_2, .slice A0_3 l0_3.length c0_3] 28 (0, 0)) (bq_ BK372) hb); have n2_ := Aside0.mk (below_step (be1_ HB GE372) hb); clear BK372; clear HB; have HO376 := n0_; have BK372 := n1_; have HB := n2_; clear n0_ n1_ n2_; (try clear hb); (try clear hb2); (try clear hk); (try clear hi); (try clear ho0); have hcz57_0 : w56.cell? ⟨gb372, 0, none⟩ = some (.slice A0_0 l0_0.length c0_0) := (blk_cell BK372.out 0).trans rfl; have hcz57_1 : w56.cell? ⟨gb372, 1, none⟩ = some (.slice A0_1 l0_1.length c0_1) := (blk_cell BK372.out 1).trans rfl; have hcz57_2 : w56.cell? ⟨gb372, 2, none⟩ = some (.int .i64 a0_2) := (blk_cell BK372.out 2).trans rfl; have hcz57_3 : w56.cell? ⟨gb372, 3, none⟩ = some (.slice A0_3 l0_3.length c0_3) := (blk_cell BK372.out 3).trans rfl; have hfz57_0 := blk_frozen BK372.out 0; have hfz57_1 := blk_frozen BK372.out 1; have hfz57_2 := blk_frozen BK372.out 2; have hfz57_3 := blk_frozen BK372.out 3) | ((with_reducible refine gate_callee (f := 23) rfl ?_); refine goesL_ (some 37) rfl rfl Tryd.func23 (by kernel_rfl) rfl #[.agg #[.slice A0_0 l0_0.length c0_0, .slice A0_1 l0_1.length c0_1, .int .i64 a0_2], .int .i64 a1, .int .i64 a2] rfl (by (try simp only [List.map_toArray, List.map_cons, List.map_nil]); first | done | rfl | (simp only [List.length_drop, List.length_take]; rfl)) ?_; (with_reducible refine (pentaglotref26_Interval.calls kj5 _ _ l0_0 _ _ l0_1 a0_2 a1 a2 t378 false _ ?side1 ?side2 ?side3 ?side4 A14.out).mono ?_); (case side1 => exact cs_ (Kd.C_below HR0_0.out HB.out)); (case side2 => exact HC0_0.out); (case side3 => exact cs_ (Kd.C_below HR0_1.out HB.out)); (case side4 => exact HC0_1.out); rintro e w58 ⟨v379, rfl, ho0, hb⟩; refine ⟨_, rfl, ?_⟩; have n0_ := Aside0.mk (Kd.R_elder' (rq_ HO376) (Kd.R_base ho0) hb); have n1_ := Aside0.mk (Kd.R_lower (Kd.R_new' ho0 (Kd.R_lt (rq_ HO376))) (below_size (be1_ HB GE372))); have n2_ := Aside0.mk (blk_below (g := gb372) (o := .cells #[.slice A0_0 l0_0.length c0_0, .slice A0_1 l0_1.length c0_1, .int .i64 a0_2, .slice A0_3 l0_3.length c0_3] 28 (0, 0)) (bq_ BK372) hb); have n3_ := Aside0.mk (below_step (be1_ HB GE372) hb); clear HO376; clear BK372; clear HB; have HO376 := n0_; have HO380 := n1_; have BK372 := n2_; have HB := n3_; clear n0_ n1_ n2_ n3_; (try clear hb); (try clear hb2); (try clear hk); (try clear hi); (try clear ho0); obtain ⟨Ao59, co59, eo59⟩ := Kd.R_slice HO376.out; subst eo59))
       go_ret
       exact ⟨er_, be1_ HB GE372⟩
 ·replace c5 := Bool.eq_false_iff.mpr c5
  subst c5
  have H1 : (some false) = some r := by rw [if_neg (show ¬ (false = true) by decide)] at H; exact H
  clear H
  have H := H1
  clear H1
  obtain rfl := Option.some.inj H
  go_enter Tryd.func5, Tryd.ntmps5
  go_wp2_with (first | ((with_reducible refine gate_dst (N := 3) rfl ?_); (try (refine gate_guard (by rfl) ?_; dsimp only)); refine box_event ?hg (N := 3) ?hd (cs := #[.slice A0_0 l0_0.length c0_0, .slice A0_1 l0_1.length c0_1, .int .i64 a0_2, .slice A0_3 l0_3.length c0_3]) (t := 28) ?hr ?_; (case hd => rfl); (case hg => rfl); (case hr => first | (go_simp; done) | (go_simp; rfl)); intro gb372 hg w60 hbox hb; have n0_ := Aside0.mk (below_step (be_ HB) hb); have n1_ := Aside0.mk (hbox); have n2_ := Aside0.mk ((by rw [hg]; exact (below_size (be_ HB)) : w.heap.size ≤ gb372)); have n3_ := Aside0.mk ((by rw [hg]; exact (below_size (be_ HB)) : w.heap.size ≤ gb372)); clear HB; have HB := n0_; have BK372 := n1_; have GW372 := n2_; have GE372 := n3_; clear n0_ n1_ n2_ n3_; clear hb hbox hg) | ((with_reducible refine gate_callee (f := 12) rfl ?_); refine goesL_ (some 11) rfl rfl Tryd.func12 (by kernel_rfl) rfl #[] rfl (by (try simp only [List.map_toArray, List.map_cons, List.map_nil]); first | done | rfl | (simp only [List.length_drop, List.length_take]; rfl)) ?_; (with_reducible refine (pentaglotlaw26_awake.calls k  false _ A4.out (tb_on HTB.out (be1_ HB GE372))).mono ?_); rintro e w61 ⟨rfl, hb⟩; refine ⟨_, rfl, ?_⟩; have n0_ := Aside0.mk (blk_below (g := gb372) (o := .cells #[.slice A0_0 l0_0.length c0_0, .slice A0_1 l0_1.length c0_1, .int .i64 a0_2, .slice A0_3 l0_3.length c0_3] 28 (0, 0)) (bq_ BK372) hb); have n1_ := Aside0.mk (below_step (be1_ HB GE372) hb); clear BK372; clear HB; have BK372 := n0_; have HB := n1_; clear n0_ n1_; (try clear hb); (try clear hb2); (try clear hk); (try clear hi)))
  go_ret
  exact ⟨er_, be1_ HB GE372⟩

/-- THE ONE PURE STATEMENT of pentaglotlaw26_EvaluateMoments. -/
def pentaglotlaw26_EvaluateMoments.Pure : Prop := ∀ (p0 : S28) (p1 : Int) (p2 : Int), wf28 p0 → (Lit.int .i64 p1).wf = true → (Lit.int .i64 p2).wf = true → bulk28 p0 + 1 + 1 ≤ 1048576 → ∃ k, pentaglotlaw26_EvaluateMoments.f k p0.f0.f0 p0.f0.f1 p0.f0.f2 p0.f1 p1 p2 = some true

end Go.Proofs.YtolpckflofjfhaaDoor.P
