-- Written by the session's own program wip/tools/xprint.py out of the translation, with the kit's print.py on a scratch copy; functions given by hand stand among them.
import Derived.Test.YtflknolnclnhfaaPx0
import Derived.Test.YtflknolnclnhfaaPx3
import Derived.Test.YtflknolnclnhfaaPx4
import Derived.Test.YtflknolnclnhfaaPx5
namespace Go.Proofs.Ytflknolnclnhfaa.P
open Go.RowKit Go.Proofs.YtflknolnclnhfaaW.PrintWords Go.Proofs.YtflknolnclnhfaaW.PrintLast Go.Proofs.YtflknolnclnhfaaW.PrintMore
attribute [local go_sem] max2_int min2_int max_two min_two max_three min_three max_four min_four   -- for this text's walks alone
set_option linter.unusedVariables false
set_option linter.unusedSimpArgs false

/-! ### pentaglotlaw28_SatIrrelevant: function 12 -/
mutual
def pentaglotlaw28_SatIrrelevant.j0 : Nat → List Int → Int → Bool → Int → List (S52) → Int → Option (Bool)
  | 0, _, _, _, _, _, _ => none
  | k + 1, x1, x2, x40, x255000, x255001, x255002 => if x40 = true then (some true) else ((sat_Least.f k x255000 x255001 x255002 x1 5000).bind fun bt257 => ((some (([] : List Int) : List Int)).bind fun y263 => (if y263.length + x1.length < 17592186044416 then ((some (y263 ++ x1 : List Int)).bind fun y266 => ((some (([x2] : List Int) : List Int)).bind fun y269 => (if y266.length + y269.length < 17592186044416 then ((sat_Least.f k (wrap64 (x255000 + 1)) x255001 x255002 (y266 ++ y269) 5000).bind fun bt275 => (if bt257.2.2 = 1 then (pentaglotlaw28_SatIrrelevant.j1 k x2 bt257.1 bt257.2.1 bt257.2.2 bt275.1 bt275.2.1 bt275.2.2 true) else (pentaglotlaw28_SatIrrelevant.j1 k x2 bt257.1 bt257.2.1 bt257.2.2 bt275.1 bt275.2.1 bt275.2.2 (bt257.2.2 == 7)))) else (none)))) else (none))))
def pentaglotlaw28_SatIrrelevant.j1 : Nat → Int → List Bool → Int → Int → List Bool → Int → Int → Bool → Option (Bool)
  | 0, _, _, _, _, _, _, _, _ => none
  | k + 1, x2, x7, x8, x9, x11, x12, x13, x70 => if x70 = true then (if x9 = 7 then (some (x13 == 7)) else (some true)) else (if x9 = x13 then (if x9 = 0 then (if x8 = x12 then (if (x11.length : Int) = (wrap64 ((x7.length : Int) + 1)) then (if 0 ≤ (x7.length : Int) then (if (x7.length : Int) ≤ (x11.length : Int) then ((pentaglotlaw28_same.f k (x11.take ((x7.length : Int) : Int).toNat) x7).bind fun t284 => (if t284 = true then (if (x7.length : Int) < (x11.length : Int) then (some ((rdOf false x11 (x7.length : Int)) == (x2 == 1))) else (none)) else (some false))) else (none)) else (none)) else (some false)) else (some false)) else (some (x9 == x13))) else (some (x9 == x13)))
end
def pentaglotlaw28_SatIrrelevant.f (k : Nat) (a0_0 : Int) (l0_1 : List (S52)) (a0_2 : Int) (l1 : List Int) (a2 : Int) : Option (Bool) := (pentaglotlaw28_awake.f k).bind fun t255 => (if t255 = true then ((pentaglotref28_Large.f k a0_0 l0_1 a0_2 60).bind fun t256 => (if t256 = true then (pentaglotlaw28_SatIrrelevant.j0 k l1 a2 true a0_0 l0_1 a0_2) else (if a0_0 < 0 then (pentaglotlaw28_SatIrrelevant.j0 k l1 a2 true a0_0 l0_1 a0_2) else (if a0_0 > 10 then (pentaglotlaw28_SatIrrelevant.j0 k l1 a2 true a0_0 l0_1 a0_2) else (if (l1.length : Int) > 10 then (pentaglotlaw28_SatIrrelevant.j0 k l1 a2 true a0_0 l0_1 a0_2) else (if a2 < 0 then (pentaglotlaw28_SatIrrelevant.j0 k l1 a2 true a0_0 l0_1 a0_2) else (pentaglotlaw28_SatIrrelevant.j0 k l1 a2 (decide (a2 > 2)) a0_0 l0_1 a0_2))))))) else (some false))
theorem pentaglotlaw28_SatIrrelevant.mono_l : ∀ k, (∀ y0 y1 y2 y3 y4 y5, LeO (pentaglotlaw28_SatIrrelevant.j0 k y0 y1 y2 y3 y4 y5) (pentaglotlaw28_SatIrrelevant.j0 (k + 1) y0 y1 y2 y3 y4 y5)) ∧ (∀ y0 y1 y2 y3 y4 y5 y6 y7, LeO (pentaglotlaw28_SatIrrelevant.j1 k y0 y1 y2 y3 y4 y5 y6 y7) (pentaglotlaw28_SatIrrelevant.j1 (k + 1) y0 y1 y2 y3 y4 y5 y6 y7))
  | 0 => ⟨fun _ _ _ _ _ _ r h => by simp [pentaglotlaw28_SatIrrelevant.j0] at h, fun _ _ _ _ _ _ _ _ r h => by simp [pentaglotlaw28_SatIrrelevant.j1] at h⟩
  | k + 1 => by
    obtain ⟨ih0, ih1⟩ := pentaglotlaw28_SatIrrelevant.mono_l k
    refine ⟨?_, ?_⟩
    · intro y0 y1 y2 y3 y4 y5
      unfold pentaglotlaw28_SatIrrelevant.j0
      repeat' first
      | (with_reducible exact ih0 _ _ _ _ _ _)
      | (with_reducible exact ih1 _ _ _ _ _ _ _ _)
      | (with_reducible exact pentaglotlaw28_awake.mono _)
      | (with_reducible exact pentaglotlaw28_same.mono _ _ _)
      | (with_reducible exact pentaglotref28_Large.mono _ _ _ _ _)
      | (with_reducible exact sat_Least.mono _ _ _ _ _ _)
      | (with_reducible exact LeO.refl _)
      | (with_reducible exact LeO.none _)
      | (with_reducible refine LeO.ite ?_ ?_)
      | (with_reducible refine LeO.bind ?_ (fun _ => ?_))
      | exact ih0 _ _ _ _ _ _
      | exact ih1 _ _ _ _ _ _ _ _
      | exact pentaglotlaw28_awake.mono _
      | exact pentaglotlaw28_same.mono _ _ _
      | exact pentaglotref28_Large.mono _ _ _ _ _
      | exact sat_Least.mono _ _ _ _ _ _
      | exact LeO.none _
      | refine LeO.ite ?_ ?_
      | refine LeO.bind ?_ (fun _ => ?_)
    · intro y0 y1 y2 y3 y4 y5 y6 y7
      unfold pentaglotlaw28_SatIrrelevant.j1
      repeat' first
      | (with_reducible exact ih0 _ _ _ _ _ _)
      | (with_reducible exact ih1 _ _ _ _ _ _ _ _)
      | (with_reducible exact pentaglotlaw28_awake.mono _)
      | (with_reducible exact pentaglotlaw28_same.mono _ _ _)
      | (with_reducible exact pentaglotref28_Large.mono _ _ _ _ _)
      | (with_reducible exact sat_Least.mono _ _ _ _ _ _)
      | (with_reducible exact LeO.refl _)
      | (with_reducible exact LeO.none _)
      | (with_reducible refine LeO.ite ?_ ?_)
      | (with_reducible refine LeO.bind ?_ (fun _ => ?_))
      | exact ih0 _ _ _ _ _ _
      | exact ih1 _ _ _ _ _ _ _ _
      | exact pentaglotlaw28_awake.mono _
      | exact pentaglotlaw28_same.mono _ _ _
      | exact pentaglotref28_Large.mono _ _ _ _ _
      | exact sat_Least.mono _ _ _ _ _ _
      | exact LeO.none _
      | refine LeO.ite ?_ ?_
      | refine LeO.bind ?_ (fun _ => ?_)
theorem pentaglotlaw28_SatIrrelevant.mono : ∀ a0 a1 a2 a3 a4 k, LeO (pentaglotlaw28_SatIrrelevant.f k a0 a1 a2 a3 a4) (pentaglotlaw28_SatIrrelevant.f (k + 1) a0 a1 a2 a3 a4) := by
  intro a0 a1 a2 a3 a4 k
  obtain ⟨ih0, ih1⟩ := pentaglotlaw28_SatIrrelevant.mono_l k
  unfold pentaglotlaw28_SatIrrelevant.f
  repeat' first
      | (with_reducible exact ih0 _ _ _ _ _ _)
      | (with_reducible exact ih1 _ _ _ _ _ _ _ _)
      | (with_reducible exact pentaglotlaw28_awake.mono _)
      | (with_reducible exact pentaglotlaw28_same.mono _ _ _)
      | (with_reducible exact pentaglotref28_Large.mono _ _ _ _ _)
      | (with_reducible exact sat_Least.mono _ _ _ _ _ _)
      | (with_reducible exact LeO.refl _)
      | (with_reducible exact LeO.none _)
      | (with_reducible refine LeO.ite ?_ ?_)
      | (with_reducible refine LeO.bind ?_ (fun _ => ?_))
      | exact ih0 _ _ _ _ _ _
      | exact ih1 _ _ _ _ _ _ _ _
      | exact pentaglotlaw28_awake.mono _
      | exact pentaglotlaw28_same.mono _ _ _
      | exact pentaglotref28_Large.mono _ _ _ _ _
      | exact sat_Least.mono _ _ _ _ _ _
      | exact LeO.none _
      | refine LeO.ite ?_ ?_
      | refine LeO.bind ?_ (fun _ => ?_)
def pentaglotlaw28_SatIrrelevant.T8 : Bool × List (List Nat × List Nat) := (true, [([], []), ([], []), ([], []), ([1, 2], [1, 2]), ([], []), ([4], [4]), ([3, 5, 3], [3, 5]), ([0, 6, 6], [0, 6]), ([7], [7]), ([8], [8]), ([8], [8]), ([8], [8]), ([9, 7, 0, 1, 2, 3, 4, 5, 6, 7, 8, 9], [9]), ([10, 12, 0, 1, 2, 3, 4, 5, 6, 7, 8, 9, 10, 12], [10]), ([11, 13, 0, 1, 2, 3, 4, 5, 6, 7, 8, 9, 10, 11, 12, 13], [11])])
def pentaglotlaw28_SatIrrelevant.B8 : List Nat := [0, 0, 0, 6, 0, 16, 62, 127, 255, 511, 511, 511, 1023, 6143, 16383]
theorem pentaglotlaw28_SatIrrelevant.tab8 : rtab .any (opsOf Try.f12 8) = pentaglotlaw28_SatIrrelevant.T8 := by kernel_rfl
theorem pentaglotlaw28_SatIrrelevant.bits8 : waitsOk pentaglotlaw28_SatIrrelevant.T8.2 pentaglotlaw28_SatIrrelevant.B8 = true := by kernel_rfl
set_option maxHeartbeats 8000000 in
set_option maxRecDepth 100000 in
theorem pentaglotlaw28_SatIrrelevant.calls (k : Nat) (a0_0 : Int) (A0_1 : Option Addr) (c0_1 : Nat) (l0_1 : List (S52)) (a0_2 : Int) (A1 : Option Addr) (c1 : Nat) (l1 : List Int) (a2 : Int) (r : Bool) (w : World) (hr0_1 : Kd.C k52 w A0_1 l0_1.length l0_1) (hc0_1 : l0_1.length ≤ c0_1) (hr1 : Kd.C (Kd.int .i64) w A1 l1.length l1) (hc1 : l1.length ≤ c1) (h : pentaglotlaw28_SatIrrelevant.f k a0_0 l0_1 a0_2 l1 a2 = some r) :
    Calls Try.prog 12 #[.agg #[.int .i64 a0_0, .slice A0_1 l0_1.length c0_1, .int .i64 a0_2], .slice A1 l1.length c1, .int .i64 a2] w fun e w' => e = .returned (.bool r) ∧ Below w.heap.size w w' := by
  have hu24 := Try.underlying24
  have HR0_1 := Aside0.mk hr0_1
  have HC0_1 := Aside0.mk hc0_1
  clear hr0_1 hc0_1
  have HR1 := Aside0.mk hr1
  have HC1 := Aside0.mk hc1
  clear hr1 hc1
  have HB := Aside0.mk (Below.refl w.heap.size w)
  have H : ((pentaglotlaw28_awake.f k).bind fun t255 => (if t255 = true then ((pentaglotref28_Large.f k a0_0 l0_1 a0_2 60).bind fun t256 => (if t256 = true then (pentaglotlaw28_SatIrrelevant.j0 k l1 a2 true a0_0 l0_1 a0_2) else (if a0_0 < 0 then (pentaglotlaw28_SatIrrelevant.j0 k l1 a2 true a0_0 l0_1 a0_2) else (if a0_0 > 10 then (pentaglotlaw28_SatIrrelevant.j0 k l1 a2 true a0_0 l0_1 a0_2) else (if (l1.length : Int) > 10 then (pentaglotlaw28_SatIrrelevant.j0 k l1 a2 true a0_0 l0_1 a0_2) else (if a2 < 0 then (pentaglotlaw28_SatIrrelevant.j0 k l1 a2 true a0_0 l0_1 a0_2) else (pentaglotlaw28_SatIrrelevant.j0 k l1 a2 (decide (a2 > 2)) a0_0 l0_1 a0_2))))))) else (some false))) = some r := h
  clear h
  replace H := Option.bind_eq_some_iff.mp H
  obtain ⟨t255, A40, H⟩ := H
  replace H : (if t255 = true then ((pentaglotref28_Large.f k a0_0 l0_1 a0_2 60).bind fun t256 => (if t256 = true then (pentaglotlaw28_SatIrrelevant.j0 k l1 a2 true a0_0 l0_1 a0_2) else (if a0_0 < 0 then (pentaglotlaw28_SatIrrelevant.j0 k l1 a2 true a0_0 l0_1 a0_2) else (if a0_0 > 10 then (pentaglotlaw28_SatIrrelevant.j0 k l1 a2 true a0_0 l0_1 a0_2) else (if (l1.length : Int) > 10 then (pentaglotlaw28_SatIrrelevant.j0 k l1 a2 true a0_0 l0_1 a0_2) else (if a2 < 0 then (pentaglotlaw28_SatIrrelevant.j0 k l1 a2 true a0_0 l0_1 a0_2) else (pentaglotlaw28_SatIrrelevant.j0 k l1 a2 (decide (a2 > 2)) a0_0 l0_1 a0_2))))))) else (some false)) = some r := H
  have A4 := Aside0.mk A40
  clear A40
  by_cases c5 : t255 = true
  · subst c5
    have H1 : ((pentaglotref28_Large.f k a0_0 l0_1 a0_2 60).bind fun t256 => (if t256 = true then (pentaglotlaw28_SatIrrelevant.j0 k l1 a2 true a0_0 l0_1 a0_2) else (if a0_0 < 0 then (pentaglotlaw28_SatIrrelevant.j0 k l1 a2 true a0_0 l0_1 a0_2) else (if a0_0 > 10 then (pentaglotlaw28_SatIrrelevant.j0 k l1 a2 true a0_0 l0_1 a0_2) else (if (l1.length : Int) > 10 then (pentaglotlaw28_SatIrrelevant.j0 k l1 a2 true a0_0 l0_1 a0_2) else (if a2 < 0 then (pentaglotlaw28_SatIrrelevant.j0 k l1 a2 true a0_0 l0_1 a0_2) else (pentaglotlaw28_SatIrrelevant.j0 k l1 a2 (decide (a2 > 2)) a0_0 l0_1 a0_2))))))) = some r := by rw [if_pos rfl] at H; exact H
    clear H
    have H := H1
    clear H1
    have HC6 := Aside0.mk H
    clear H
    go_enter Try.func12, Try.ntmps12
    go_upto_region 3 with (first | ((with_reducible refine gate_dst (N := 3) rfl ?_); (try (refine gate_guard (by rfl) ?_; dsimp only)); refine box_event ?hg (N := 3) ?hd (cs := #[.int .i64 a0_0, .slice A0_1 l0_1.length c0_1, .int .i64 a0_2]) (t := 24) ?hr ?_; (case hd => rfl); (case hg => rfl); (case hr => first | (go_simp; done) | (go_simp; rfl)); intro gb254 hg w7 hbox hb; have n0_ := Aside0.mk (below_step (by repeat (first | (with_reducible first | exact HB.out | apply below_alloc | apply pw_below_drewN | apply below_drew1) | exact HB.out)) hb); have n1_ := Aside0.mk (hbox); have n2_ := Aside0.mk ((by rw [hg]; exact (below_size (by repeat (first | (with_reducible first | exact HB.out | apply below_alloc | apply pw_below_drewN | apply below_drew1) | exact HB.out))) : w.heap.size ≤ gb254)); have n3_ := Aside0.mk ((by rw [hg]; exact (below_size (by repeat (first | (with_reducible first | exact HB.out | apply below_alloc | apply pw_below_drewN | apply below_drew1) | exact HB.out))) : w.heap.size ≤ gb254)); clear HB; have HB := n0_; have BK254 := n1_; have GW254 := n2_; have GE254 := n3_; clear n0_ n1_ n2_ n3_; clear hb hbox hg) | ((with_reducible refine gate_callee (f := 13) rfl ?_); refine goesL_ (some 14) rfl rfl Try.func13 (by kernel_rfl) rfl #[] rfl (by (try simp only [List.map_toArray, List.map_cons, List.map_nil]); first | done | rfl | (simp only [List.length_drop, List.length_take]; rfl)) ?_; (with_reducible refine (pentaglotlaw28_awake.calls k  true _ A4.out).mono ?_); rintro e w8 ⟨rfl, hb⟩; refine ⟨_, rfl, ?_⟩; have n0_ := Aside0.mk (blk_below (g := gb254) (o := .cells #[.int .i64 a0_0, .slice A0_1 l0_1.length c0_1, .int .i64 a0_2] 24 (0, 0)) (by (with_reducible repeat (first | refine blk_drewN ?_ _ | refine blk_drew ?_ | refine blk_alloc ?_ _)); exact BK254.out) hb); have n1_ := Aside0.mk (below_step (by repeat (first | (with_reducible first | exact HB.out | apply below_alloc | apply pw_below_drewN | apply below_drew1 | refine below_set ?_ GE254.out) | exact HB.out)) hb); clear BK254; clear HB; have BK254 := n0_; have HB := n1_; clear n0_ n1_; (try clear hb); (try clear hb2); (try clear hk); (try clear hi)))
    (try simp only [Act.put, List.setIfInBounds_toArray, List.set_cons_zero, List.set_cons_succ])
    go_cut [40] (fun v40 wc => ∃ (kq : Nat) (x40_5 : Bool), v40 = .bool x40_5 ∧ Aside0 (pentaglotlaw28_SatIrrelevant.j0 kq l1 a2 x40_5 a0_0 l0_1 a0_2 = some r) ∧ Aside0 (kq ≤ k) ∧ Aside0 (wc.heap[gb254]? = some (.cells #[.int .i64 a0_0, (.slice A0_1 l0_1.length c0_1), .int .i64 a0_2] 24 (0, 0))) ∧ Aside0 (Below w.heap.size w wc))
    case first =>
      have H := HC6.out
      clear HC6
      replace H := Option.bind_eq_some_iff.mp H
      obtain ⟨t256, A90, H⟩ := H
      replace H : (if t256 = true then (pentaglotlaw28_SatIrrelevant.j0 k l1 a2 true a0_0 l0_1 a0_2) else (if a0_0 < 0 then (pentaglotlaw28_SatIrrelevant.j0 k l1 a2 true a0_0 l0_1 a0_2) else (if a0_0 > 10 then (pentaglotlaw28_SatIrrelevant.j0 k l1 a2 true a0_0 l0_1 a0_2) else (if (l1.length : Int) > 10 then (pentaglotlaw28_SatIrrelevant.j0 k l1 a2 true a0_0 l0_1 a0_2) else (if a2 < 0 then (pentaglotlaw28_SatIrrelevant.j0 k l1 a2 true a0_0 l0_1 a0_2) else (pentaglotlaw28_SatIrrelevant.j0 k l1 a2 (decide (a2 > 2)) a0_0 l0_1 a0_2)))))) = some r := H
      have A9 := Aside0.mk A90
      clear A90
      by_cases c10 : t256 = true
      · subst c10
        have H1 : (pentaglotlaw28_SatIrrelevant.j0 k l1 a2 true a0_0 l0_1 a0_2) = some r := by rw [if_pos rfl] at H; exact H
        clear H
        have H := H1
        clear H1
        have H' := Aside0.mk H
        clear H
        have hcz11_0 : w8.cell? ⟨gb254, 0, none⟩ = some (.int .i64 a0_0) := (blk_cell BK254.out 0).trans rfl
        have hcz11_1 : w8.cell? ⟨gb254, 1, none⟩ = some (.slice A0_1 l0_1.length c0_1) := (blk_cell BK254.out 1).trans rfl
        have hcz11_2 : w8.cell? ⟨gb254, 2, none⟩ = some (.int .i64 a0_2) := (blk_cell BK254.out 2).trans rfl
        have hfz11_0 := blk_frozen BK254.out 0
        have hfz11_1 := blk_frozen BK254.out 1
        have hfz11_2 := blk_frozen BK254.out 2
        go_wp2_with (first | ((with_reducible refine gate_callee (f := 14) rfl ?_); refine goesL_ (some 17) rfl rfl Try.func14 (by kernel_rfl) rfl #[.agg #[.int .i64 a0_0, .slice A0_1 l0_1.length c0_1, .int .i64 a0_2], .int .i64 60] rfl (by (try simp only [List.map_toArray, List.map_cons, List.map_nil]); first | done | rfl | (simp only [List.length_drop, List.length_take]; rfl)) ?_; (with_reducible refine (pentaglotref28_Large.calls k a0_0 _ _ l0_1 a0_2 60 true _ ?side1 ?side2 A9.out).mono ?_); (case side1 => repeat (first | exact (Kd.C_below HR0_1.out HB.out) | (with_reducible refine Kd.C_alloc ?_ _) | (with_reducible refine Kd.C_drewN ?_ _) | (with_reducible refine Kd.C_drew ?_))); (case side2 => exact HC0_1.out); rintro e w12 ⟨rfl, hb⟩; refine ⟨_, rfl, ?_⟩; have n0_ := Aside0.mk (blk_below (g := gb254) (o := .cells #[.int .i64 a0_0, .slice A0_1 l0_1.length c0_1, .int .i64 a0_2] 24 (0, 0)) (by (with_reducible repeat (first | refine blk_drewN ?_ _ | refine blk_drew ?_ | refine blk_alloc ?_ _)); exact BK254.out) hb); have n1_ := Aside0.mk (below_step (by repeat (first | (with_reducible first | exact HB.out | apply below_alloc | apply pw_below_drewN | apply below_drew1 | refine below_set ?_ GE254.out) | exact HB.out)) hb); clear BK254; clear HB; have BK254 := n0_; have HB := n1_; clear n0_ n1_; (try clear hb); (try clear hb2); (try clear hk); (try clear hi)))
        go_meet
        case rel => exact ⟨_, (true), (by first | rfl | (simp; done) | (simp [*]; done)), H', ⟨by first | omega | exact Nat.le_refl _⟩, ⟨by (with_reducible repeat (first | refine blk_drewN ?_ _ | refine blk_drew ?_ | refine blk_alloc ?_ _)); exact BK254.out⟩, ⟨by repeat (first | (with_reducible first | exact HB.out | apply below_alloc | apply pw_below_drewN | apply below_drew1 | refine below_set ?_ GE254.out) | exact HB.out)⟩⟩
      · replace c10 := Bool.eq_false_iff.mpr c10
        subst c10
        have H1 : (if a0_0 < 0 then (pentaglotlaw28_SatIrrelevant.j0 k l1 a2 true a0_0 l0_1 a0_2) else (if a0_0 > 10 then (pentaglotlaw28_SatIrrelevant.j0 k l1 a2 true a0_0 l0_1 a0_2) else (if (l1.length : Int) > 10 then (pentaglotlaw28_SatIrrelevant.j0 k l1 a2 true a0_0 l0_1 a0_2) else (if a2 < 0 then (pentaglotlaw28_SatIrrelevant.j0 k l1 a2 true a0_0 l0_1 a0_2) else (pentaglotlaw28_SatIrrelevant.j0 k l1 a2 (decide (a2 > 2)) a0_0 l0_1 a0_2))))) = some r := by rw [if_neg (show ¬ (false = true) by decide)] at H; exact H
        clear H
        have H := H1
        clear H1
        by_cases c13 : a0_0 < 0
        · rw [if_pos c13] at H
          have c13b0 : decide (a0_0 < 0) = true := decide_eq_true c13
          clear c13
          (first | rw [c13b0] | (simp only [i64_w, i32_w]; rw [c13b0]) | skip)
          have H' := Aside0.mk H
          clear H
          have hcz14_0 : w8.cell? ⟨gb254, 0, none⟩ = some (.int .i64 a0_0) := (blk_cell BK254.out 0).trans rfl
          have hcz14_1 : w8.cell? ⟨gb254, 1, none⟩ = some (.slice A0_1 l0_1.length c0_1) := (blk_cell BK254.out 1).trans rfl
          have hcz14_2 : w8.cell? ⟨gb254, 2, none⟩ = some (.int .i64 a0_2) := (blk_cell BK254.out 2).trans rfl
          have hfz14_0 := blk_frozen BK254.out 0
          have hfz14_1 := blk_frozen BK254.out 1
          have hfz14_2 := blk_frozen BK254.out 2
          go_wp2_with (first | ((with_reducible refine gate_callee (f := 14) rfl ?_); refine goesL_ (some 17) rfl rfl Try.func14 (by kernel_rfl) rfl #[.agg #[.int .i64 a0_0, .slice A0_1 l0_1.length c0_1, .int .i64 a0_2], .int .i64 60] rfl (by (try simp only [List.map_toArray, List.map_cons, List.map_nil]); first | done | rfl | (simp only [List.length_drop, List.length_take]; rfl)) ?_; (with_reducible refine (pentaglotref28_Large.calls k a0_0 _ _ l0_1 a0_2 60 false _ ?side1 ?side2 A9.out).mono ?_); (case side1 => repeat (first | exact (Kd.C_below HR0_1.out HB.out) | (with_reducible refine Kd.C_alloc ?_ _) | (with_reducible refine Kd.C_drewN ?_ _) | (with_reducible refine Kd.C_drew ?_))); (case side2 => exact HC0_1.out); rintro e w15 ⟨rfl, hb⟩; refine ⟨_, rfl, ?_⟩; have n0_ := Aside0.mk (blk_below (g := gb254) (o := .cells #[.int .i64 a0_0, .slice A0_1 l0_1.length c0_1, .int .i64 a0_2] 24 (0, 0)) (by (with_reducible repeat (first | refine blk_drewN ?_ _ | refine blk_drew ?_ | refine blk_alloc ?_ _)); exact BK254.out) hb); have n1_ := Aside0.mk (below_step (by repeat (first | (with_reducible first | exact HB.out | apply below_alloc | apply pw_below_drewN | apply below_drew1 | refine below_set ?_ GE254.out) | exact HB.out)) hb); clear BK254; clear HB; have BK254 := n0_; have HB := n1_; clear n0_ n1_; (try clear hb); (try clear hb2); (try clear hk); (try clear hi); have hcz16_0 : w15.cell? ⟨gb254, 0, none⟩ = some (.int .i64 a0_0) := (blk_cell BK254.out 0).trans rfl; have hcz16_1 : w15.cell? ⟨gb254, 1, none⟩ = some (.slice A0_1 l0_1.length c0_1) := (blk_cell BK254.out 1).trans rfl; have hcz16_2 : w15.cell? ⟨gb254, 2, none⟩ = some (.int .i64 a0_2) := (blk_cell BK254.out 2).trans rfl; have hfz16_0 := blk_frozen BK254.out 0; have hfz16_1 := blk_frozen BK254.out 1; have hfz16_2 := blk_frozen BK254.out 2))
          go_meet
          case rel => exact ⟨_, (true), (by first | rfl | (simp; done) | (simp [*]; done)), H', ⟨by first | omega | exact Nat.le_refl _⟩, ⟨by (with_reducible repeat (first | refine blk_drewN ?_ _ | refine blk_drew ?_ | refine blk_alloc ?_ _)); exact BK254.out⟩, ⟨by repeat (first | (with_reducible first | exact HB.out | apply below_alloc | apply pw_below_drewN | apply below_drew1 | refine below_set ?_ GE254.out) | exact HB.out)⟩⟩
        · rw [if_neg c13] at H
          have c13b0 : decide (a0_0 < 0) = false := decide_eq_false c13
          clear c13
          (first | rw [c13b0] | (simp only [i64_w, i32_w]; rw [c13b0]) | skip)
          by_cases c17 : a0_0 > 10
          · rw [if_pos c17] at H
            have c17b0 : decide (10 < a0_0) = true := decide_eq_true c17
            clear c17
            have H' := Aside0.mk H
            clear H
            have hcz18_0 : w8.cell? ⟨gb254, 0, none⟩ = some (.int .i64 a0_0) := (blk_cell BK254.out 0).trans rfl
            have hcz18_1 : w8.cell? ⟨gb254, 1, none⟩ = some (.slice A0_1 l0_1.length c0_1) := (blk_cell BK254.out 1).trans rfl
            have hcz18_2 : w8.cell? ⟨gb254, 2, none⟩ = some (.int .i64 a0_2) := (blk_cell BK254.out 2).trans rfl
            have hfz18_0 := blk_frozen BK254.out 0
            have hfz18_1 := blk_frozen BK254.out 1
            have hfz18_2 := blk_frozen BK254.out 2
            go_wp2_with (first | ((with_reducible refine gate_callee (f := 14) rfl ?_); refine goesL_ (some 17) rfl rfl Try.func14 (by kernel_rfl) rfl #[.agg #[.int .i64 a0_0, .slice A0_1 l0_1.length c0_1, .int .i64 a0_2], .int .i64 60] rfl (by (try simp only [List.map_toArray, List.map_cons, List.map_nil]); first | done | rfl | (simp only [List.length_drop, List.length_take]; rfl)) ?_; (with_reducible refine (pentaglotref28_Large.calls k a0_0 _ _ l0_1 a0_2 60 false _ ?side1 ?side2 A9.out).mono ?_); (case side1 => repeat (first | exact (Kd.C_below HR0_1.out HB.out) | (with_reducible refine Kd.C_alloc ?_ _) | (with_reducible refine Kd.C_drewN ?_ _) | (with_reducible refine Kd.C_drew ?_))); (case side2 => exact HC0_1.out); rintro e w19 ⟨rfl, hb⟩; refine ⟨_, rfl, ?_⟩; have n0_ := Aside0.mk (blk_below (g := gb254) (o := .cells #[.int .i64 a0_0, .slice A0_1 l0_1.length c0_1, .int .i64 a0_2] 24 (0, 0)) (by (with_reducible repeat (first | refine blk_drewN ?_ _ | refine blk_drew ?_ | refine blk_alloc ?_ _)); exact BK254.out) hb); have n1_ := Aside0.mk (below_step (by repeat (first | (with_reducible first | exact HB.out | apply below_alloc | apply pw_below_drewN | apply below_drew1 | refine below_set ?_ GE254.out) | exact HB.out)) hb); clear BK254; clear HB; have BK254 := n0_; have HB := n1_; clear n0_ n1_; (try clear hb); (try clear hb2); (try clear hk); (try clear hi); have hcz20_0 : w19.cell? ⟨gb254, 0, none⟩ = some (.int .i64 a0_0) := (blk_cell BK254.out 0).trans rfl; have hcz20_1 : w19.cell? ⟨gb254, 1, none⟩ = some (.slice A0_1 l0_1.length c0_1) := (blk_cell BK254.out 1).trans rfl; have hcz20_2 : w19.cell? ⟨gb254, 2, none⟩ = some (.int .i64 a0_2) := (blk_cell BK254.out 2).trans rfl; have hfz20_0 := blk_frozen BK254.out 0; have hfz20_1 := blk_frozen BK254.out 1; have hfz20_2 := blk_frozen BK254.out 2))
            go_meet
            case rel => exact ⟨_, (true), (by first | rfl | (simp; done) | (simp [*]; done)), H', ⟨by first | omega | exact Nat.le_refl _⟩, ⟨by (with_reducible repeat (first | refine blk_drewN ?_ _ | refine blk_drew ?_ | refine blk_alloc ?_ _)); exact BK254.out⟩, ⟨by repeat (first | (with_reducible first | exact HB.out | apply below_alloc | apply pw_below_drewN | apply below_drew1 | refine below_set ?_ GE254.out) | exact HB.out)⟩⟩
          · rw [if_neg c17] at H
            have c17b0 : decide (10 < a0_0) = false := decide_eq_false c17
            clear c17
            by_cases c21 : (l1.length : Int) > 10
            · rw [if_pos c21] at H
              have c21b0 : decide (10 < (l1.length : Int)) = true := decide_eq_true c21
              have c21b1 : decide (10 < l1.length) = true := decide_eq_true (by omega)
              clear c21
              have H' := Aside0.mk H
              clear H
              have hcz22_0 : w8.cell? ⟨gb254, 0, none⟩ = some (.int .i64 a0_0) := (blk_cell BK254.out 0).trans rfl
              have hcz22_1 : w8.cell? ⟨gb254, 1, none⟩ = some (.slice A0_1 l0_1.length c0_1) := (blk_cell BK254.out 1).trans rfl
              have hcz22_2 : w8.cell? ⟨gb254, 2, none⟩ = some (.int .i64 a0_2) := (blk_cell BK254.out 2).trans rfl
              have hfz22_0 := blk_frozen BK254.out 0
              have hfz22_1 := blk_frozen BK254.out 1
              have hfz22_2 := blk_frozen BK254.out 2
              go_wp2_with (first | ((with_reducible refine gate_callee (f := 14) rfl ?_); refine goesL_ (some 17) rfl rfl Try.func14 (by kernel_rfl) rfl #[.agg #[.int .i64 a0_0, .slice A0_1 l0_1.length c0_1, .int .i64 a0_2], .int .i64 60] rfl (by (try simp only [List.map_toArray, List.map_cons, List.map_nil]); first | done | rfl | (simp only [List.length_drop, List.length_take]; rfl)) ?_; (with_reducible refine (pentaglotref28_Large.calls k a0_0 _ _ l0_1 a0_2 60 false _ ?side1 ?side2 A9.out).mono ?_); (case side1 => repeat (first | exact (Kd.C_below HR0_1.out HB.out) | (with_reducible refine Kd.C_alloc ?_ _) | (with_reducible refine Kd.C_drewN ?_ _) | (with_reducible refine Kd.C_drew ?_))); (case side2 => exact HC0_1.out); rintro e w23 ⟨rfl, hb⟩; refine ⟨_, rfl, ?_⟩; have n0_ := Aside0.mk (blk_below (g := gb254) (o := .cells #[.int .i64 a0_0, .slice A0_1 l0_1.length c0_1, .int .i64 a0_2] 24 (0, 0)) (by (with_reducible repeat (first | refine blk_drewN ?_ _ | refine blk_drew ?_ | refine blk_alloc ?_ _)); exact BK254.out) hb); have n1_ := Aside0.mk (below_step (by repeat (first | (with_reducible first | exact HB.out | apply below_alloc | apply pw_below_drewN | apply below_drew1 | refine below_set ?_ GE254.out) | exact HB.out)) hb); clear BK254; clear HB; have BK254 := n0_; have HB := n1_; clear n0_ n1_; (try clear hb); (try clear hb2); (try clear hk); (try clear hi); have hcz24_0 : w23.cell? ⟨gb254, 0, none⟩ = some (.int .i64 a0_0) := (blk_cell BK254.out 0).trans rfl; have hcz24_1 : w23.cell? ⟨gb254, 1, none⟩ = some (.slice A0_1 l0_1.length c0_1) := (blk_cell BK254.out 1).trans rfl; have hcz24_2 : w23.cell? ⟨gb254, 2, none⟩ = some (.int .i64 a0_2) := (blk_cell BK254.out 2).trans rfl; have hfz24_0 := blk_frozen BK254.out 0; have hfz24_1 := blk_frozen BK254.out 1; have hfz24_2 := blk_frozen BK254.out 2))
              go_meet
              case rel => exact ⟨_, (true), (by first | rfl | (simp; done) | (simp [*]; done)), H', ⟨by first | omega | exact Nat.le_refl _⟩, ⟨by (with_reducible repeat (first | refine blk_drewN ?_ _ | refine blk_drew ?_ | refine blk_alloc ?_ _)); exact BK254.out⟩, ⟨by repeat (first | (with_reducible first | exact HB.out | apply below_alloc | apply pw_below_drewN | apply below_drew1 | refine below_set ?_ GE254.out) | exact HB.out)⟩⟩
            · rw [if_neg c21] at H
              have c21b0 : decide (10 < (l1.length : Int)) = false := decide_eq_false c21
              have c21b1 : decide (10 < l1.length) = false := decide_eq_false (by omega)
              clear c21
              by_cases c25 : a2 < 0
              · rw [if_pos c25] at H
                have c25b0 : decide (a2 < 0) = true := decide_eq_true c25
                clear c25
                have H' := Aside0.mk H
                clear H
                have hcz26_0 : w8.cell? ⟨gb254, 0, none⟩ = some (.int .i64 a0_0) := (blk_cell BK254.out 0).trans rfl
                have hcz26_1 : w8.cell? ⟨gb254, 1, none⟩ = some (.slice A0_1 l0_1.length c0_1) := (blk_cell BK254.out 1).trans rfl
                have hcz26_2 : w8.cell? ⟨gb254, 2, none⟩ = some (.int .i64 a0_2) := (blk_cell BK254.out 2).trans rfl
                have hfz26_0 := blk_frozen BK254.out 0
                have hfz26_1 := blk_frozen BK254.out 1
                have hfz26_2 := blk_frozen BK254.out 2
                go_wp2_with (first | ((with_reducible refine gate_callee (f := 14) rfl ?_); refine goesL_ (some 17) rfl rfl Try.func14 (by kernel_rfl) rfl #[.agg #[.int .i64 a0_0, .slice A0_1 l0_1.length c0_1, .int .i64 a0_2], .int .i64 60] rfl (by (try simp only [List.map_toArray, List.map_cons, List.map_nil]); first | done | rfl | (simp only [List.length_drop, List.length_take]; rfl)) ?_; (with_reducible refine (pentaglotref28_Large.calls k a0_0 _ _ l0_1 a0_2 60 false _ ?side1 ?side2 A9.out).mono ?_); (case side1 => repeat (first | exact (Kd.C_below HR0_1.out HB.out) | (with_reducible refine Kd.C_alloc ?_ _) | (with_reducible refine Kd.C_drewN ?_ _) | (with_reducible refine Kd.C_drew ?_))); (case side2 => exact HC0_1.out); rintro e w27 ⟨rfl, hb⟩; refine ⟨_, rfl, ?_⟩; have n0_ := Aside0.mk (blk_below (g := gb254) (o := .cells #[.int .i64 a0_0, .slice A0_1 l0_1.length c0_1, .int .i64 a0_2] 24 (0, 0)) (by (with_reducible repeat (first | refine blk_drewN ?_ _ | refine blk_drew ?_ | refine blk_alloc ?_ _)); exact BK254.out) hb); have n1_ := Aside0.mk (below_step (by repeat (first | (with_reducible first | exact HB.out | apply below_alloc | apply pw_below_drewN | apply below_drew1 | refine below_set ?_ GE254.out) | exact HB.out)) hb); clear BK254; clear HB; have BK254 := n0_; have HB := n1_; clear n0_ n1_; (try clear hb); (try clear hb2); (try clear hk); (try clear hi); have hcz28_0 : w27.cell? ⟨gb254, 0, none⟩ = some (.int .i64 a0_0) := (blk_cell BK254.out 0).trans rfl; have hcz28_1 : w27.cell? ⟨gb254, 1, none⟩ = some (.slice A0_1 l0_1.length c0_1) := (blk_cell BK254.out 1).trans rfl; have hcz28_2 : w27.cell? ⟨gb254, 2, none⟩ = some (.int .i64 a0_2) := (blk_cell BK254.out 2).trans rfl; have hfz28_0 := blk_frozen BK254.out 0; have hfz28_1 := blk_frozen BK254.out 1; have hfz28_2 := blk_frozen BK254.out 2))
                go_meet
                case rel => exact ⟨_, (true), (by first | rfl | (simp; done) | (simp [*]; done)), H', ⟨by first | omega | exact Nat.le_refl _⟩, ⟨by (with_reducible repeat (first | refine blk_drewN ?_ _ | refine blk_drew ?_ | refine blk_alloc ?_ _)); exact BK254.out⟩, ⟨by repeat (first | (with_reducible first | exact HB.out | apply below_alloc | apply pw_below_drewN | apply below_drew1 | refine below_set ?_ GE254.out) | exact HB.out)⟩⟩
              · rw [if_neg c25] at H
                have c25b0 : decide (a2 < 0) = false := decide_eq_false c25
                clear c25
                have H' := Aside0.mk H
                clear H
                have hcz29_0 : w8.cell? ⟨gb254, 0, none⟩ = some (.int .i64 a0_0) := (blk_cell BK254.out 0).trans rfl
                have hcz29_1 : w8.cell? ⟨gb254, 1, none⟩ = some (.slice A0_1 l0_1.length c0_1) := (blk_cell BK254.out 1).trans rfl
                have hcz29_2 : w8.cell? ⟨gb254, 2, none⟩ = some (.int .i64 a0_2) := (blk_cell BK254.out 2).trans rfl
                have hfz29_0 := blk_frozen BK254.out 0
                have hfz29_1 := blk_frozen BK254.out 1
                have hfz29_2 := blk_frozen BK254.out 2
                go_wp2_with (first | ((with_reducible refine gate_callee (f := 14) rfl ?_); refine goesL_ (some 17) rfl rfl Try.func14 (by kernel_rfl) rfl #[.agg #[.int .i64 a0_0, .slice A0_1 l0_1.length c0_1, .int .i64 a0_2], .int .i64 60] rfl (by (try simp only [List.map_toArray, List.map_cons, List.map_nil]); first | done | rfl | (simp only [List.length_drop, List.length_take]; rfl)) ?_; (with_reducible refine (pentaglotref28_Large.calls k a0_0 _ _ l0_1 a0_2 60 false _ ?side1 ?side2 A9.out).mono ?_); (case side1 => repeat (first | exact (Kd.C_below HR0_1.out HB.out) | (with_reducible refine Kd.C_alloc ?_ _) | (with_reducible refine Kd.C_drewN ?_ _) | (with_reducible refine Kd.C_drew ?_))); (case side2 => exact HC0_1.out); rintro e w30 ⟨rfl, hb⟩; refine ⟨_, rfl, ?_⟩; have n0_ := Aside0.mk (blk_below (g := gb254) (o := .cells #[.int .i64 a0_0, .slice A0_1 l0_1.length c0_1, .int .i64 a0_2] 24 (0, 0)) (by (with_reducible repeat (first | refine blk_drewN ?_ _ | refine blk_drew ?_ | refine blk_alloc ?_ _)); exact BK254.out) hb); have n1_ := Aside0.mk (below_step (by repeat (first | (with_reducible first | exact HB.out | apply below_alloc | apply pw_below_drewN | apply below_drew1 | refine below_set ?_ GE254.out) | exact HB.out)) hb); clear BK254; clear HB; have BK254 := n0_; have HB := n1_; clear n0_ n1_; (try clear hb); (try clear hb2); (try clear hk); (try clear hi); have hcz31_0 : w30.cell? ⟨gb254, 0, none⟩ = some (.int .i64 a0_0) := (blk_cell BK254.out 0).trans rfl; have hcz31_1 : w30.cell? ⟨gb254, 1, none⟩ = some (.slice A0_1 l0_1.length c0_1) := (blk_cell BK254.out 1).trans rfl; have hcz31_2 : w30.cell? ⟨gb254, 2, none⟩ = some (.int .i64 a0_2) := (blk_cell BK254.out 2).trans rfl; have hfz31_0 := blk_frozen BK254.out 0; have hfz31_1 := blk_frozen BK254.out 1; have hfz31_2 := blk_frozen BK254.out 2))
                go_meet
                case rel => exact ⟨_, (decide (a2 > 2)), (by first | rfl | (simp; done) | (simp [*]; done)), H', ⟨by first | omega | exact Nat.le_refl _⟩, ⟨by (with_reducible repeat (first | refine blk_drewN ?_ _ | refine blk_drew ?_ | refine blk_alloc ?_ _)); exact BK254.out⟩, ⟨by repeat (first | (with_reducible first | exact HB.out | apply below_alloc | apply pw_below_drewN | apply below_drew1 | refine below_set ?_ GE254.out) | exact HB.out)⟩⟩
    case rest =>
      clear HC6
      try clear c1
      try clear c2
      try clear p2
      try clear c5
      try clear c10
      try clear c12
      try clear c13
      try clear c13b0
      try clear c14
      try clear c17
      try clear c17b0
      try clear c21
      try clear c21b0
      try clear c21b1
      try clear c25
      try clear c25b0
      try clear hcz11_0
      try clear hcz11_1
      try clear hcz11_2
      try clear hcz14_0
      try clear hcz14_1
      try clear hcz14_2
      try clear hcz16_0
      try clear hcz16_1
      try clear hcz16_2
      try clear hcz18_0
      try clear hcz18_1
      try clear hcz18_2
      try clear hcz20_0
      try clear hcz20_1
      try clear hcz20_2
      try clear hcz22_0
      try clear hcz22_1
      try clear hcz22_2
      try clear hcz24_0
      try clear hcz24_1
      try clear hcz24_2
      try clear hcz26_0
      try clear hcz26_1
      try clear hcz26_2
      try clear hcz28_0
      try clear hcz28_1
      try clear hcz28_2
      try clear hcz29_0
      try clear hcz29_1
      try clear hcz29_2
      try clear hcz31_0
      try clear hcz31_1
      try clear hcz31_2
      try clear hfz11_0
      try clear hfz11_1
      try clear hfz11_2
      try clear hfz14_0
      try clear hfz14_1
      try clear hfz14_2
      try clear hfz16_0
      try clear hfz16_1
      try clear hfz16_2
      try clear hfz18_0
      try clear hfz18_1
      try clear hfz18_2
      try clear hfz20_0
      try clear hfz20_1
      try clear hfz20_2
      try clear hfz22_0
      try clear hfz22_1
      try clear hfz22_2
      try clear hfz24_0
      try clear hfz24_1
      try clear hfz24_2
      try clear hfz26_0
      try clear hfz26_1
      try clear hfz26_2
      try clear hfz28_0
      try clear hfz28_1
      try clear hfz28_2
      try clear hfz29_0
      try clear hfz29_1
      try clear hfz29_2
      try clear hfz31_0
      try clear hfz31_1
      try clear hfz31_2
      obtain ⟨kq, x40_5, rfl, HA, HJ5, BK254, HB⟩ := hcut
      cases kq with
      | zero => exact absurd HA.out (by simp [pentaglotlaw28_SatIrrelevant.j0])
      | succ kj5 =>
        have H := HA.out
        clear HA
        simp only [pentaglotlaw28_SatIrrelevant.j0] at H
        by_cases c32 : x40_5 = true
        · subst c32
          have H1 : (some true) = some r := by rw [if_pos rfl] at H; exact H
          clear H
          have H := H1
          clear H1
          obtain rfl := Option.some.inj H
          go_wp2
          go_ret
          exact ⟨by first | rfl | (simp [errW_none, errW_some] <;> rfl) | (simp [*, errW_none, errW_some] <;> rfl), by repeat (first | (with_reducible first | exact HB.out | apply below_alloc | apply pw_below_drewN | apply below_drew1 | refine below_set ?_ GE254.out) | exact HB.out)⟩
        · replace c32 := Bool.eq_false_iff.mpr c32
          subst c32
          have H1 : ((sat_Least.f kj5 a0_0 l0_1 a0_2 l1 5000).bind fun bt257 => ((some (([] : List Int) : List Int)).bind fun y263 => (if y263.length + l1.length < 17592186044416 then ((some (y263 ++ l1 : List Int)).bind fun y266 => ((some (([a2] : List Int) : List Int)).bind fun y269 => (if y266.length + y269.length < 17592186044416 then ((sat_Least.f kj5 (wrap64 (a0_0 + 1)) l0_1 a0_2 (y266 ++ y269) 5000).bind fun bt275 => (if bt257.2.2 = 1 then (pentaglotlaw28_SatIrrelevant.j1 kj5 a2 bt257.1 bt257.2.1 bt257.2.2 bt275.1 bt275.2.1 bt275.2.2 true) else (pentaglotlaw28_SatIrrelevant.j1 kj5 a2 bt257.1 bt257.2.1 bt257.2.2 bt275.1 bt275.2.1 bt275.2.2 (bt257.2.2 == 7)))) else (none)))) else (none)))) = some r := by rw [if_neg (show ¬ (false = true) by decide)] at H; exact H
          clear H
          have H := H1
          clear H1
          replace H := Option.bind_eq_some_iff.mp H
          obtain ⟨⟨t257, t260, t261⟩, A330, H⟩ := H
          replace H : ((some (([] : List Int) : List Int)).bind fun y263 => (if y263.length + l1.length < 17592186044416 then ((some (y263 ++ l1 : List Int)).bind fun y266 => ((some (([a2] : List Int) : List Int)).bind fun y269 => (if y266.length + y269.length < 17592186044416 then ((sat_Least.f kj5 (wrap64 (a0_0 + 1)) l0_1 a0_2 (y266 ++ y269) 5000).bind fun bt275 => (if t261 = 1 then (pentaglotlaw28_SatIrrelevant.j1 kj5 a2 t257 t260 t261 bt275.1 bt275.2.1 bt275.2.2 true) else (pentaglotlaw28_SatIrrelevant.j1 kj5 a2 t257 t260 t261 bt275.1 bt275.2.1 bt275.2.2 (t261 == 7)))) else (none)))) else (none))) = some r := H
          have A33 := Aside0.mk A330
          clear A330
          obtain ⟨y263, hy263⟩ : ∃ y_ : List Int, y_ = (([] : List Int)) := ⟨_, rfl⟩
          replace H : (if y263.length + l1.length < 17592186044416 then ((some (y263 ++ l1 : List Int)).bind fun y266 => ((some (([a2] : List Int) : List Int)).bind fun y269 => (if y266.length + y269.length < 17592186044416 then ((sat_Least.f kj5 (wrap64 (a0_0 + 1)) l0_1 a0_2 (y266 ++ y269) 5000).bind fun bt275 => (if t261 = 1 then (pentaglotlaw28_SatIrrelevant.j1 kj5 a2 t257 t260 t261 bt275.1 bt275.2.1 bt275.2.2 true) else (pentaglotlaw28_SatIrrelevant.j1 kj5 a2 t257 t260 t261 bt275.1 bt275.2.1 bt275.2.2 (t261 == 7)))) else (none)))) else (none)) = some r := by first | (rw [hy263]; with_reducible exact H) | (have H2_ := (Option.bind_some _ _).symm.trans H; rw [hy263]; with_reducible exact H2_) | (have H2_ := (Option.bind_some _ _).symm.trans H; with_reducible exact H2_) | with_reducible exact H | (rw [hy263]; exact H) | exact H
          have Ny263 := Aside0.mk hy263
          clear hy263
          by_cases c34 : y263.length + l1.length < 17592186044416
          · rw [if_pos c34] at H
            have LMc34 := Aside0.mk c34
            clear c34
            obtain ⟨y266, hy266⟩ : ∃ y_ : List Int, y_ = (y263 ++ l1) := ⟨_, rfl⟩
            replace H : ((some (([a2] : List Int) : List Int)).bind fun y269 => (if y266.length + y269.length < 17592186044416 then ((sat_Least.f kj5 (wrap64 (a0_0 + 1)) l0_1 a0_2 (y266 ++ y269) 5000).bind fun bt275 => (if t261 = 1 then (pentaglotlaw28_SatIrrelevant.j1 kj5 a2 t257 t260 t261 bt275.1 bt275.2.1 bt275.2.2 true) else (pentaglotlaw28_SatIrrelevant.j1 kj5 a2 t257 t260 t261 bt275.1 bt275.2.1 bt275.2.2 (t261 == 7)))) else (none))) = some r := by first | (rw [hy266]; with_reducible exact H) | (have H2_ := (Option.bind_some _ _).symm.trans H; rw [hy266]; with_reducible exact H2_) | (have H2_ := (Option.bind_some _ _).symm.trans H; with_reducible exact H2_) | with_reducible exact H | (rw [hy266]; exact H) | exact H
            have Ny266 := Aside0.mk hy266
            clear hy266
            obtain ⟨y269, hy269⟩ : ∃ y_ : List Int, y_ = (([a2] : List Int)) := ⟨_, rfl⟩
            replace H : (if y266.length + y269.length < 17592186044416 then ((sat_Least.f kj5 (wrap64 (a0_0 + 1)) l0_1 a0_2 (y266 ++ y269) 5000).bind fun bt275 => (if t261 = 1 then (pentaglotlaw28_SatIrrelevant.j1 kj5 a2 t257 t260 t261 bt275.1 bt275.2.1 bt275.2.2 true) else (pentaglotlaw28_SatIrrelevant.j1 kj5 a2 t257 t260 t261 bt275.1 bt275.2.1 bt275.2.2 (t261 == 7)))) else (none)) = some r := by first | (rw [hy269]; with_reducible exact H) | (have H2_ := (Option.bind_some _ _).symm.trans H; rw [hy269]; with_reducible exact H2_) | (have H2_ := (Option.bind_some _ _).symm.trans H; with_reducible exact H2_) | with_reducible exact H | (rw [hy269]; exact H) | exact H
            have Ny269 := Aside0.mk hy269
            clear hy269
            by_cases c35 : y266.length + y269.length < 17592186044416
            · rw [if_pos c35] at H
              have LMc35 := Aside0.mk c35
              clear c35
              obtain ⟨y272, hy272⟩ : ∃ y_ : List Int, y_ = (y266 ++ y269) := ⟨_, rfl⟩
              replace H : ((sat_Least.f kj5 (wrap64 (a0_0 + 1)) l0_1 a0_2 y272 5000).bind fun bt275 => (if t261 = 1 then (pentaglotlaw28_SatIrrelevant.j1 kj5 a2 t257 t260 t261 bt275.1 bt275.2.1 bt275.2.2 true) else (pentaglotlaw28_SatIrrelevant.j1 kj5 a2 t257 t260 t261 bt275.1 bt275.2.1 bt275.2.2 (t261 == 7)))) = some r := by first | (rw [hy272]; with_reducible exact H) | (have H2_ := (Option.bind_some _ _).symm.trans H; rw [hy272]; with_reducible exact H2_) | (have H2_ := (Option.bind_some _ _).symm.trans H; with_reducible exact H2_) | with_reducible exact H | (rw [hy272]; exact H) | exact H
              have Ny272 := Aside0.mk hy272
              clear hy272
              replace H := Option.bind_eq_some_iff.mp H
              obtain ⟨⟨t275, t278, t279⟩, A360, H⟩ := H
              replace H : (if t261 = 1 then (pentaglotlaw28_SatIrrelevant.j1 kj5 a2 t257 t260 t261 t275 t278 t279 true) else (pentaglotlaw28_SatIrrelevant.j1 kj5 a2 t257 t260 t261 t275 t278 t279 (t261 == 7))) = some r := H
              have A36 := Aside0.mk A360
              clear A360
              have HC37 := Aside0.mk H
              clear H
              have hcz38_0 : wc.cell? ⟨gb254, 0, none⟩ = some (.int .i64 a0_0) := (blk_cell BK254.out 0).trans rfl
              have hcz38_1 : wc.cell? ⟨gb254, 1, none⟩ = some (.slice A0_1 l0_1.length c0_1) := (blk_cell BK254.out 1).trans rfl
              have hcz38_2 : wc.cell? ⟨gb254, 2, none⟩ = some (.int .i64 a0_2) := (blk_cell BK254.out 2).trans rfl
              have hfz38_0 := blk_frozen BK254.out 0
              have hfz38_1 := blk_frozen BK254.out 1
              have hfz38_2 := blk_frozen BK254.out 2
              try go_wp2_with (first | ((with_reducible refine gate_callee (f := 22) rfl ?_); refine goesL_ (some 44) rfl rfl Try.func22 (by kernel_rfl) rfl #[.agg #[.int .i64 a0_0, .slice A0_1 l0_1.length c0_1, .int .i64 a0_2], .slice A1 l1.length c1, .int .i64 5000] rfl (by (try simp only [List.map_toArray, List.map_cons, List.map_nil]); first | done | rfl | (simp only [List.length_drop, List.length_take]; rfl)) ?_; (with_reducible refine (sat_Least.calls kj5 a0_0 _ _ l0_1 a0_2 _ _ l1 5000 t257 t260 t261 _ ?side1 ?side2 ?side3 ?side4 A33.out).mono ?_); (case side1 => repeat (first | exact (Kd.C_below HR0_1.out HB.out) | (with_reducible refine Kd.C_alloc ?_ _) | (with_reducible refine Kd.C_drewN ?_ _) | (with_reducible refine Kd.C_drew ?_))); (case side2 => exact HC0_1.out); (case side3 => repeat (first | exact (Kd.C_below HR1.out HB.out) | (with_reducible refine Kd.C_alloc ?_ _) | (with_reducible refine Kd.C_drewN ?_ _) | (with_reducible refine Kd.C_drew ?_))); (case side4 => exact HC1.out); rintro e w39 ⟨v258, rfl, ho0, hb⟩; refine ⟨_, rfl, ?_⟩; have n0_ := Aside0.mk (Kd.R_lower ho0 (below_size (by repeat (first | (with_reducible first | exact HB.out | apply below_alloc | apply pw_below_drewN | apply below_drew1 | refine below_set ?_ GE254.out) | exact HB.out)))); have n1_ := Aside0.mk (blk_below (g := gb254) (o := .cells #[.int .i64 a0_0, .slice A0_1 l0_1.length c0_1, .int .i64 a0_2] 24 (0, 0)) (by (with_reducible repeat (first | refine blk_drewN ?_ _ | refine blk_drew ?_ | refine blk_alloc ?_ _)); exact BK254.out) hb); have n2_ := Aside0.mk (below_step (by repeat (first | (with_reducible first | exact HB.out | apply below_alloc | apply pw_below_drewN | apply below_drew1 | refine below_set ?_ GE254.out) | exact HB.out)) hb); clear BK254; clear HB; have HO259 := n0_; have BK254 := n1_; have HB := n2_; clear n0_ n1_ n2_; (try clear hb); (try clear hb2); (try clear hk); (try clear hi); (try clear ho0); have hcz40_0 : w39.cell? ⟨gb254, 0, none⟩ = some (.int .i64 a0_0) := (blk_cell BK254.out 0).trans rfl; have hcz40_1 : w39.cell? ⟨gb254, 1, none⟩ = some (.slice A0_1 l0_1.length c0_1) := (blk_cell BK254.out 1).trans rfl; have hcz40_2 : w39.cell? ⟨gb254, 2, none⟩ = some (.int .i64 a0_2) := (blk_cell BK254.out 2).trans rfl; have hfz40_0 := blk_frozen BK254.out 0; have hfz40_1 := blk_frozen BK254.out 1; have hfz40_2 := blk_frozen BK254.out 2) | ((with_reducible refine gate_dst (N := 10) rfl ?_); (try (refine gate_guard (by rfl) ?_; dsimp only)); refine box_event ?hg (N := 10) ?hd (cs := #[.int .i64 0, .slice none 0 0, .int .i64 0]) (t := 24) ?hr ?_; (case hd => rfl); (case hg => rfl); (case hr => first | (go_simp; done) | (go_simp; rfl)); intro gb262 hg w41 hbox hb; have n0_ := Aside0.mk (Kd.R_below (by (with_reducible repeat (first | apply Kd.R_alloc | apply Kd.R_drewN | apply Kd.R_drew)); exact HO259.out) hb); have n1_ := Aside0.mk (blk_below (g := gb254) (o := .cells #[.int .i64 a0_0, .slice A0_1 l0_1.length c0_1, .int .i64 a0_2] 24 (0, 0)) (by (with_reducible repeat (first | refine blk_drewN ?_ _ | refine blk_drew ?_ | refine blk_alloc ?_ _)); exact BK254.out) hb); have n2_ := Aside0.mk (below_step (by repeat (first | (with_reducible first | exact HB.out | apply below_alloc | apply pw_below_drewN | apply below_drew1 | refine below_set ?_ GE254.out) | exact HB.out)) hb); have n3_ := Aside0.mk (hbox); have n4_ := Aside0.mk ((by rw [hg]; exact (below_size (by repeat (first | (with_reducible first | exact HB.out | apply below_alloc | apply pw_below_drewN | apply below_drew1 | refine below_set ?_ GE254.out) | exact HB.out))) : w.heap.size ≤ gb262)); have n5_ := Aside0.mk ((by rw [hg]; exact (below_size (by repeat (first | (with_reducible first | exact HB.out | apply below_alloc | apply pw_below_drewN | apply below_drew1 | refine below_set ?_ GE254.out) | exact HB.out))) : w.heap.size ≤ gb262)); have n6_ := Aside0.mk ((by rw [hg]; exact Nat.ne_of_lt (blk_lt (g := gb254) (o := .cells #[.int .i64 a0_0, .slice A0_1 l0_1.length c0_1, .int .i64 a0_2] 24 (0, 0)) (by (with_reducible repeat (first | refine blk_drewN ?_ _ | refine blk_drew ?_ | refine blk_alloc ?_ _)); exact BK254.out)) : gb254 ≠ gb262)); have n7_ := Aside0.mk ((by rw [hg]; exact Nat.ne_of_gt (blk_lt (g := gb254) (o := .cells #[.int .i64 a0_0, .slice A0_1 l0_1.length c0_1, .int .i64 a0_2] 24 (0, 0)) (by (with_reducible repeat (first | refine blk_drewN ?_ _ | refine blk_drew ?_ | refine blk_alloc ?_ _)); exact BK254.out)) : gb262 ≠ gb254)); clear HO259; clear BK254; clear HB; have HO259 := n0_; have BK254 := n1_; have HB := n2_; have BK262 := n3_; have GW262 := n4_; have GE262 := n5_; have NB254_262 := n6_; have NB262_254 := n7_; clear n0_ n1_ n2_ n3_ n4_ n5_ n6_ n7_; clear hb hbox hg; have hnb42 := NB262_254.out; have hnc42 := NB254_262.out; have hcz43_0 : w41.cell? ⟨gb262, 0, none⟩ = some (.int .i64 0) := (blk_cell BK262.out 0).trans rfl; have hcz43_1 : w41.cell? ⟨gb262, 1, none⟩ = some (.slice none 0 0) := (blk_cell BK262.out 1).trans rfl; have hcz43_2 : w41.cell? ⟨gb262, 2, none⟩ = some (.int .i64 0) := (blk_cell BK262.out 2).trans rfl; have hfz43_0 := blk_frozen BK262.out 0; have hfz43_1 := blk_frozen BK262.out 1; have hfz43_2 := blk_frozen BK262.out 2; have hcz44_0 : w41.cell? ⟨gb254, 0, none⟩ = some (.int .i64 a0_0) := (blk_cell BK254.out 0).trans rfl; have hcz44_1 : w41.cell? ⟨gb254, 1, none⟩ = some (.slice A0_1 l0_1.length c0_1) := (blk_cell BK254.out 1).trans rfl; have hcz44_2 : w41.cell? ⟨gb254, 2, none⟩ = some (.int .i64 a0_2) := (blk_cell BK254.out 2).trans rfl; have hfz44_0 := blk_frozen BK254.out 0; have hfz44_1 := blk_frozen BK254.out 1; have hfz44_2 := blk_frozen BK254.out 2))
              have n0_ : Aside0 (Kd.R Kd.bool 4 ((((w41.setCell ⟨gb262, 0, none⟩ (.int .i64 a0_0)).setCell ⟨gb262, 1, none⟩ (.slice A0_1 l0_1.length c0_1)).setCell ⟨gb262, 2, none⟩ (.int .i64 a0_2)).setCell ⟨gb262, 0, none⟩ (.int .i64 (wrap64 (a0_0 + 1)))) w.heap.size (fun _ => True) v258 t257) := ⟨by (with_reducible repeat (first | apply Kd.R_alloc | apply Kd.R_drewN | apply Kd.R_drew)); exact Kd.R_mono (Kd.R_far (p := ⟨gb262, 0, none⟩) (Kd.R_far (p := ⟨gb262, 2, none⟩) (Kd.R_far (p := ⟨gb262, 1, none⟩) (Kd.R_far (p := ⟨gb262, 0, none⟩) (Kd.R_types HO259.out BK262.out (by decide)) (fun _ hk => hk.2) (.int .i64 a0_0)) (fun _ hk => hk.2) (.slice A0_1 l0_1.length c0_1)) (fun _ hk => hk.2) (.int .i64 a0_2)) (fun _ hk => hk.2) (.int .i64 (wrap64 (a0_0 + 1)))) (fun _ hk => trivial)⟩
              have n1_ : Aside0 (((((w41.setCell ⟨gb262, 0, none⟩ (.int .i64 a0_0)).setCell ⟨gb262, 1, none⟩ (.slice A0_1 l0_1.length c0_1)).setCell ⟨gb262, 2, none⟩ (.int .i64 a0_2)).setCell ⟨gb262, 0, none⟩ (.int .i64 (wrap64 (a0_0 + 1)))).heap[gb254]? = some (.cells #[.int .i64 a0_0, .slice A0_1 l0_1.length c0_1, .int .i64 a0_2] 24 (0, 0))) := ⟨by (with_reducible repeat (first | refine blk_drewN ?_ _ | refine blk_drew ?_ | refine blk_alloc ?_ _)); refine blk_far ?_ NB254_262.out _; (with_reducible repeat (first | refine blk_drewN ?_ _ | refine blk_drew ?_ | refine blk_alloc ?_ _)); refine blk_far ?_ NB254_262.out _; (with_reducible repeat (first | refine blk_drewN ?_ _ | refine blk_drew ?_ | refine blk_alloc ?_ _)); refine blk_far ?_ NB254_262.out _; (with_reducible repeat (first | refine blk_drewN ?_ _ | refine blk_drew ?_ | refine blk_alloc ?_ _)); refine blk_far ?_ NB254_262.out _; (with_reducible repeat (first | refine blk_drewN ?_ _ | refine blk_drew ?_ | refine blk_alloc ?_ _)); exact BK254.out⟩
              have n2_ : Aside0 (((((w41.setCell ⟨gb262, 0, none⟩ (.int .i64 a0_0)).setCell ⟨gb262, 1, none⟩ (.slice A0_1 l0_1.length c0_1)).setCell ⟨gb262, 2, none⟩ (.int .i64 a0_2)).setCell ⟨gb262, 0, none⟩ (.int .i64 (wrap64 (a0_0 + 1)))).heap[gb262]? = some (.cells #[.int .i64 (wrap64 (a0_0 + 1)), .slice A0_1 l0_1.length c0_1, .int .i64 a0_2] 24 (0, 0))) := ⟨by (with_reducible repeat (first | refine blk_drewN ?_ _ | refine blk_drew ?_ | refine blk_alloc ?_ _)); refine blk_put (cs := #[.int .i64 a0_0, .slice A0_1 l0_1.length c0_1, .int .i64 a0_2]) ?_ 0 _ rfl; (with_reducible repeat (first | refine blk_drewN ?_ _ | refine blk_drew ?_ | refine blk_alloc ?_ _)); refine blk_put (cs := #[.int .i64 a0_0, .slice A0_1 l0_1.length c0_1, .int .i64 0]) ?_ 2 _ rfl; (with_reducible repeat (first | refine blk_drewN ?_ _ | refine blk_drew ?_ | refine blk_alloc ?_ _)); refine blk_put (cs := #[.int .i64 a0_0, .slice none 0 0, .int .i64 0]) ?_ 1 _ rfl; (with_reducible repeat (first | refine blk_drewN ?_ _ | refine blk_drew ?_ | refine blk_alloc ?_ _)); refine blk_put (cs := #[.int .i64 0, .slice none 0 0, .int .i64 0]) ?_ 0 _ rfl; (with_reducible repeat (first | refine blk_drewN ?_ _ | refine blk_drew ?_ | refine blk_alloc ?_ _)); exact BK262.out⟩
              have n3_ : Aside0 (Below w.heap.size w ((((w41.setCell ⟨gb262, 0, none⟩ (.int .i64 a0_0)).setCell ⟨gb262, 1, none⟩ (.slice A0_1 l0_1.length c0_1)).setCell ⟨gb262, 2, none⟩ (.int .i64 a0_2)).setCell ⟨gb262, 0, none⟩ (.int .i64 (wrap64 (a0_0 + 1))))) := ⟨by repeat (first | (with_reducible first | exact HB.out | apply below_alloc | apply pw_below_drewN | apply below_drew1 | refine below_set ?_ GE254.out | refine below_set ?_ GE262.out) | exact HB.out)⟩
              (try clear HO259)
              (try clear BK254)
              (try clear BK262)
              (try clear HB)
              generalize ((((w41.setCell ⟨gb262, 0, none⟩ (.int .i64 a0_0)).setCell ⟨gb262, 1, none⟩ (.slice A0_1 l0_1.length c0_1)).setCell ⟨gb262, 2, none⟩ (.int .i64 a0_2)).setCell ⟨gb262, 0, none⟩ (.int .i64 (wrap64 (a0_0 + 1)))) = w45 at n0_ n1_ n2_ n3_ ⊢
              have HO259 := n0_
              have BK254 := n1_
              have BK262 := n2_
              have HB := n3_
              clear n0_ n1_ n2_ n3_
              have n0_ := Aside0.mk (Kd.R_drew HO259.out)
              have n1_ := Aside0.mk (blk_drew BK254.out)
              have n2_ := Aside0.mk (blk_drew BK262.out)
              have n3_ := Aside0.mk (below_drew1 HB.out)
              clear HO259
              clear BK254
              clear BK262
              clear HB
              have HO259 := n0_
              have BK254 := n1_
              have BK262 := n2_
              have HB := n3_
              clear n0_ n1_ n2_ n3_
              refine start_ (n := 15) (S := fun w' => w'.cell? ⟨gb262, 0, none⟩ = some (.int .i64 (wrap64 (a0_0 + 1))) ∧ w'.cell? ⟨gb262, 1, none⟩ = some (.slice A0_1 l0_1.length c0_1) ∧ w'.cell? ⟨gb262, 2, none⟩ = some (.int .i64 a0_2)) (ds := []) #[false, false, false, false, false, false, false, false, false, false, false, false, false, false, false] (by kernel_rfl) rfl rfl ⟨(blk_cell BK262.out 0).trans rfl, (blk_cell BK262.out 1).trans rfl, (blk_cell BK262.out 2).trans rfl⟩ (fun hHeld => ?_); refine with_tabW pentaglotlaw28_SatIrrelevant.tab8 pentaglotlaw28_SatIrrelevant.bits8 (fun HT_ HW_ => ?_)
              generalize w45.drew = w46 at HO259 BK254 BK262 HB hHeld ⊢
              refine pure_ (i := 2) (N := some 56) (v := ?_) (a' := ?_) #[false, false, true, false, false, false, false, false, false, false, false, false, false, false, false] rfl rfl (any_of HT_.out (by kernel_rfl)) (fun _ _ _ h => h) (Or.inl ⟨by rfl, ?_⟩) ?_ ?_
              rotate_left
              · intro w'
                go_simp
                with_reducible rfl
              rotate_left
              · simp only [Act.put, List.setIfInBounds_toArray, List.set_cons_zero, List.set_cons_succ, i64_w, i32_w]
                rfl
              refine pure_ (i := 4) (N := some 58) (v := ?_) (a' := ?_) #[false, false, true, false, true, false, false, false, false, false, false, false, false, false, false] rfl rfl (any_of HT_.out (by kernel_rfl)) (fun _ _ _ h => h) (Or.inl ⟨by rfl, ?_⟩) ?_ ?_
              rotate_left
              · intro w'
                go_simp
                with_reducible rfl
              rotate_left
              · simp only [Act.put, List.setIfInBounds_toArray, List.set_cons_zero, List.set_cons_succ, i64_w, i32_w]
                rfl
              refine take_ (i := 0) (N := some 54) (v := ?_) (a' := ?_) #[true, false, true, false, true, false, false, false, false, false, false, false, false, false, false] rfl rfl (take_ofW HT_.out HW_.out (by kernel_rfl)) (fun _ _ _ h => h) (Or.inl ⟨by rfl, ?_⟩) hHeld ?_ ?_
              rotate_left
              · rintro w' ⟨s0, s1, s2⟩
                go_simp
                with_reducible rfl
              rotate_left
              · simp only [Act.put, List.setIfInBounds_toArray, List.set_cons_zero, List.set_cons_succ, i64_w, i32_w]
                rfl
              refine join_ (σ := Value × Value × Value) 9 #[true, true, true, true, true, true, false, false, false, false, false, false, false, false, false] (fun s_ => [(55, s_.1), (57, s_.2.1), (59, s_.2.2)]) (fun s_ w' => (w'.cell? ⟨gb262, 0, none⟩ = some (.int .i64 (wrap64 (a0_0 + 1))) ∧ w'.cell? ⟨gb262, 1, none⟩ = some (.slice A0_1 l0_1.length c0_1) ∧ w'.cell? ⟨gb262, 2, none⟩ = some (.int .i64 a0_2)) ∧ (Kd.R Kd.bool 4 w' w.heap.size (fun _ => True) v258 t257) ∧ (Kd.R (Kd.int .i64) 3 w' w.heap.size (fun k_ => some k_ ≠ (s_.2.2 : Value).ownBlock) s_.2.1 y266) ∧ (Kd.R (Kd.int .i64) 3 w' w.heap.size (fun k_ => some k_ ≠ (s_.2.1 : Value).ownBlock) s_.2.2 y269) ∧ (w'.heap[gb254]? = some (.cells #[.int .i64 a0_0, .slice A0_1 l0_1.length c0_1, .int .i64 a0_2] 24 (0, 0))) ∧ (w'.heap[gb262]? = some (.cells #[.int .i64 (wrap64 (a0_0 + 1)), .slice A0_1 l0_1.length c0_1, .int .i64 a0_2] 24 (0, 0))) ∧ (Below w.heap.size w w')) ?_ ?_
              rotate_left
              · intro hCont
                refine two_ (i := 1) (j := 5) (Ni := some 55) (Nj := some 59) #[true, true, true, false, true, false, false, false, false, false, false, false, false, false, false] #[true, false, true, false, true, true, false, false, false, false, false, false, false, false, false] rfl rfl rfl rfl (two_of HT_.out (by kernel_rfl)) (by decide) (by decide) (fun K hK => ?_) (fun K hK => ?_)
                · skip
                  refine Kd.R_lit_step (Kd.int .i64) _ 3 ?hg (N := 55) ?hd (xs := ([] : List Int)) (inner := []) (ok := fun _ => True) (okp := fun _ => True) ?hr ?hp (fun _ hk => hk) trivial (Below.refl _ _) (Nat.le_refl _) (by simp) ?_; (case hd => rfl); (case hg => rfl); (case hr => first | (go_simp; done) | (go_simp; rfl)); (case hp => exact (Reps.none _ _))
                  intro v264 w47 ho48 hb hg_ hnew_
                  clear hg_ hnew_
                  (first | rw [← Ny263.out] at ho48 | (simp only [Int.reduceToNat] at ho48; rw [← Ny263.out] at ho48))
                  have n0_ := Aside0.mk (Kd.R_below (by (with_reducible repeat (first | apply Kd.R_alloc | apply Kd.R_drewN | apply Kd.R_drew)); exact HO259.out) hb)
                  have n1_ := Aside0.mk (Kd.R_lower ho48 (below_size (by repeat (first | (with_reducible first | exact HB.out | apply below_alloc | apply pw_below_drewN | apply below_drew1 | refine below_set ?_ GE254.out | refine below_set ?_ GE262.out) | exact HB.out))))
                  have n2_ := Aside0.mk (blk_below (g := gb254) (o := .cells #[.int .i64 a0_0, .slice A0_1 l0_1.length c0_1, .int .i64 a0_2] 24 (0, 0)) (by (with_reducible repeat (first | refine blk_drewN ?_ _ | refine blk_drew ?_ | refine blk_alloc ?_ _)); exact BK254.out) hb)
                  have n3_ := Aside0.mk (blk_below (g := gb262) (o := .cells #[.int .i64 (wrap64 (a0_0 + 1)), .slice A0_1 l0_1.length c0_1, .int .i64 a0_2] 24 (0, 0)) (by (with_reducible repeat (first | refine blk_drewN ?_ _ | refine blk_drew ?_ | refine blk_alloc ?_ _)); exact BK262.out) hb)
                  have n4_ := Aside0.mk (below_step (by repeat (first | (with_reducible first | exact HB.out | apply below_alloc | apply pw_below_drewN | apply below_drew1 | refine below_set ?_ GE254.out | refine below_set ?_ GE262.out) | exact HB.out)) hb)
                  clear HO259
                  clear BK254
                  clear BK262
                  clear HB
                  have HO259 := n0_
                  have HO265 := n1_
                  have BK254 := n2_
                  have BK262 := n3_
                  have HB := n4_
                  clear n0_ n1_ n2_ n3_ n4_
                  clear hb ho48
                  refine hK.out _ _ ⟨(blk_cell BK262.out 0).trans rfl, (blk_cell BK262.out 1).trans rfl, (blk_cell BK262.out 2).trans rfl⟩ (fun hHeld => ?_)
                  clear hK K
                  refine norm_ (a' := ?_) ?_ ?_
                  rotate_left
                  · show Act.put _ (some 55) _ = _
                    simp only [Act.put, List.setIfInBounds_toArray, List.set_cons_zero, List.set_cons_succ, i64_w, i32_w]
                    rfl
                  refine two_ (i := 3) (j := 5) (Ni := some 57) (Nj := some 59) #[true, true, true, true, true, false, false, false, false, false, false, false, false, false, false] #[true, true, true, false, true, true, false, false, false, false, false, false, false, false, false] rfl rfl rfl rfl (two_of HT_.out (by kernel_rfl)) (by decide) (by decide) (fun K hK => ?_) (fun K hK => ?_)
                  · skip
                    refine Kd.R_append_rows_step (Kd.int .i64) (w0 := w) w.heap.size (by rfl) (.tmp 55) (.tmp 56) 33 3 (.int .i64 0) 8 rfl Try.underlying33 info3 rfl (by decide) (by omega) v264 y263 l1 _ _ _ (fun _ => True) (fun _ => False) rfl rfl ?aO ?aR (fun _ _ h => h) (fun _ h => h.elim) ?aF ?aB ?aS ?aL ?_
                    (case aR => repeat (first | exact (Kd.C_below HR1.out HB.out) | (with_reducible refine Kd.C_alloc ?_ _) | (with_reducible refine Kd.C_drewN ?_ _) | (with_reducible refine Kd.C_drew ?_)))
                    (case aB => exact (by repeat (first | (with_reducible first | exact HB.out | apply below_alloc | apply pw_below_drewN | apply below_drew1 | refine below_set ?_ GE254.out | refine below_set ?_ GE262.out) | exact HB.out)))
                    (case aF => exact (fun _ _ => trivial))
                    (case aO => exact (by (with_reducible repeat (first | apply Kd.R_alloc | apply Kd.R_drewN | apply Kd.R_drew)); exact HO265.out))
                    (case aS => exact (below_size (by repeat (first | (with_reducible first | exact HB.out | apply below_alloc | apply pw_below_drewN | apply below_drew1 | refine below_set ?_ GE254.out | refine below_set ?_ GE262.out) | exact HB.out))))
                    (case aL => have := LMc34.out; omega)
                    intro v267 w49 ho hb hg hat
                    rw [← Ny266.out] at ho
                    have n0_ := Aside0.mk (blk_grown (g := gb254) (o := .cells #[.int .i64 a0_0, .slice A0_1 l0_1.length c0_1, .int .i64 a0_2] 24 (0, 0)) (by (with_reducible repeat (first | refine blk_drewN ?_ _ | refine blk_drew ?_ | refine blk_alloc ?_ _)); exact BK254.out) hg (Kd.R_ne HO265.out BK254.out (by decide)))
                    have n1_ := Aside0.mk (Kd.R_over' (by (with_reducible repeat (first | apply Kd.R_alloc | apply Kd.R_drewN | apply Kd.R_drew)); exact HO259.out) (Kd.R_typed (by (with_reducible repeat (first | apply Kd.R_alloc | apply Kd.R_drewN | apply Kd.R_drew)); exact HO265.out)) (by decide) hg)
                    have n2_ := Aside0.mk (blk_grown (g := gb262) (o := .cells #[.int .i64 (wrap64 (a0_0 + 1)), .slice A0_1 l0_1.length c0_1, .int .i64 a0_2] 24 (0, 0)) (by (with_reducible repeat (first | refine blk_drewN ?_ _ | refine blk_drew ?_ | refine blk_alloc ?_ _)); exact BK262.out) hg (Kd.R_ne HO265.out BK262.out (by decide)))
                    have n3_ := Aside0.mk (hb)
                    have n4_ := Aside0.mk (ho)
                    clear BK254
                    clear HO259
                    clear BK262
                    clear HB
                    clear HO265
                    have BK254 := n0_
                    have HO259 := n1_
                    have BK262 := n2_
                    have HB := n3_
                    have HO268 := n4_
                    clear n0_ n1_ n2_ n3_ n4_
                    clear ho hb hg hat
                    refine hK.out _ _ ⟨(blk_cell BK262.out 0).trans rfl, (blk_cell BK262.out 1).trans rfl, (blk_cell BK262.out 2).trans rfl⟩ (fun hHeld => ?_)
                    clear hK K
                    refine norm_ (a' := ?_) ?_ ?_
                    rotate_left
                    · show Act.put _ (some 57) _ = _
                      simp only [Act.put, List.setIfInBounds_toArray, List.set_cons_zero, List.set_cons_succ, i64_w, i32_w]
                      rfl
                    refine one_ (i := 5) (N := some 59) #[true, true, true, true, true, true, false, false, false, false, false, false, false, false, false] rfl rfl (one_of HT_.out (by kernel_rfl)) (by decide) (fun K hK => ?_)
                    refine Kd.R_lit_step (Kd.int .i64) _ 3 ?hg (N := 59) ?hd (xs := ([a2] : List Int)) (inner := [.int .i64 a2]) (ok := fun _ => True) (okp := fun _ => True) ?hr ?hp (fun _ hk => hk) trivial (Below.refl _ _) (Nat.le_refl _) (by simp) ?_; (case hd => rfl); (case hg => rfl); (case hr => first | (go_simp; done) | (go_simp; rfl)); (case hp => exact (Reps.one (show Kd.M (Kd.int .i64) _ _ _ a2 [.int .i64 a2] from rfl) (Reps.none _ _)))
                    intro v270 w50 ho51 hb hg_ hnew_
                    clear hg_ hnew_
                    (first | rw [← Ny269.out] at ho51 | (simp only [Int.reduceToNat] at ho51; rw [← Ny269.out] at ho51))
                    have n0_ := Aside0.mk (Kd.R_below (by (with_reducible repeat (first | apply Kd.R_alloc | apply Kd.R_drewN | apply Kd.R_drew)); exact HO259.out) hb)
                    have n1_ := Aside0.mk (Kd.R_elder' (by (with_reducible repeat (first | apply Kd.R_alloc | apply Kd.R_drewN | apply Kd.R_drew)); exact HO268.out) (Kd.R_base ho51) hb)
                    have n2_ := Aside0.mk (Kd.R_lower (Kd.R_new' ho51 (Kd.R_lt (by (with_reducible repeat (first | apply Kd.R_alloc | apply Kd.R_drewN | apply Kd.R_drew)); exact HO268.out))) (below_size (by repeat (first | (with_reducible first | exact HB.out | apply below_alloc | apply pw_below_drewN | apply below_drew1 | refine below_set ?_ GE254.out | refine below_set ?_ GE262.out) | exact HB.out))))
                    have n3_ := Aside0.mk (blk_below (g := gb254) (o := .cells #[.int .i64 a0_0, .slice A0_1 l0_1.length c0_1, .int .i64 a0_2] 24 (0, 0)) (by (with_reducible repeat (first | refine blk_drewN ?_ _ | refine blk_drew ?_ | refine blk_alloc ?_ _)); exact BK254.out) hb)
                    have n4_ := Aside0.mk (blk_below (g := gb262) (o := .cells #[.int .i64 (wrap64 (a0_0 + 1)), .slice A0_1 l0_1.length c0_1, .int .i64 a0_2] 24 (0, 0)) (by (with_reducible repeat (first | refine blk_drewN ?_ _ | refine blk_drew ?_ | refine blk_alloc ?_ _)); exact BK262.out) hb)
                    have n5_ := Aside0.mk (below_step (by repeat (first | (with_reducible first | exact HB.out | apply below_alloc | apply pw_below_drewN | apply below_drew1 | refine below_set ?_ GE254.out | refine below_set ?_ GE262.out) | exact HB.out)) hb)
                    clear HO259
                    clear HO268
                    clear BK254
                    clear BK262
                    clear HB
                    have HO259 := n0_
                    have HO268 := n1_
                    have HO271 := n2_
                    have BK254 := n3_
                    have BK262 := n4_
                    have HB := n5_
                    clear n0_ n1_ n2_ n3_ n4_ n5_
                    clear hb ho51
                    refine hK.out _ _ ⟨(blk_cell BK262.out 0).trans rfl, (blk_cell BK262.out 1).trans rfl, (blk_cell BK262.out 2).trans rfl⟩ (fun hHeld => ?_)
                    clear hK K
                    refine norm_ (a' := ?_) ?_ ?_
                    rotate_left
                    · show Act.put _ (some 59) _ = _
                      simp only [Act.put, List.setIfInBounds_toArray, List.set_cons_zero, List.set_cons_succ, i64_w, i32_w]
                      rfl
                    exact norm_ (by simp only [putAll, Act.put, List.setIfInBounds_toArray, List.set_cons_zero, List.set_cons_succ]) (hCont (v264, v267, v270) _ ⟨hHeld, (by (with_reducible repeat (first | apply Kd.R_alloc | apply Kd.R_drewN | apply Kd.R_drew)); exact HO259.out), (by (with_reducible repeat (first | apply Kd.R_alloc | apply Kd.R_drewN | apply Kd.R_drew)); exact Kd.R_mono HO268.out (fun _ hk => hk.2)), (by (with_reducible repeat (first | apply Kd.R_alloc | apply Kd.R_drewN | apply Kd.R_drew)); exact Kd.R_mono HO271.out (fun _ hk => hk.2)), (by (with_reducible repeat (first | refine blk_drewN ?_ _ | refine blk_drew ?_ | refine blk_alloc ?_ _)); exact BK254.out), (by (with_reducible repeat (first | refine blk_drewN ?_ _ | refine blk_drew ?_ | refine blk_alloc ?_ _)); exact BK262.out), (by repeat (first | (with_reducible first | exact HB.out | apply below_alloc | apply pw_below_drewN | apply below_drew1 | refine below_set ?_ GE254.out | refine below_set ?_ GE262.out) | exact HB.out))⟩)
                  · skip
                    refine Kd.R_lit_step (Kd.int .i64) _ 3 ?hg (N := 59) ?hd (xs := ([a2] : List Int)) (inner := [.int .i64 a2]) (ok := fun _ => True) (okp := fun _ => True) ?hr ?hp (fun _ hk => hk) trivial (Below.refl _ _) (Nat.le_refl _) (by simp) ?_; (case hd => rfl); (case hg => rfl); (case hr => first | (go_simp; done) | (go_simp; rfl)); (case hp => exact (Reps.one (show Kd.M (Kd.int .i64) _ _ _ a2 [.int .i64 a2] from rfl) (Reps.none _ _)))
                    intro v270 w49 ho50 hb hg_ hnew_
                    clear hg_ hnew_
                    (first | rw [← Ny269.out] at ho50 | (simp only [Int.reduceToNat] at ho50; rw [← Ny269.out] at ho50))
                    have n0_ := Aside0.mk (Kd.R_below (by (with_reducible repeat (first | apply Kd.R_alloc | apply Kd.R_drewN | apply Kd.R_drew)); exact HO259.out) hb)
                    have n1_ := Aside0.mk (Kd.R_elder' (by (with_reducible repeat (first | apply Kd.R_alloc | apply Kd.R_drewN | apply Kd.R_drew)); exact HO265.out) (Kd.R_base ho50) hb)
                    have n2_ := Aside0.mk (Kd.R_lower (Kd.R_new' ho50 (Kd.R_lt (by (with_reducible repeat (first | apply Kd.R_alloc | apply Kd.R_drewN | apply Kd.R_drew)); exact HO265.out))) (below_size (by repeat (first | (with_reducible first | exact HB.out | apply below_alloc | apply pw_below_drewN | apply below_drew1 | refine below_set ?_ GE254.out | refine below_set ?_ GE262.out) | exact HB.out))))
                    have n3_ := Aside0.mk (blk_below (g := gb254) (o := .cells #[.int .i64 a0_0, .slice A0_1 l0_1.length c0_1, .int .i64 a0_2] 24 (0, 0)) (by (with_reducible repeat (first | refine blk_drewN ?_ _ | refine blk_drew ?_ | refine blk_alloc ?_ _)); exact BK254.out) hb)
                    have n4_ := Aside0.mk (blk_below (g := gb262) (o := .cells #[.int .i64 (wrap64 (a0_0 + 1)), .slice A0_1 l0_1.length c0_1, .int .i64 a0_2] 24 (0, 0)) (by (with_reducible repeat (first | refine blk_drewN ?_ _ | refine blk_drew ?_ | refine blk_alloc ?_ _)); exact BK262.out) hb)
                    have n5_ := Aside0.mk (below_step (by repeat (first | (with_reducible first | exact HB.out | apply below_alloc | apply pw_below_drewN | apply below_drew1 | refine below_set ?_ GE254.out | refine below_set ?_ GE262.out) | exact HB.out)) hb)
                    clear HO259
                    clear HO265
                    clear BK254
                    clear BK262
                    clear HB
                    have HO259 := n0_
                    have HO265 := n1_
                    have HO271 := n2_
                    have BK254 := n3_
                    have BK262 := n4_
                    have HB := n5_
                    clear n0_ n1_ n2_ n3_ n4_ n5_
                    clear hb ho50
                    refine hK.out _ _ ⟨(blk_cell BK262.out 0).trans rfl, (blk_cell BK262.out 1).trans rfl, (blk_cell BK262.out 2).trans rfl⟩ (fun hHeld => ?_)
                    clear hK K
                    refine norm_ (a' := ?_) ?_ ?_
                    rotate_left
                    · show Act.put _ (some 59) _ = _
                      simp only [Act.put, List.setIfInBounds_toArray, List.set_cons_zero, List.set_cons_succ, i64_w, i32_w]
                      rfl
                    refine one_ (i := 3) (N := some 57) #[true, true, true, true, true, true, false, false, false, false, false, false, false, false, false] rfl rfl (one_of HT_.out (by kernel_rfl)) (by decide) (fun K hK => ?_)
                    refine Kd.R_append_rows_step (Kd.int .i64) (w0 := w) w.heap.size (by rfl) (.tmp 55) (.tmp 56) 33 3 (.int .i64 0) 8 rfl Try.underlying33 info3 rfl (by decide) (by omega) v264 y263 l1 _ _ _ (fun k_ => some k_ ≠ (v270 : Value).ownBlock) (fun _ => False) rfl rfl ?aO ?aR (fun _ _ h => h) (fun _ h => h.elim) ?aF ?aB ?aS ?aL ?_
                    (case aR => repeat (first | exact (Kd.C_below HR1.out HB.out) | (with_reducible refine Kd.C_alloc ?_ _) | (with_reducible refine Kd.C_drewN ?_ _) | (with_reducible refine Kd.C_drew ?_)))
                    (case aB => exact (by repeat (first | (with_reducible first | exact HB.out | apply below_alloc | apply pw_below_drewN | apply below_drew1 | refine below_set ?_ GE254.out | refine below_set ?_ GE262.out) | exact HB.out)))
                    (case aF => exact (fun k_ hk => Kd.fresh' (Kd.R_lt (by (with_reducible repeat (first | apply Kd.R_alloc | apply Kd.R_drewN | apply Kd.R_drew)); exact HO271.out)) k_ hk))
                    (case aO => exact (by (with_reducible repeat (first | apply Kd.R_alloc | apply Kd.R_drewN | apply Kd.R_drew)); exact Kd.R_mono HO265.out (fun _ hk => hk.2)))
                    (case aS => exact (below_size (by repeat (first | (with_reducible first | exact HB.out | apply below_alloc | apply pw_below_drewN | apply below_drew1 | refine below_set ?_ GE254.out | refine below_set ?_ GE262.out) | exact HB.out))))
                    (case aL => have := LMc34.out; omega)
                    intro v267 w51 ho hb hg hat
                    rw [← Ny266.out] at ho
                    have n0_ := Aside0.mk (blk_grown (g := gb254) (o := .cells #[.int .i64 a0_0, .slice A0_1 l0_1.length c0_1, .int .i64 a0_2] 24 (0, 0)) (by (with_reducible repeat (first | refine blk_drewN ?_ _ | refine blk_drew ?_ | refine blk_alloc ?_ _)); exact BK254.out) hg (Kd.R_ne HO265.out BK254.out (by decide)))
                    have n1_ := Aside0.mk (Kd.R_over' (by (with_reducible repeat (first | apply Kd.R_alloc | apply Kd.R_drewN | apply Kd.R_drew)); exact HO259.out) (Kd.R_typed (by (with_reducible repeat (first | apply Kd.R_alloc | apply Kd.R_drewN | apply Kd.R_drew)); exact HO265.out)) (by decide) hg)
                    have n2_ := Aside0.mk (blk_grown (g := gb262) (o := .cells #[.int .i64 (wrap64 (a0_0 + 1)), .slice A0_1 l0_1.length c0_1, .int .i64 a0_2] 24 (0, 0)) (by (with_reducible repeat (first | refine blk_drewN ?_ _ | refine blk_drew ?_ | refine blk_alloc ?_ _)); exact BK262.out) hg (Kd.R_ne HO265.out BK262.out (by decide)))
                    have n3_ := Aside0.mk (Kd.R_after (ok := (fun _ => True)) (by (with_reducible repeat (first | apply Kd.R_alloc | apply Kd.R_drewN | apply Kd.R_drew)); exact HO271.out) hg hat)
                    have n4_ := Aside0.mk (hb)
                    have n5_ := Aside0.mk (ho)
                    clear BK254
                    clear HO259
                    clear BK262
                    clear HO271
                    clear HB
                    clear HO265
                    have BK254 := n0_
                    have HO259 := n1_
                    have BK262 := n2_
                    have HO271 := n3_
                    have HB := n4_
                    have HO268 := n5_
                    clear n0_ n1_ n2_ n3_ n4_ n5_
                    clear ho hb hg hat
                    refine hK.out _ _ ⟨(blk_cell BK262.out 0).trans rfl, (blk_cell BK262.out 1).trans rfl, (blk_cell BK262.out 2).trans rfl⟩ (fun hHeld => ?_)
                    clear hK K
                    refine norm_ (a' := ?_) ?_ ?_
                    rotate_left
                    · show Act.put _ (some 57) _ = _
                      simp only [Act.put, List.setIfInBounds_toArray, List.set_cons_zero, List.set_cons_succ, i64_w, i32_w]
                      rfl
                    exact norm_ (by simp only [putAll, Act.put, List.setIfInBounds_toArray, List.set_cons_zero, List.set_cons_succ]) (hCont (v264, v267, v270) _ ⟨hHeld, (by (with_reducible repeat (first | apply Kd.R_alloc | apply Kd.R_drewN | apply Kd.R_drew)); exact HO259.out), (by (with_reducible repeat (first | apply Kd.R_alloc | apply Kd.R_drewN | apply Kd.R_drew)); exact HO268.out), (by (with_reducible repeat (first | apply Kd.R_alloc | apply Kd.R_drewN | apply Kd.R_drew)); exact Kd.R_mono HO271.out (fun _ hk => hk.2)), (by (with_reducible repeat (first | refine blk_drewN ?_ _ | refine blk_drew ?_ | refine blk_alloc ?_ _)); exact BK254.out), (by (with_reducible repeat (first | refine blk_drewN ?_ _ | refine blk_drew ?_ | refine blk_alloc ?_ _)); exact BK262.out), (by repeat (first | (with_reducible first | exact HB.out | apply below_alloc | apply pw_below_drewN | apply below_drew1 | refine below_set ?_ GE254.out | refine below_set ?_ GE262.out) | exact HB.out))⟩)
                · skip
                  refine Kd.R_lit_step (Kd.int .i64) _ 3 ?hg (N := 59) ?hd (xs := ([a2] : List Int)) (inner := [.int .i64 a2]) (ok := fun _ => True) (okp := fun _ => True) ?hr ?hp (fun _ hk => hk) trivial (Below.refl _ _) (Nat.le_refl _) (by simp) ?_; (case hd => rfl); (case hg => rfl); (case hr => first | (go_simp; done) | (go_simp; rfl)); (case hp => exact (Reps.one (show Kd.M (Kd.int .i64) _ _ _ a2 [.int .i64 a2] from rfl) (Reps.none _ _)))
                  intro v270 w47 ho48 hb hg_ hnew_
                  clear hg_ hnew_
                  (first | rw [← Ny269.out] at ho48 | (simp only [Int.reduceToNat] at ho48; rw [← Ny269.out] at ho48))
                  have n0_ := Aside0.mk (Kd.R_below (by (with_reducible repeat (first | apply Kd.R_alloc | apply Kd.R_drewN | apply Kd.R_drew)); exact HO259.out) hb)
                  have n1_ := Aside0.mk (Kd.R_lower ho48 (below_size (by repeat (first | (with_reducible first | exact HB.out | apply below_alloc | apply pw_below_drewN | apply below_drew1 | refine below_set ?_ GE254.out | refine below_set ?_ GE262.out) | exact HB.out))))
                  have n2_ := Aside0.mk (blk_below (g := gb254) (o := .cells #[.int .i64 a0_0, .slice A0_1 l0_1.length c0_1, .int .i64 a0_2] 24 (0, 0)) (by (with_reducible repeat (first | refine blk_drewN ?_ _ | refine blk_drew ?_ | refine blk_alloc ?_ _)); exact BK254.out) hb)
                  have n3_ := Aside0.mk (blk_below (g := gb262) (o := .cells #[.int .i64 (wrap64 (a0_0 + 1)), .slice A0_1 l0_1.length c0_1, .int .i64 a0_2] 24 (0, 0)) (by (with_reducible repeat (first | refine blk_drewN ?_ _ | refine blk_drew ?_ | refine blk_alloc ?_ _)); exact BK262.out) hb)
                  have n4_ := Aside0.mk (below_step (by repeat (first | (with_reducible first | exact HB.out | apply below_alloc | apply pw_below_drewN | apply below_drew1 | refine below_set ?_ GE254.out | refine below_set ?_ GE262.out) | exact HB.out)) hb)
                  clear HO259
                  clear BK254
                  clear BK262
                  clear HB
                  have HO259 := n0_
                  have HO271 := n1_
                  have BK254 := n2_
                  have BK262 := n3_
                  have HB := n4_
                  clear n0_ n1_ n2_ n3_ n4_
                  clear hb ho48
                  refine hK.out _ _ ⟨(blk_cell BK262.out 0).trans rfl, (blk_cell BK262.out 1).trans rfl, (blk_cell BK262.out 2).trans rfl⟩ (fun hHeld => ?_)
                  clear hK K
                  refine norm_ (a' := ?_) ?_ ?_
                  rotate_left
                  · show Act.put _ (some 59) _ = _
                    simp only [Act.put, List.setIfInBounds_toArray, List.set_cons_zero, List.set_cons_succ, i64_w, i32_w]
                    rfl
                  refine one_ (i := 1) (N := some 55) #[true, true, true, false, true, true, false, false, false, false, false, false, false, false, false] rfl rfl (one_of HT_.out (by kernel_rfl)) (by decide) (fun K hK => ?_)
                  refine Kd.R_lit_step (Kd.int .i64) _ 3 ?hg (N := 55) ?hd (xs := ([] : List Int)) (inner := []) (ok := fun _ => True) (okp := fun _ => True) ?hr ?hp (fun _ hk => hk) trivial (Below.refl _ _) (Nat.le_refl _) (by simp) ?_; (case hd => rfl); (case hg => rfl); (case hr => first | (go_simp; done) | (go_simp; rfl)); (case hp => exact (Reps.none _ _))
                  intro v264 w49 ho50 hb hg_ hnew_
                  clear hg_ hnew_
                  (first | rw [← Ny263.out] at ho50 | (simp only [Int.reduceToNat] at ho50; rw [← Ny263.out] at ho50))
                  have n0_ := Aside0.mk (Kd.R_below (by (with_reducible repeat (first | apply Kd.R_alloc | apply Kd.R_drewN | apply Kd.R_drew)); exact HO259.out) hb)
                  have n1_ := Aside0.mk (Kd.R_elder' (by (with_reducible repeat (first | apply Kd.R_alloc | apply Kd.R_drewN | apply Kd.R_drew)); exact HO271.out) (Kd.R_base ho50) hb)
                  have n2_ := Aside0.mk (Kd.R_lower (Kd.R_new' ho50 (Kd.R_lt (by (with_reducible repeat (first | apply Kd.R_alloc | apply Kd.R_drewN | apply Kd.R_drew)); exact HO271.out))) (below_size (by repeat (first | (with_reducible first | exact HB.out | apply below_alloc | apply pw_below_drewN | apply below_drew1 | refine below_set ?_ GE254.out | refine below_set ?_ GE262.out) | exact HB.out))))
                  have n3_ := Aside0.mk (blk_below (g := gb254) (o := .cells #[.int .i64 a0_0, .slice A0_1 l0_1.length c0_1, .int .i64 a0_2] 24 (0, 0)) (by (with_reducible repeat (first | refine blk_drewN ?_ _ | refine blk_drew ?_ | refine blk_alloc ?_ _)); exact BK254.out) hb)
                  have n4_ := Aside0.mk (blk_below (g := gb262) (o := .cells #[.int .i64 (wrap64 (a0_0 + 1)), .slice A0_1 l0_1.length c0_1, .int .i64 a0_2] 24 (0, 0)) (by (with_reducible repeat (first | refine blk_drewN ?_ _ | refine blk_drew ?_ | refine blk_alloc ?_ _)); exact BK262.out) hb)
                  have n5_ := Aside0.mk (below_step (by repeat (first | (with_reducible first | exact HB.out | apply below_alloc | apply pw_below_drewN | apply below_drew1 | refine below_set ?_ GE254.out | refine below_set ?_ GE262.out) | exact HB.out)) hb)
                  clear HO259
                  clear HO271
                  clear BK254
                  clear BK262
                  clear HB
                  have HO259 := n0_
                  have HO271 := n1_
                  have HO265 := n2_
                  have BK254 := n3_
                  have BK262 := n4_
                  have HB := n5_
                  clear n0_ n1_ n2_ n3_ n4_ n5_
                  clear hb ho50
                  refine hK.out _ _ ⟨(blk_cell BK262.out 0).trans rfl, (blk_cell BK262.out 1).trans rfl, (blk_cell BK262.out 2).trans rfl⟩ (fun hHeld => ?_)
                  clear hK K
                  refine norm_ (a' := ?_) ?_ ?_
                  rotate_left
                  · show Act.put _ (some 55) _ = _
                    simp only [Act.put, List.setIfInBounds_toArray, List.set_cons_zero, List.set_cons_succ, i64_w, i32_w]
                    rfl
                  refine one_ (i := 3) (N := some 57) #[true, true, true, true, true, true, false, false, false, false, false, false, false, false, false] rfl rfl (one_of HT_.out (by kernel_rfl)) (by decide) (fun K hK => ?_)
                  refine Kd.R_append_rows_step (Kd.int .i64) (w0 := w) w.heap.size (by rfl) (.tmp 55) (.tmp 56) 33 3 (.int .i64 0) 8 rfl Try.underlying33 info3 rfl (by decide) (by omega) v264 y263 l1 _ _ _ (fun k_ => some k_ ≠ (v270 : Value).ownBlock) (fun _ => False) rfl rfl ?aO ?aR (fun _ _ h => h) (fun _ h => h.elim) ?aF ?aB ?aS ?aL ?_
                  (case aR => repeat (first | exact (Kd.C_below HR1.out HB.out) | (with_reducible refine Kd.C_alloc ?_ _) | (with_reducible refine Kd.C_drewN ?_ _) | (with_reducible refine Kd.C_drew ?_)))
                  (case aB => exact (by repeat (first | (with_reducible first | exact HB.out | apply below_alloc | apply pw_below_drewN | apply below_drew1 | refine below_set ?_ GE254.out | refine below_set ?_ GE262.out) | exact HB.out)))
                  (case aF => exact (fun k_ hk => Kd.fresh' (Kd.R_lt (by (with_reducible repeat (first | apply Kd.R_alloc | apply Kd.R_drewN | apply Kd.R_drew)); exact HO271.out)) k_ hk))
                  (case aO => exact (by (with_reducible repeat (first | apply Kd.R_alloc | apply Kd.R_drewN | apply Kd.R_drew)); exact Kd.R_mono HO265.out (fun _ hk => hk.2)))
                  (case aS => exact (below_size (by repeat (first | (with_reducible first | exact HB.out | apply below_alloc | apply pw_below_drewN | apply below_drew1 | refine below_set ?_ GE254.out | refine below_set ?_ GE262.out) | exact HB.out))))
                  (case aL => have := LMc34.out; omega)
                  intro v267 w51 ho hb hg hat
                  rw [← Ny266.out] at ho
                  have n0_ := Aside0.mk (blk_grown (g := gb254) (o := .cells #[.int .i64 a0_0, .slice A0_1 l0_1.length c0_1, .int .i64 a0_2] 24 (0, 0)) (by (with_reducible repeat (first | refine blk_drewN ?_ _ | refine blk_drew ?_ | refine blk_alloc ?_ _)); exact BK254.out) hg (Kd.R_ne HO265.out BK254.out (by decide)))
                  have n1_ := Aside0.mk (Kd.R_over' (by (with_reducible repeat (first | apply Kd.R_alloc | apply Kd.R_drewN | apply Kd.R_drew)); exact HO259.out) (Kd.R_typed (by (with_reducible repeat (first | apply Kd.R_alloc | apply Kd.R_drewN | apply Kd.R_drew)); exact HO265.out)) (by decide) hg)
                  have n2_ := Aside0.mk (blk_grown (g := gb262) (o := .cells #[.int .i64 (wrap64 (a0_0 + 1)), .slice A0_1 l0_1.length c0_1, .int .i64 a0_2] 24 (0, 0)) (by (with_reducible repeat (first | refine blk_drewN ?_ _ | refine blk_drew ?_ | refine blk_alloc ?_ _)); exact BK262.out) hg (Kd.R_ne HO265.out BK262.out (by decide)))
                  have n3_ := Aside0.mk (Kd.R_after (ok := (fun _ => True)) (by (with_reducible repeat (first | apply Kd.R_alloc | apply Kd.R_drewN | apply Kd.R_drew)); exact HO271.out) hg hat)
                  have n4_ := Aside0.mk (hb)
                  have n5_ := Aside0.mk (ho)
                  clear BK254
                  clear HO259
                  clear BK262
                  clear HO271
                  clear HB
                  clear HO265
                  have BK254 := n0_
                  have HO259 := n1_
                  have BK262 := n2_
                  have HO271 := n3_
                  have HB := n4_
                  have HO268 := n5_
                  clear n0_ n1_ n2_ n3_ n4_ n5_
                  clear ho hb hg hat
                  refine hK.out _ _ ⟨(blk_cell BK262.out 0).trans rfl, (blk_cell BK262.out 1).trans rfl, (blk_cell BK262.out 2).trans rfl⟩ (fun hHeld => ?_)
                  clear hK K
                  refine norm_ (a' := ?_) ?_ ?_
                  rotate_left
                  · show Act.put _ (some 57) _ = _
                    simp only [Act.put, List.setIfInBounds_toArray, List.set_cons_zero, List.set_cons_succ, i64_w, i32_w]
                    rfl
                  exact norm_ (by simp only [putAll, Act.put, List.setIfInBounds_toArray, List.set_cons_zero, List.set_cons_succ]) (hCont (v264, v267, v270) _ ⟨hHeld, (by (with_reducible repeat (first | apply Kd.R_alloc | apply Kd.R_drewN | apply Kd.R_drew)); exact HO259.out), (by (with_reducible repeat (first | apply Kd.R_alloc | apply Kd.R_drewN | apply Kd.R_drew)); exact HO268.out), (by (with_reducible repeat (first | apply Kd.R_alloc | apply Kd.R_drewN | apply Kd.R_drew)); exact Kd.R_mono HO271.out (fun _ hk => hk.2)), (by (with_reducible repeat (first | refine blk_drewN ?_ _ | refine blk_drew ?_ | refine blk_alloc ?_ _)); exact BK254.out), (by (with_reducible repeat (first | refine blk_drewN ?_ _ | refine blk_drew ?_ | refine blk_alloc ?_ _)); exact BK262.out), (by repeat (first | (with_reducible first | exact HB.out | apply below_alloc | apply pw_below_drewN | apply below_drew1 | refine below_set ?_ GE254.out | refine below_set ?_ GE262.out) | exact HB.out))⟩)
              rintro ⟨v264, v267, v270⟩ w52 ⟨hS_, h0_, h1_, h2_, h3_, h4_, h5_⟩
              have n0_ : Aside0 (Kd.R Kd.bool 4 w52 w.heap.size (fun _ => True) v258 t257) := ⟨h0_⟩
              have n1_ : Aside0 (Kd.R (Kd.int .i64) 3 w52 w.heap.size (fun k_ => some k_ ≠ (v270 : Value).ownBlock) v267 y266) := ⟨h1_⟩
              have n2_ : Aside0 (Kd.R (Kd.int .i64) 3 w52 w.heap.size (fun k_ => some k_ ≠ (v267 : Value).ownBlock) v270 y269) := ⟨h2_⟩
              have n3_ : Aside0 (w52.heap[gb254]? = some (.cells #[.int .i64 a0_0, .slice A0_1 l0_1.length c0_1, .int .i64 a0_2] 24 (0, 0))) := ⟨h3_⟩
              have n4_ : Aside0 (w52.heap[gb262]? = some (.cells #[.int .i64 (wrap64 (a0_0 + 1)), .slice A0_1 l0_1.length c0_1, .int .i64 a0_2] 24 (0, 0))) := ⟨h4_⟩
              have n5_ : Aside0 (Below w.heap.size w w52) := ⟨h5_⟩
              clear HO259
              clear BK254
              clear BK262
              clear HB
              clear h0_ h1_ h2_ h3_ h4_ h5_
              have HO259 := n0_
              have HO268 := n1_
              have HO271 := n2_
              have BK254 := n3_
              have BK262 := n4_
              have HB := n5_
              clear n0_ n1_ n2_ n3_ n4_ n5_
              have hHeld : w52.cell? ⟨gb262, 0, none⟩ = some (.int .i64 (wrap64 (a0_0 + 1))) ∧ w52.cell? ⟨gb262, 1, none⟩ = some (.slice A0_1 l0_1.length c0_1) ∧ w52.cell? ⟨gb262, 2, none⟩ = some (.int .i64 a0_2) := hS_
              obtain ⟨Ao54, co54, eo54⟩ := Kd.R_slice HO271.out
              (first | subst eo54 | (injection eo54 with f1_ f2_ f3_; have f4_ := f1_.symm; have f5_ := f3_.symm; clear f1_ f2_ f3_; subst f4_; subst f5_))
              refine norm_ (a' := ?_) ?_ ?_
              rotate_left
              · simp only [putAll, Act.put, List.setIfInBounds_toArray, List.set_cons_zero, List.set_cons_succ]
                rfl
              refine one_ (i := 6) (N := some 60) #[true, true, true, true, true, true, true, false, false, false, false, false, false, false, false] rfl rfl (one_of HT_.out (by kernel_rfl)) (by decide) (fun K hK => ?_)
              refine Kd.R_append_rows_step (Kd.int .i64) (w0 := w) w.heap.size (by rfl) (.tmp 57) (.tmp 59) 33 3 (.int .i64 0) 8 rfl Try.underlying33 info3 rfl (by decide) (by omega) v267 y266 y269 _ _ _ (fun k_ => some k_ ≠ (.slice Ao54 y269.length co54 : Value).ownBlock) (fun _ => False) rfl rfl ?aO ?aR (fun _ _ h => h) (fun _ h => h.elim) ?aF ?aB ?aS ?aL ?_
              (case aR => repeat (first | exact (Kd.R_reads' HO271.out).2.2 | (with_reducible refine Kd.C_alloc ?_ _) | (with_reducible refine Kd.C_drewN ?_ _) | (with_reducible refine Kd.C_drew ?_)))
              (case aB => exact (by repeat (first | (with_reducible first | exact HB.out | apply below_alloc | apply pw_below_drewN | apply below_drew1 | refine below_set ?_ GE254.out | refine below_set ?_ GE262.out) | exact HB.out)))
              (case aF => exact (fun k_ hk => Kd.fresh' (Kd.R_lt (by (with_reducible repeat (first | apply Kd.R_alloc | apply Kd.R_drewN | apply Kd.R_drew)); exact HO271.out)) k_ hk))
              (case aO => exact (by (with_reducible repeat (first | apply Kd.R_alloc | apply Kd.R_drewN | apply Kd.R_drew)); exact HO268.out))
              (case aS => exact (below_size (by repeat (first | (with_reducible first | exact HB.out | apply below_alloc | apply pw_below_drewN | apply below_drew1 | refine below_set ?_ GE254.out | refine below_set ?_ GE262.out) | exact HB.out))))
              (case aL => have := LMc35.out; omega)
              intro v273 w53 ho hb hg hat
              rw [← Ny272.out] at ho
              have n0_ := Aside0.mk (blk_grown (g := gb254) (o := .cells #[.int .i64 a0_0, .slice A0_1 l0_1.length c0_1, .int .i64 a0_2] 24 (0, 0)) (by (with_reducible repeat (first | refine blk_drewN ?_ _ | refine blk_drew ?_ | refine blk_alloc ?_ _)); exact BK254.out) hg (Kd.R_ne HO268.out BK254.out (by decide)))
              have n1_ := Aside0.mk (Kd.R_over' (by (with_reducible repeat (first | apply Kd.R_alloc | apply Kd.R_drewN | apply Kd.R_drew)); exact HO259.out) (Kd.R_typed (by (with_reducible repeat (first | apply Kd.R_alloc | apply Kd.R_drewN | apply Kd.R_drew)); exact HO268.out)) (by decide) hg)
              have n2_ := Aside0.mk (blk_grown (g := gb262) (o := .cells #[.int .i64 (wrap64 (a0_0 + 1)), .slice A0_1 l0_1.length c0_1, .int .i64 a0_2] 24 (0, 0)) (by (with_reducible repeat (first | refine blk_drewN ?_ _ | refine blk_drew ?_ | refine blk_alloc ?_ _)); exact BK262.out) hg (Kd.R_ne HO268.out BK262.out (by decide)))
              have n3_ := Aside0.mk (Kd.R_after (ok := (fun _ => True)) (by (with_reducible repeat (first | apply Kd.R_alloc | apply Kd.R_drewN | apply Kd.R_drew)); exact Kd.R_mono HO271.out (fun _ hk => ⟨trivial, hk⟩)) hg hat)
              have n4_ := Aside0.mk (hb)
              have n5_ := Aside0.mk (ho)
              clear BK254
              clear HO259
              clear BK262
              clear HO271
              clear HB
              clear HO268
              have BK254 := n0_
              have HO259 := n1_
              have BK262 := n2_
              have HO271 := n3_
              have HB := n4_
              have HO274 := n5_
              clear n0_ n1_ n2_ n3_ n4_ n5_
              clear ho hb hg hat
              obtain ⟨Ao55, co55, eo55⟩ := Kd.R_slice HO274.out
              (first | subst eo55 | (injection eo55 with f1_ f2_ f3_; have f4_ := f1_.symm; have f5_ := f3_.symm; clear f1_ f2_ f3_; subst f4_; subst f5_))
              refine hK.out _ _ ⟨(blk_cell BK262.out 0).trans rfl, (blk_cell BK262.out 1).trans rfl, (blk_cell BK262.out 2).trans rfl⟩ (fun hHeld => ?_)
              clear hK K
              refine norm_ (a' := ?_) ?_ ?_
              rotate_left
              · show Act.put _ (some 60) _ = _
                simp only [Act.put, List.setIfInBounds_toArray, List.set_cons_zero, List.set_cons_succ, i64_w, i32_w]
                rfl
              refine one_ (i := 7) (N := some 61) #[true, true, true, true, true, true, true, true, false, false, false, false, false, false, false] rfl rfl (one_of HT_.out (by kernel_rfl)) (by decide) (fun K hK => ?_)
              refine goes_ Try.func22 (by kernel_rfl) rfl #[.agg #[.int .i64 (wrap64 (a0_0 + 1)), .slice A0_1 l0_1.length c0_1, .int .i64 a0_2], .slice Ao55 y272.length co55, .int .i64 5000] (by rfl) rfl rfl (by (try simp only [List.map_toArray, List.map_cons, List.map_nil]); first | done | rfl | (simp only [List.length_drop, List.length_take]; rfl)) ?_
              with_reducible refine (sat_Least.calls kj5 (wrap64 (a0_0 + 1)) _ _ l0_1 a0_2 _ _ y272 5000 t275 t278 t279 _ ?side1 ?side2 ?side3 ?side4 A36.out).mono ?_
              (case side1 => repeat (first | exact (Kd.C_below HR0_1.out HB.out) | (with_reducible refine Kd.C_alloc ?_ _) | (with_reducible refine Kd.C_drewN ?_ _) | (with_reducible refine Kd.C_drew ?_)))
              (case side2 => exact HC0_1.out)
              (case side3 => repeat (first | exact (Kd.R_reads' HO274.out).2.2 | (with_reducible refine Kd.C_alloc ?_ _) | (with_reducible refine Kd.C_drewN ?_ _) | (with_reducible refine Kd.C_drew ?_)))
              (case side4 => exact (Kd.R_reads' HO274.out).2.1)
              rintro e w56 ⟨v276, rfl, ho0, hb⟩
              refine ⟨_, rfl, ?_⟩
              have n0_ := Aside0.mk (Kd.R_elder' (by (with_reducible repeat (first | apply Kd.R_alloc | apply Kd.R_drewN | apply Kd.R_drew)); exact HO259.out) (Kd.R_base ho0) hb)
              have n1_ := Aside0.mk (Kd.R_below (by (with_reducible repeat (first | apply Kd.R_alloc | apply Kd.R_drewN | apply Kd.R_drew)); exact HO271.out) hb)
              have n2_ := Aside0.mk (Kd.R_below (by (with_reducible repeat (first | apply Kd.R_alloc | apply Kd.R_drewN | apply Kd.R_drew)); exact HO274.out) hb)
              have n3_ := Aside0.mk (Kd.R_lower (Kd.R_new' ho0 (Kd.R_lt (by (with_reducible repeat (first | apply Kd.R_alloc | apply Kd.R_drewN | apply Kd.R_drew)); exact HO259.out))) (below_size (by repeat (first | (with_reducible first | exact HB.out | apply below_alloc | apply pw_below_drewN | apply below_drew1 | refine below_set ?_ GE254.out | refine below_set ?_ GE262.out) | exact HB.out))))
              have n4_ := Aside0.mk (blk_below (g := gb254) (o := .cells #[.int .i64 a0_0, .slice A0_1 l0_1.length c0_1, .int .i64 a0_2] 24 (0, 0)) (by (with_reducible repeat (first | refine blk_drewN ?_ _ | refine blk_drew ?_ | refine blk_alloc ?_ _)); exact BK254.out) hb)
              have n5_ := Aside0.mk (blk_below (g := gb262) (o := .cells #[.int .i64 (wrap64 (a0_0 + 1)), .slice A0_1 l0_1.length c0_1, .int .i64 a0_2] 24 (0, 0)) (by (with_reducible repeat (first | refine blk_drewN ?_ _ | refine blk_drew ?_ | refine blk_alloc ?_ _)); exact BK262.out) hb)
              have n6_ := Aside0.mk (below_step (by repeat (first | (with_reducible first | exact HB.out | apply below_alloc | apply pw_below_drewN | apply below_drew1 | refine below_set ?_ GE254.out | refine below_set ?_ GE262.out) | exact HB.out)) hb)
              clear HO259
              clear HO271
              clear HO274
              clear BK254
              clear BK262
              clear HB
              have HO259 := n0_
              have HO271 := n1_
              have HO274 := n2_
              have HO277 := n3_
              have BK254 := n4_
              have BK262 := n5_
              have HB := n6_
              clear n0_ n1_ n2_ n3_ n4_ n5_ n6_
              (try clear hb)
              (try clear hb2)
              (try clear hk)
              (try clear hi)
              (try clear ho0)
              refine hK.out _ _ ⟨(blk_cell BK262.out 0).trans rfl, (blk_cell BK262.out 1).trans rfl, (blk_cell BK262.out 2).trans rfl⟩ (fun hHeld => ?_)
              clear hK K
              refine norm_ (a' := ?_) ?_ ?_
              rotate_left
              · show Act.put _ (some 61) _ = _
                simp only [Act.put, List.setIfInBounds_toArray, List.set_cons_zero, List.set_cons_succ, i64_w, i32_w]
                rfl
              refine pure_ (i := 8) (N := some 53) (v := ?_) (a' := ?_) #[true, true, true, true, true, true, true, true, true, false, false, false, false, false, false] rfl rfl (any_of HT_.out (by kernel_rfl)) (fun _ _ _ h => h) (Or.inl ⟨by rfl, ?_⟩) ?_ ?_
              rotate_left
              · intro w'
                go_simp
                with_reducible rfl
              rotate_left
              · simp only [Act.put, List.setIfInBounds_toArray, List.set_cons_zero, List.set_cons_succ, i64_w, i32_w]
                rfl
              refine pure_ (i := 9) (N := some 62) (v := ?_) (a' := ?_) #[true, true, true, true, true, true, true, true, true, true, false, false, false, false, false] rfl rfl (any_of HT_.out (by kernel_rfl)) (fun _ _ _ h => h) (Or.inl ⟨by rfl, ?_⟩) ?_ ?_
              rotate_left
              · intro w'
                go_simp
                with_reducible rfl
              rotate_left
              · simp only [Act.put, List.setIfInBounds_toArray, List.set_cons_zero, List.set_cons_succ, i64_w, i32_w]
                rfl
              refine pure_ (i := 10) (N := some 63) (v := ?_) (a' := ?_) #[true, true, true, true, true, true, true, true, true, true, true, false, false, false, false] rfl rfl (any_of HT_.out (by kernel_rfl)) (fun _ _ _ h => h) (Or.inl ⟨by rfl, ?_⟩) ?_ ?_
              rotate_left
              · intro w'
                go_simp
                with_reducible rfl
              rotate_left
              · simp only [Act.put, List.setIfInBounds_toArray, List.set_cons_zero, List.set_cons_succ, i64_w, i32_w]
                rfl
              refine pure_ (i := 11) (N := some 64) (v := ?_) (a' := ?_) #[true, true, true, true, true, true, true, true, true, true, true, true, false, false, false] rfl rfl (any_of HT_.out (by kernel_rfl)) (fun _ _ _ h => h) (Or.inl ⟨by rfl, ?_⟩) ?_ ?_
              rotate_left
              · intro w'
                go_simp
                with_reducible rfl
              rotate_left
              · simp only [Act.put, List.setIfInBounds_toArray, List.set_cons_zero, List.set_cons_succ, i64_w, i32_w]
                rfl
              refine pure_ (i := 12) (N := some 11) (v := ?_) (a' := ?_) #[true, true, true, true, true, true, true, true, true, true, true, true, true, false, false] rfl rfl (any_of HT_.out (by kernel_rfl)) (fun _ _ _ h => h) (Or.inl ⟨by rfl, ?_⟩) ?_ ?_
              rotate_left
              · intro w'
                go_simp
                with_reducible rfl
              rotate_left
              · simp only [Act.put, List.setIfInBounds_toArray, List.set_cons_zero, List.set_cons_succ, i64_w, i32_w]
                rfl
              refine pure_ (i := 13) (N := some 12) (v := ?_) (a' := ?_) #[true, true, true, true, true, true, true, true, true, true, true, true, true, true, false] rfl rfl (any_of HT_.out (by kernel_rfl)) (fun _ _ _ h => h) (Or.inl ⟨by rfl, ?_⟩) ?_ ?_
              rotate_left
              · intro w'
                go_simp
                with_reducible rfl
              rotate_left
              · simp only [Act.put, List.setIfInBounds_toArray, List.set_cons_zero, List.set_cons_succ, i64_w, i32_w]
                rfl
              refine pure_ (i := 14) (N := some 13) (v := ?_) (a' := ?_) #[true, true, true, true, true, true, true, true, true, true, true, true, true, true, true] rfl rfl (any_of HT_.out (by kernel_rfl)) (fun _ _ _ h => h) (Or.inl ⟨by rfl, ?_⟩) ?_ ?_
              rotate_left
              · intro w'
                go_simp
                with_reducible rfl
              rotate_left
              · simp only [Act.put, List.setIfInBounds_toArray, List.set_cons_zero, List.set_cons_succ, i64_w, i32_w]
                rfl
              refine done_ (done_of HT_.out (by kernel_rfl)) ?_
              go_upto_region 9 with (fail)
              go_cut [70] (fun v70 wc => ∃ (kq : Nat) (x70_36 : Bool), v70 = .bool x70_36 ∧ Aside0 (pentaglotlaw28_SatIrrelevant.j1 kq a2 t257 t260 t261 t275 t278 t279 x70_36 = some r) ∧ Aside0 (kq ≤ kj5) ∧ Aside0 (Kd.R Kd.bool 4 wc w.heap.size (fun k_ => some k_ ≠ (v276 : Value).ownBlock) v258 t257) ∧ Aside0 (Kd.R Kd.bool 4 wc w.heap.size (fun k_ => some k_ ≠ (v258 : Value).ownBlock) v276 t275) ∧ Aside0 (wc.heap[gb254]? = some (.cells #[.int .i64 a0_0, (.slice A0_1 l0_1.length c0_1), .int .i64 a0_2] 24 (0, 0))) ∧ Aside0 (wc.heap[gb262]? = some (.cells #[.int .i64 (wrap64 (a0_0 + 1)), (.slice A0_1 l0_1.length c0_1), .int .i64 a0_2] 24 (0, 0))) ∧ Aside0 (Below w.heap.size w wc))
              case first =>
                have H := HC37.out
                clear HC37
                by_cases c57 : t261 = 1
                · rw [if_pos c57] at H
                  have c57b0 : (t261 == 1) = true := beq_iff_eq.mpr c57
                  have c57b1 : (t261 != 1) = false := bne_eq_false_iff_eq.mpr c57
                  clear c57
                  (first | rw [c57b0] | (simp only [i64_w, i32_w]; rw [c57b0]) | skip)
                  have H' := Aside0.mk H
                  clear H
                  go_wp2
                  go_meet
                  case rel => exact ⟨_, (true), (by first | rfl | (simp; done) | (simp [*]; done)), H', ⟨by have := HJ5.out; first | omega | exact Nat.le_refl _⟩, ⟨by (with_reducible repeat (first | apply Kd.R_alloc | apply Kd.R_drewN | apply Kd.R_drew)); exact Kd.R_mono HO259.out (fun _ hk => hk.2)⟩, ⟨by (with_reducible repeat (first | apply Kd.R_alloc | apply Kd.R_drewN | apply Kd.R_drew)); exact Kd.R_mono HO277.out (fun _ hk => hk.2)⟩, ⟨by (with_reducible repeat (first | refine blk_drewN ?_ _ | refine blk_drew ?_ | refine blk_alloc ?_ _)); exact BK254.out⟩, ⟨by (with_reducible repeat (first | refine blk_drewN ?_ _ | refine blk_drew ?_ | refine blk_alloc ?_ _)); exact BK262.out⟩, ⟨by repeat (first | (with_reducible first | exact HB.out | apply below_alloc | apply pw_below_drewN | apply below_drew1 | refine below_set ?_ GE254.out | refine below_set ?_ GE262.out) | exact HB.out)⟩⟩
                · rw [if_neg c57] at H
                  have c57b0 : (t261 == 1) = false := beq_eq_false_iff_ne.mpr c57
                  have c57b1 : (t261 != 1) = true := bne_iff_ne.mpr c57
                  (first | rw [c57b0] | (simp only [i64_w, i32_w]; rw [c57b0]) | skip)
                  have H' := Aside0.mk H
                  clear H
                  go_wp2
                  go_meet
                  case rel => exact ⟨_, ((t261 == 7)), (by first | rfl | (simp; done) | (simp [*]; done)), H', ⟨by have := HJ5.out; first | omega | exact Nat.le_refl _⟩, ⟨by (with_reducible repeat (first | apply Kd.R_alloc | apply Kd.R_drewN | apply Kd.R_drew)); exact Kd.R_mono HO259.out (fun _ hk => hk.2)⟩, ⟨by (with_reducible repeat (first | apply Kd.R_alloc | apply Kd.R_drewN | apply Kd.R_drew)); exact Kd.R_mono HO277.out (fun _ hk => hk.2)⟩, ⟨by (with_reducible repeat (first | refine blk_drewN ?_ _ | refine blk_drew ?_ | refine blk_alloc ?_ _)); exact BK254.out⟩, ⟨by (with_reducible repeat (first | refine blk_drewN ?_ _ | refine blk_drew ?_ | refine blk_alloc ?_ _)); exact BK262.out⟩, ⟨by repeat (first | (with_reducible first | exact HB.out | apply below_alloc | apply pw_below_drewN | apply below_drew1 | refine below_set ?_ GE254.out | refine below_set ?_ GE262.out) | exact HB.out)⟩⟩
              case rest =>
                clear HC37
                try clear c1
                try clear c2
                try clear p2
                try clear c3
                try clear c4
                try clear c5
                try clear p6
                try clear c22
                try clear c32
                try clear c34
                try clear c35
                try clear c42
                try clear c57
                try clear c57b0
                try clear c57b1
                try clear hcz38_0
                try clear hcz38_1
                try clear hcz38_2
                try clear hcz40_0
                try clear hcz40_1
                try clear hcz40_2
                try clear hcz43_0
                try clear hcz43_1
                try clear hcz43_2
                try clear hcz44_0
                try clear hcz44_1
                try clear hcz44_2
                try clear hfz16_2
                try clear hfz18_0
                try clear hfz18_1
                try clear hfz18_2
                try clear hfz20_0
                try clear hfz20_1
                try clear hfz20_2
                try clear hfz22_0
                try clear hfz22_1
                try clear hfz22_2
                try clear hfz24_0
                try clear hfz24_1
                try clear hfz24_2
                try clear hfz26_0
                try clear hfz26_1
                try clear hfz26_2
                try clear hfz28_0
                try clear hfz28_1
                try clear hfz28_2
                try clear hfz29_0
                try clear hfz29_1
                try clear hfz29_2
                try clear hfz31_0
                try clear hfz31_1
                try clear hfz31_2
                try clear hfz38_0
                try clear hfz38_1
                try clear hfz38_2
                try clear hfz40_0
                try clear hfz40_1
                try clear hfz40_2
                try clear hfz43_0
                try clear hfz43_1
                try clear hfz43_2
                try clear hfz44_0
                try clear hfz44_1
                try clear hfz44_2
                obtain ⟨kq, x70_36, rfl, HA, HJ36, HO_7, HO_11, BK254, BK262, HB⟩ := hcut
                cases kq with
                | zero => exact absurd HA.out (by simp [pentaglotlaw28_SatIrrelevant.j1])
                | succ kj36 =>
                  have H := HA.out
                  clear HA
                  simp only [pentaglotlaw28_SatIrrelevant.j1] at H
                  by_cases c58 : x70_36 = true
                  · subst c58
                    have H1 : (if t261 = 7 then (some (t279 == 7)) else (some true)) = some r := by rw [if_pos rfl] at H; exact H
                    clear H
                    have H := H1
                    clear H1
                    by_cases c59 : t261 = 7
                    · rw [if_pos c59] at H
                      have c59b0 : (t261 == 7) = true := beq_iff_eq.mpr c59
                      have c59b1 : (t261 != 7) = false := bne_eq_false_iff_eq.mpr c59
                      clear c59
                      obtain rfl := Option.some.inj H
                      go_wp2
                      go_ret
                      exact ⟨by first | rfl | (simp [errW_none, errW_some] <;> rfl) | (simp [*, errW_none, errW_some] <;> rfl), by repeat (first | (with_reducible first | exact HB.out | apply below_alloc | apply pw_below_drewN | apply below_drew1 | refine below_set ?_ GE254.out | refine below_set ?_ GE262.out) | exact HB.out)⟩
                    · rw [if_neg c59] at H
                      have c59b0 : (t261 == 7) = false := beq_eq_false_iff_ne.mpr c59
                      have c59b1 : (t261 != 7) = true := bne_iff_ne.mpr c59
                      obtain rfl := Option.some.inj H
                      go_wp2
                      go_ret
                      exact ⟨by first | rfl | (simp [errW_none, errW_some] <;> rfl) | (simp [*, errW_none, errW_some] <;> rfl), by repeat (first | (with_reducible first | exact HB.out | apply below_alloc | apply pw_below_drewN | apply below_drew1 | refine below_set ?_ GE254.out | refine below_set ?_ GE262.out) | exact HB.out)⟩
                  · replace c58 := Bool.eq_false_iff.mpr c58
                    subst c58
                    have H1 : (if t261 = t279 then (if t261 = 0 then (if t260 = t278 then (if (t275.length : Int) = (wrap64 ((t257.length : Int) + 1)) then (if 0 ≤ (t257.length : Int) then (if (t257.length : Int) ≤ (t275.length : Int) then ((pentaglotlaw28_same.f kj36 (t275.take ((t257.length : Int) : Int).toNat) t257).bind fun t284 => (if t284 = true then (if (t257.length : Int) < (t275.length : Int) then (some ((rdOf false t275 (t257.length : Int)) == (a2 == 1))) else (none)) else (some false))) else (none)) else (none)) else (some false)) else (some false)) else (some (t261 == t279))) else (some (t261 == t279))) = some r := by rw [if_neg (show ¬ (false = true) by decide)] at H; exact H
                    clear H
                    have H := H1
                    clear H1
                    by_cases c60 : t261 = t279
                    · rw [if_pos c60] at H
                      have c60b0 : (t261 == t279) = true := beq_iff_eq.mpr c60
                      have c60b1 : (t261 != t279) = false := bne_eq_false_iff_eq.mpr c60
                      clear c60
                      by_cases c61 : t261 = 0
                      · rw [if_pos c61] at H
                        have c61b0 : (t261 == 0) = true := beq_iff_eq.mpr c61
                        have c61b1 : (t261 != 0) = false := bne_eq_false_iff_eq.mpr c61
                        clear c61
                        by_cases c62 : t260 = t278
                        · rw [if_pos c62] at H
                          have c62b0 : (t260 == t278) = true := beq_iff_eq.mpr c62
                          have c62b1 : (t260 != t278) = false := bne_eq_false_iff_eq.mpr c62
                          clear c62
                          by_cases c63 : (t275.length : Int) = (wrap64 ((t257.length : Int) + 1))
                          · rw [if_pos c63] at H
                            have c63b0 : ((t275.length : Int) == (wrap64 ((t257.length : Int) + 1))) = true := beq_iff_eq.mpr c63
                            have c63b1 : ((t275.length : Int) != (wrap64 ((t257.length : Int) + 1))) = false := bne_eq_false_iff_eq.mpr c63
                            clear c63
                            by_cases c64 : 0 ≤ (t257.length : Int)
                            · rw [if_pos c64] at H
                              have c64b0 := eq_true c64
                              have c64b1 : decide (0 ≤ (t257.length : Int)) = true := decide_eq_true c64
                              clear c64
                              by_cases c65 : (t257.length : Int) ≤ (t275.length : Int)
                              · rw [if_pos c65] at H
                                have c65b0 := eq_true c65
                                have c65b1 : decide ((t257.length : Int) ≤ (t275.length : Int)) = true := decide_eq_true c65
                                clear c65
                                obtain ⟨y280, hy280⟩ : ∃ y_ : List Bool, y_ = (t275.take ((t257.length : Int) : Int).toNat) := ⟨_, rfl⟩
                                replace H : ((pentaglotlaw28_same.f kj36 y280 t257).bind fun t284 => (if t284 = true then (if (t257.length : Int) < (t275.length : Int) then (some ((rdOf false t275 (t257.length : Int)) == (a2 == 1))) else (none)) else (some false))) = some r := by first | (rw [hy280]; with_reducible exact H) | (have H2_ := (Option.bind_some _ _).symm.trans H; rw [hy280]; with_reducible exact H2_) | (have H2_ := (Option.bind_some _ _).symm.trans H; with_reducible exact H2_) | with_reducible exact H | (rw [hy280]; exact H) | exact H
                                have Ny280 := Aside0.mk hy280
                                clear hy280
                                replace H := Option.bind_eq_some_iff.mp H
                                obtain ⟨t284, A660, H⟩ := H
                                replace H : (if t284 = true then (if (t257.length : Int) < (t275.length : Int) then (some ((rdOf false t275 (t257.length : Int)) == (a2 == 1))) else (none)) else (some false)) = some r := H
                                have A66 := Aside0.mk A660
                                clear A660
                                by_cases c67 : t284 = true
                                · subst c67
                                  have H1 : (if (t257.length : Int) < (t275.length : Int) then (some ((rdOf false t275 (t257.length : Int)) == (a2 == 1))) else (none)) = some r := by rw [if_pos rfl] at H; exact H
                                  clear H
                                  have H := H1
                                  clear H1
                                  by_cases c68 : (t257.length : Int) < (t275.length : Int)
                                  · rw [if_pos c68] at H
                                    have c68b0 : decide ((t257.length : Int) < (t275.length : Int)) = true := decide_eq_true c68
                                    have c68b1 : decide (t257.length < t275.length) = true := decide_eq_true (Int.ofNat_lt.mp c68)
                                    clear c68
                                    obtain rfl := Option.some.inj H
                                    obtain ⟨Ao69, co69, eo69⟩ := Kd.R_slice HO_11.out
                                    subst eo69
                                    obtain ⟨Ao70, co70, eo70⟩ := Kd.R_slice HO_7.out
                                    subst eo70
                                    have q71 : ((t257.length : Int) : Int) ≤ ((t275.length : Int) : Int) := of_decide_eq_true (by first | (with_reducible assumption) | assumption)
                                    obtain ⟨i071, hi071, _, hsz71, _⟩ := info_parts info4
                                    have hroom71 : t275.length ≤ co69 := (Kd.R_reads' HO_11.out).2.1
                                    have hC71 : Kd.C Kd.bool _ Ao69 t275.length t275 := (Kd.R_reads' HO_11.out).2.2
                                    have hcut71 := cut_to (P := Try.prog) 25 4 .i64 Try.underlying25 hi071 Ao69 t275.length co69 (t257.length : Int) (of_decide_eq_true (by first | (with_reducible assumption) | assumption)) q71 hroom71
                                    have hr71 := Kd.C_take (m := ((t257.length : Int) : Int).toNat) hC71 (by omega)
                                    have hy71 : y280.length = ((t257.length : Int) : Int).toNat := (by rw [Ny280.out, List.length_take]; omega)
                                    rw [← Ny280.out] at hr71
                                    rw [← hy71] at hcut71
                                    have HR283 := Aside0.mk hr71
                                    have HC283 := Aside0.mk (show y280.length ≤ co69 from by omega)
                                    clear hr71 hC71 hroom71 hi071 hsz71
                                    have KY71 := Aside0.mk hy71
                                    clear hy71
                                    have KL71 := Aside0.mk (show ((t257.length : Int) : Int).toNat ≤ t275.length from by omega)
                                    replace q71 := eq_true q71
                                    go_wp2_with (first | (go_at_call 24; (with_reducible refine (pentaglotlaw28_same.calls kj36 _ _ y280 _ _ t257 true _ ?side1 ?side2 ?side3 ?side4 A66.out).mono ?_); (case side1 => repeat (first | exact (by repeat (first | (with_reducible exact HR283.out) | (with_reducible refine Kd.C_alloc ?_ _) | (with_reducible refine Kd.C_drewN ?_ _) | (with_reducible refine Kd.C_drew ?_) | exact HR283.out)) | (with_reducible refine Kd.C_alloc ?_ _) | (with_reducible refine Kd.C_drewN ?_ _) | (with_reducible refine Kd.C_drew ?_))); (case side2 => exact HC283.out); (case side3 => repeat (first | exact (Kd.R_reads' HO_7.out).2.2 | (with_reducible refine Kd.C_alloc ?_ _) | (with_reducible refine Kd.C_drewN ?_ _) | (with_reducible refine Kd.C_drew ?_))); (case side4 => exact (Kd.R_reads' HO_7.out).2.1); rintro e w' ⟨rfl, ⟨nd, rfl⟩⟩; have p285 : 0 ≤ ((t257.length : Int) : Int) := of_decide_eq_true (by first | (with_reducible assumption) | assumption); have q285 : (t257.length : Int) < (t275.length : Int) := of_decide_eq_true (by first | (with_reducible assumption) | assumption); obtain ⟨ad285, e285, hx285_0⟩ := Kd.at_bool (Kd.R_reads' HO_11.out).2.2 (t257.length : Int) p285 q285; cases e285; (try simp only [Go.IntWalk.toNatUp] at hx285_0); replace p285 := eq_true p285; replace q285 := eq_true q285))
                                    go_ret
                                    exact ⟨by first | rfl | (simp [errW_none, errW_some] <;> rfl) | (simp [*, errW_none, errW_some] <;> rfl), by repeat (first | (with_reducible first | exact HB.out | apply below_alloc | apply pw_below_drewN | apply below_drew1 | refine below_set ?_ GE254.out | refine below_set ?_ GE262.out) | exact HB.out)⟩
                                  · rw [if_neg c68] at H
                                    exact absurd H (by simp)
                                · replace c67 := Bool.eq_false_iff.mpr c67
                                  subst c67
                                  have H1 : (some false) = some r := by rw [if_neg (show ¬ (false = true) by decide)] at H; exact H
                                  clear H
                                  have H := H1
                                  clear H1
                                  obtain rfl := Option.some.inj H
                                  obtain ⟨Ao72, co72, eo72⟩ := Kd.R_slice HO_11.out
                                  subst eo72
                                  obtain ⟨Ao73, co73, eo73⟩ := Kd.R_slice HO_7.out
                                  subst eo73
                                  have q74 : ((t257.length : Int) : Int) ≤ ((t275.length : Int) : Int) := of_decide_eq_true (by first | (with_reducible assumption) | assumption)
                                  obtain ⟨i074, hi074, _, hsz74, _⟩ := info_parts info4
                                  have hroom74 : t275.length ≤ co72 := (Kd.R_reads' HO_11.out).2.1
                                  have hC74 : Kd.C Kd.bool _ Ao72 t275.length t275 := (Kd.R_reads' HO_11.out).2.2
                                  have hcut74 := cut_to (P := Try.prog) 25 4 .i64 Try.underlying25 hi074 Ao72 t275.length co72 (t257.length : Int) (of_decide_eq_true (by first | (with_reducible assumption) | assumption)) q74 hroom74
                                  have hr74 := Kd.C_take (m := ((t257.length : Int) : Int).toNat) hC74 (by omega)
                                  have hy74 : y280.length = ((t257.length : Int) : Int).toNat := (by rw [Ny280.out, List.length_take]; omega)
                                  rw [← Ny280.out] at hr74
                                  rw [← hy74] at hcut74
                                  have HR283 := Aside0.mk hr74
                                  have HC283 := Aside0.mk (show y280.length ≤ co72 from by omega)
                                  clear hr74 hC74 hroom74 hi074 hsz74
                                  have KY74 := Aside0.mk hy74
                                  clear hy74
                                  have KL74 := Aside0.mk (show ((t257.length : Int) : Int).toNat ≤ t275.length from by omega)
                                  replace q74 := eq_true q74
                                  go_wp2_with (first | (go_at_call 24; (with_reducible refine (pentaglotlaw28_same.calls kj36 _ _ y280 _ _ t257 false _ ?side1 ?side2 ?side3 ?side4 A66.out).mono ?_); (case side1 => repeat (first | exact (by repeat (first | (with_reducible exact HR283.out) | (with_reducible refine Kd.C_alloc ?_ _) | (with_reducible refine Kd.C_drewN ?_ _) | (with_reducible refine Kd.C_drew ?_) | exact HR283.out)) | (with_reducible refine Kd.C_alloc ?_ _) | (with_reducible refine Kd.C_drewN ?_ _) | (with_reducible refine Kd.C_drew ?_))); (case side2 => exact HC283.out); (case side3 => repeat (first | exact (Kd.R_reads' HO_7.out).2.2 | (with_reducible refine Kd.C_alloc ?_ _) | (with_reducible refine Kd.C_drewN ?_ _) | (with_reducible refine Kd.C_drew ?_))); (case side4 => exact (Kd.R_reads' HO_7.out).2.1); rintro e w' ⟨rfl, ⟨nd, rfl⟩⟩))
                                  go_ret
                                  exact ⟨by first | rfl | (simp [errW_none, errW_some] <;> rfl) | (simp [*, errW_none, errW_some] <;> rfl), by repeat (first | (with_reducible first | exact HB.out | apply below_alloc | apply pw_below_drewN | apply below_drew1 | refine below_set ?_ GE254.out | refine below_set ?_ GE262.out) | exact HB.out)⟩
                              · rw [if_neg c65] at H
                                exact absurd H (by simp)
                            · rw [if_neg c64] at H
                              exact absurd H (by simp)
                          · rw [if_neg c63] at H
                            have c63b0 : ((t275.length : Int) == (wrap64 ((t257.length : Int) + 1))) = false := beq_eq_false_iff_ne.mpr c63
                            have c63b1 : ((t275.length : Int) != (wrap64 ((t257.length : Int) + 1))) = true := bne_iff_ne.mpr c63
                            obtain rfl := Option.some.inj H
                            obtain ⟨Ao75, co75, eo75⟩ := Kd.R_slice HO_11.out
                            subst eo75
                            obtain ⟨Ao76, co76, eo76⟩ := Kd.R_slice HO_7.out
                            subst eo76
                            go_wp2
                            go_ret
                            exact ⟨by first | rfl | (simp [errW_none, errW_some] <;> rfl) | (simp [*, errW_none, errW_some] <;> rfl), by repeat (first | (with_reducible first | exact HB.out | apply below_alloc | apply pw_below_drewN | apply below_drew1 | refine below_set ?_ GE254.out | refine below_set ?_ GE262.out) | exact HB.out)⟩
                        · rw [if_neg c62] at H
                          have c62b0 : (t260 == t278) = false := beq_eq_false_iff_ne.mpr c62
                          have c62b1 : (t260 != t278) = true := bne_iff_ne.mpr c62
                          obtain rfl := Option.some.inj H
                          go_wp2
                          go_ret
                          exact ⟨by first | rfl | (simp [errW_none, errW_some] <;> rfl) | (simp [*, errW_none, errW_some] <;> rfl), by repeat (first | (with_reducible first | exact HB.out | apply below_alloc | apply pw_below_drewN | apply below_drew1 | refine below_set ?_ GE254.out | refine below_set ?_ GE262.out) | exact HB.out)⟩
                      · rw [if_neg c61] at H
                        have c61b0 : (t261 == 0) = false := beq_eq_false_iff_ne.mpr c61
                        have c61b1 : (t261 != 0) = true := bne_iff_ne.mpr c61
                        obtain rfl := Option.some.inj H
                        go_wp2
                        go_ret
                        exact ⟨by first | rfl | (simp [errW_none, errW_some] <;> rfl) | (simp [*, errW_none, errW_some] <;> rfl), by repeat (first | (with_reducible first | exact HB.out | apply below_alloc | apply pw_below_drewN | apply below_drew1 | refine below_set ?_ GE254.out | refine below_set ?_ GE262.out) | exact HB.out)⟩
                    · rw [if_neg c60] at H
                      have c60b0 : (t261 == t279) = false := beq_eq_false_iff_ne.mpr c60
                      have c60b1 : (t261 != t279) = true := bne_iff_ne.mpr c60
                      obtain rfl := Option.some.inj H
                      go_wp2
                      go_ret
                      exact ⟨by first | rfl | (simp [errW_none, errW_some] <;> rfl) | (simp [*, errW_none, errW_some] <;> rfl), by repeat (first | (with_reducible first | exact HB.out | apply below_alloc | apply pw_below_drewN | apply below_drew1 | refine below_set ?_ GE254.out | refine below_set ?_ GE262.out) | exact HB.out)⟩
            · rw [if_neg c35] at H
              exact absurd H (by simp)
          · rw [if_neg c34] at H
            exact absurd H (by simp)
  · replace c5 := Bool.eq_false_iff.mpr c5
    subst c5
    have H1 : (some false) = some r := by rw [if_neg (show ¬ (false = true) by decide)] at H; exact H
    clear H
    have H := H1
    clear H1
    obtain rfl := Option.some.inj H
    go_enter Try.func12, Try.ntmps12
    go_wp2_with (first | ((with_reducible refine gate_dst (N := 3) rfl ?_); (try (refine gate_guard (by rfl) ?_; dsimp only)); refine box_event ?hg (N := 3) ?hd (cs := #[.int .i64 a0_0, .slice A0_1 l0_1.length c0_1, .int .i64 a0_2]) (t := 24) ?hr ?_; (case hd => rfl); (case hg => rfl); (case hr => first | (go_simp; done) | (go_simp; rfl)); intro gb254 hg w77 hbox hb; have n0_ := Aside0.mk (below_step (by repeat (first | (with_reducible first | exact HB.out | apply below_alloc | apply pw_below_drewN | apply below_drew1) | exact HB.out)) hb); have n1_ := Aside0.mk (hbox); have n2_ := Aside0.mk ((by rw [hg]; exact (below_size (by repeat (first | (with_reducible first | exact HB.out | apply below_alloc | apply pw_below_drewN | apply below_drew1) | exact HB.out))) : w.heap.size ≤ gb254)); have n3_ := Aside0.mk ((by rw [hg]; exact (below_size (by repeat (first | (with_reducible first | exact HB.out | apply below_alloc | apply pw_below_drewN | apply below_drew1) | exact HB.out))) : w.heap.size ≤ gb254)); clear HB; have HB := n0_; have BK254 := n1_; have GW254 := n2_; have GE254 := n3_; clear n0_ n1_ n2_ n3_; clear hb hbox hg) | ((with_reducible refine gate_callee (f := 13) rfl ?_); refine goesL_ (some 14) rfl rfl Try.func13 (by kernel_rfl) rfl #[] rfl (by (try simp only [List.map_toArray, List.map_cons, List.map_nil]); first | done | rfl | (simp only [List.length_drop, List.length_take]; rfl)) ?_; (with_reducible refine (pentaglotlaw28_awake.calls k  false _ A4.out).mono ?_); rintro e w78 ⟨rfl, hb⟩; refine ⟨_, rfl, ?_⟩; have n0_ := Aside0.mk (blk_below (g := gb254) (o := .cells #[.int .i64 a0_0, .slice A0_1 l0_1.length c0_1, .int .i64 a0_2] 24 (0, 0)) (by (with_reducible repeat (first | refine blk_drewN ?_ _ | refine blk_drew ?_ | refine blk_alloc ?_ _)); exact BK254.out) hb); have n1_ := Aside0.mk (below_step (by repeat (first | (with_reducible first | exact HB.out | apply below_alloc | apply pw_below_drewN | apply below_drew1 | refine below_set ?_ GE254.out) | exact HB.out)) hb); clear BK254; clear HB; have BK254 := n0_; have HB := n1_; clear n0_ n1_; (try clear hb); (try clear hb2); (try clear hk); (try clear hi)))
    go_ret
    exact ⟨by first | rfl | (simp [errW_none, errW_some] <;> rfl) | (simp [*, errW_none, errW_some] <;> rfl), by repeat (first | (with_reducible first | exact HB.out | apply below_alloc | apply pw_below_drewN | apply below_drew1 | refine below_set ?_ GE254.out) | exact HB.out)⟩

/-- THE ONE PURE STATEMENT of pentaglotlaw28_SatIrrelevant. -/
def pentaglotlaw28_SatIrrelevant.Pure : Prop := ∀ (p0 : S24) (p1 : List Int) (p2 : Int), wf24 p0 → (∀ a ∈ p1, (Lit.int .i64 a).wf = true) → (Lit.int .i64 p2).wf = true → p1.length ≤ 9223372036854775807 → ∃ k, pentaglotlaw28_SatIrrelevant.f k p0.f0 p0.f1 p0.f2 p1 p2 = some true


end Go.Proofs.Ytflknolnclnhfaa.P
