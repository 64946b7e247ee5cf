-- Written by the session's own program wip/tools/xprint.py out of the translation, with the kit's print.py on a scratch copy; functions given by hand stand among them.
import Derived.Test.YtolpckflofjfhaaDoorPx0
import Derived.Test.YtolpckflofjfhaaDoorPx21
namespace Go.Proofs.YtolpckflofjfhaaDoor.P
open Go.RowKit Go.Proofs.YtolpckflofjfhaaDoorW.PrintWords Go.Proofs.YtolpckflofjfhaaDoorW.PrintLast Go.Proofs.YtolpckflofjfhaaDoorW.PrintMore
attribute [local go_sem] max2_int min2_int max_two min_two max_three min_three max_four min_four   -- for this text's walks alone
set_option linter.unusedVariables false
set_option linter.unusedSimpArgs false

/-! ### pentaglotref26_Interval: function 23 -/
mutual
def pentaglotref26_Interval.j0 : Nat → Int → Int → Int → List (S73) → List Int → Int → Option (List Int × Bool)
 | 0, _, _, _, _, _, _ => none
 | k + 1, x2, x8, x9, x249000, x249001, x249002 => if x2 = (-1) then (pentaglotref26_Interval.j1 k x8 x9) else ((pentaglotref26_place.f k x249000 x249001 x249002 x2).bind fun t251 => (pentaglotref26_Interval.j1 k x8 t251))
def pentaglotref26_Interval.j1 : Nat → Int → Int → Option (List Int × Bool)
 | 0, _, _ => none
 | k + 1, x8, x9 => if x8 < 0 then (pentaglotref26_Interval.j2 k x8 x9 true) else (pentaglotref26_Interval.j2 k x8 x9 (decide (x9 < 0)))
def pentaglotref26_Interval.j2 : Nat → Int → Int → Bool → Option (List Int × Bool)
 | 0, _, _, _ => none
 | k + 1, x8, x9, x30 => if x30 = true then (some (([] : List Int), false)) else (pentaglotref26_Interval.l0 k x9 (([] : List Int)) x8)
def pentaglotref26_Interval.l0 : Nat → Int → List Int → Int → Option (List Int × Bool)
 | 0, _, _, _ => none
 | k + 1, x9, x10, x11 => if x11 < x9 then (if x10.length < 17592186044416 then (pentaglotref26_Interval.l0 k x9 (x10 ++ [x11]) (wrap64 (x11 + 1))) else (none)) else (some (x10, true))
end
def pentaglotref26_Interval.f (k : Nat) (l0_0 : List (S73)) (l0_1 : List Int) (a0_2 : Int) (a1 : Int) (a2 : Int) : Option (List Int × Bool) := (pentaglotref26_Last.f l0_0 l0_1 a0_2).bind fun t249 => (if a1 = (-1) then (pentaglotref26_Interval.j0 k a2 0 (wrap64 (t249 + 1)) l0_0 l0_1 a0_2) else ((pentaglotref26_place.f k l0_0 l0_1 a0_2 a1).bind fun t250 => (pentaglotref26_Interval.j0 k a2 t250 (wrap64 (t249 + 1)) l0_0 l0_1 a0_2)))
theorem pentaglotref26_Interval.mono_l : ∀ k, (∀ y0 y1 y2 y3 y4 y5, LeO (pentaglotref26_Interval.j0 k y0 y1 y2 y3 y4 y5) (pentaglotref26_Interval.j0 (k + 1) y0 y1 y2 y3 y4 y5)) ∧ (∀ y0 y1, LeO (pentaglotref26_Interval.j1 k y0 y1) (pentaglotref26_Interval.j1 (k + 1) y0 y1)) ∧ (∀ y0 y1 y2, LeO (pentaglotref26_Interval.j2 k y0 y1 y2) (pentaglotref26_Interval.j2 (k + 1) y0 y1 y2)) ∧ (∀ y0 y1 y2, LeO (pentaglotref26_Interval.l0 k y0 y1 y2) (pentaglotref26_Interval.l0 (k + 1) y0 y1 y2))
 | 0 => ⟨fun _ _ _ _ _ _ r h => by simp [pentaglotref26_Interval.j0] at h, fun _ _ r h => by simp [pentaglotref26_Interval.j1] at h, fun _ _ _ r h => by simp [pentaglotref26_Interval.j2] at h, fun _ _ _ r h => by simp [pentaglotref26_Interval.l0] at h⟩
 | k + 1 => by
  obtain ⟨ih0, ih1, ih2, ih3⟩ := pentaglotref26_Interval.mono_l k
  refine ⟨?_, ?_, ?_, ?_⟩
  ·intro y0 y1 y2 y3 y4 y5
   unfold pentaglotref26_Interval.j0
   repeat' first
   | (with_reducible exact ih0 _ _ _ _ _ _)
   | (with_reducible exact ih1 _ _)
   | (with_reducible exact ih2 _ _ _)
   | (with_reducible exact ih3 _ _ _)
   | (with_reducible exact pentaglotref26_place.mono _ _ _ _ _)
   | (with_reducible exact LeO.refl _)
   | (with_reducible exact LeO.none _)
   | (with_reducible refine LeO.ite ?_ ?_)
   | (with_reducible refine LeO.bind ?_ (fun _ => ?_))
   | exact ih0 _ _ _ _ _ _
   | exact ih1 _ _
   | exact ih2 _ _ _
   | exact ih3 _ _ _
   | exact pentaglotref26_place.mono _ _ _ _ _
   | exact LeO.none _
   | refine LeO.ite ?_ ?_
   | refine LeO.bind ?_ (fun _ => ?_)
  ·intro y0 y1
   unfold pentaglotref26_Interval.j1
   repeat' first
   | (with_reducible exact ih0 _ _ _ _ _ _)
   | (with_reducible exact ih1 _ _)
   | (with_reducible exact ih2 _ _ _)
   | (with_reducible exact ih3 _ _ _)
   | (with_reducible exact pentaglotref26_place.mono _ _ _ _ _)
   | (with_reducible exact LeO.refl _)
   | (with_reducible exact LeO.none _)
   | (with_reducible refine LeO.ite ?_ ?_)
   | (with_reducible refine LeO.bind ?_ (fun _ => ?_))
   | exact ih0 _ _ _ _ _ _
   | exact ih1 _ _
   | exact ih2 _ _ _
   | exact ih3 _ _ _
   | exact pentaglotref26_place.mono _ _ _ _ _
   | exact LeO.none _
   | refine LeO.ite ?_ ?_
   | refine LeO.bind ?_ (fun _ => ?_)
  ·intro y0 y1 y2
   unfold pentaglotref26_Interval.j2
   repeat' first
   | (with_reducible exact ih0 _ _ _ _ _ _)
   | (with_reducible exact ih1 _ _)
   | (with_reducible exact ih2 _ _ _)
   | (with_reducible exact ih3 _ _ _)
   | (with_reducible exact pentaglotref26_place.mono _ _ _ _ _)
   | (with_reducible exact LeO.refl _)
   | (with_reducible exact LeO.none _)
   | (with_reducible refine LeO.ite ?_ ?_)
   | (with_reducible refine LeO.bind ?_ (fun _ => ?_))
   | exact ih0 _ _ _ _ _ _
   | exact ih1 _ _
   | exact ih2 _ _ _
   | exact ih3 _ _ _
   | exact pentaglotref26_place.mono _ _ _ _ _
   | exact LeO.none _
   | refine LeO.ite ?_ ?_
   | refine LeO.bind ?_ (fun _ => ?_)
  ·intro y0 y1 y2
   unfold pentaglotref26_Interval.l0
   repeat' first
   | (with_reducible exact ih0 _ _ _ _ _ _)
   | (with_reducible exact ih1 _ _)
   | (with_reducible exact ih2 _ _ _)
   | (with_reducible exact ih3 _ _ _)
   | (with_reducible exact pentaglotref26_place.mono _ _ _ _ _)
   | (with_reducible exact LeO.refl _)
   | (with_reducible exact LeO.none _)
   | (with_reducible refine LeO.ite ?_ ?_)
   | (with_reducible refine LeO.bind ?_ (fun _ => ?_))
   | exact ih0 _ _ _ _ _ _
   | exact ih1 _ _
   | exact ih2 _ _ _
   | exact ih3 _ _ _
   | exact pentaglotref26_place.mono _ _ _ _ _
   | exact LeO.none _
   | refine LeO.ite ?_ ?_
   | refine LeO.bind ?_ (fun _ => ?_)
theorem pentaglotref26_Interval.mono : ∀ a0 a1 a2 a3 a4 k, LeO (pentaglotref26_Interval.f k a0 a1 a2 a3 a4) (pentaglotref26_Interval.f (k + 1) a0 a1 a2 a3 a4) := by
 intro a0 a1 a2 a3 a4 k
 obtain ⟨ih0, ih1, ih2, ih3⟩ := pentaglotref26_Interval.mono_l k
 unfold pentaglotref26_Interval.f
 repeat' first
   | (with_reducible exact ih0 _ _ _ _ _ _)
   | (with_reducible exact ih1 _ _)
   | (with_reducible exact ih2 _ _ _)
   | (with_reducible exact ih3 _ _ _)
   | (with_reducible exact pentaglotref26_place.mono _ _ _ _ _)
   | (with_reducible exact LeO.refl _)
   | (with_reducible exact LeO.none _)
   | (with_reducible refine LeO.ite ?_ ?_)
   | (with_reducible refine LeO.bind ?_ (fun _ => ?_))
   | exact ih0 _ _ _ _ _ _
   | exact ih1 _ _
   | exact ih2 _ _ _
   | exact ih3 _ _ _
   | exact pentaglotref26_place.mono _ _ _ _ _
   | exact LeO.none _
   | refine LeO.ite ?_ ?_
   | refine LeO.bind ?_ (fun _ => ?_)
set_option maxHeartbeats 8000000 in
set_option maxRecDepth 100000 in
theorem pentaglotref26_Interval.calls (k : Nat) (A0_0 : Option Addr) (c0_0 : Nat) (l0_0 : List (S73)) (A0_1 : Option Addr) (c0_1 : Nat) (l0_1 : List Int) (a0_2 : Int) (a1 : Int) (a2 : Int) (r1 : List Int) (r2 : Bool) (w : World) (hr0_0 : Kd.C k73 w A0_0 l0_0.length l0_0) (hc0_0 : l0_0.length ≤ c0_0) (hr0_1 : Kd.C (Kd.int .i64) w A0_1 l0_1.length l0_1) (hc0_1 : l0_1.length ≤ c0_1) (h : pentaglotref26_Interval.f k l0_0 l0_1 a0_2 a1 a2 = some (r1, r2)) :
  Calls Tryd.prog 23 #[.agg #[.slice A0_0 l0_0.length c0_0, .slice A0_1 l0_1.length c0_1, .int .i64 a0_2], .int .i64 a1, .int .i64 a2] w fun e w' => ∃ v0_ : Value, e = .returned (.tuple #[v0_, .bool r2]) ∧ Kd.R (Kd.int .i64) 3 w' w.heap.size (fun _ => True) v0_ r1 ∧ Below w.heap.size w w' := by
 have hu25 := Tryd.underlying25
 have HR0_0 := Aside0.mk hr0_0
 have HC0_0 := Aside0.mk hc0_0
 clear hr0_0 hc0_0
 have HR0_1 := Aside0.mk hr0_1
 have HC0_1 := Aside0.mk hc0_1
 clear hr0_1 hc0_1
 have HB := Aside0.mk (Below.refl w.heap.size w)
 have H : ((pentaglotref26_Last.f l0_0 l0_1 a0_2).bind fun t249 => (if a1 = (-1) then (pentaglotref26_Interval.j0 k a2 0 (wrap64 (t249 + 1)) l0_0 l0_1 a0_2) else ((pentaglotref26_place.f k l0_0 l0_1 a0_2 a1).bind fun t250 => (pentaglotref26_Interval.j0 k a2 t250 (wrap64 (t249 + 1)) l0_0 l0_1 a0_2)))) = some (r1, r2) := h
 clear h
 replace H := Option.bind_eq_some_iff.mp H
 obtain ⟨t249, A40, H⟩ := H
 replace H : (if a1 = (-1) then (pentaglotref26_Interval.j0 k a2 0 (wrap64 (t249 + 1)) l0_0 l0_1 a0_2) else ((pentaglotref26_place.f k l0_0 l0_1 a0_2 a1).bind fun t250 => (pentaglotref26_Interval.j0 k a2 t250 (wrap64 (t249 + 1)) l0_0 l0_1 a0_2))) = some (r1, r2) := H
 have A4 := Aside0.mk A40
 clear A40
 have HC5 := Aside0.mk H
 clear H
 go_enter Tryd.func23, Tryd.ntmps23
 go_upto_if 16 with (first | ((with_reducible refine gate_dst (N := 3) rfl ?_); refine box_event ?hg (N := 3) ?hd (cs := #[.slice A0_0 l0_0.length c0_0, .slice A0_1 l0_1.length c0_1, .int .i64 a0_2]) (t := 25) ?hr ?_; (case hd => rfl); (case hg => rfl); (case hr => first | (go_simp; done) | (go_simp; rfl)); intro gb248 hg w6 hbox hb; have n0_ := Aside0.mk (below_step (be_ HB) hb); have n1_ := Aside0.mk (hbox); have n2_ := Aside0.mk ((by rw [hg]; exact (below_size (be_ HB)) : w.heap.size ≤ gb248)); have n3_ := Aside0.mk ((by rw [hg]; exact (below_size (be_ HB)) : w.heap.size ≤ gb248)); clear HB; have HB := n0_; have BK248 := n1_; have GW248 := n2_; have GE248 := n3_; clear n0_ n1_ n2_ n3_; clear hb hbox hg; have hcz7_0 : w6.cell? ⟨gb248, 0, none⟩ = some (.slice A0_0 l0_0.length c0_0) := (blk_cell BK248.out 0).trans rfl; have hcz7_1 : w6.cell? ⟨gb248, 1, none⟩ = some (.slice A0_1 l0_1.length c0_1) := (blk_cell BK248.out 1).trans rfl; have hcz7_2 : w6.cell? ⟨gb248, 2, none⟩ = some (.int .i64 a0_2) := (blk_cell BK248.out 2).trans rfl; have hfz7_0 := blk_frozen BK248.out 0; have hfz7_1 := blk_frozen BK248.out 1; have hfz7_2 := blk_frozen BK248.out 2) | ((with_reducible refine gate_callee (f := 19) rfl ?_); refine goesL_ (some 13) rfl rfl Tryd.func19 (by kernel_rfl) rfl #[.agg #[.slice A0_0 l0_0.length c0_0, .slice A0_1 l0_1.length c0_1, .int .i64 a0_2]] rfl (by (try simp only [List.map_toArray, List.map_cons, List.map_nil]); first | done | rfl | (simp only [List.length_drop, List.length_take]; rfl)) ?_; (with_reducible refine (pentaglotref26_Last.calls _ _ l0_0 _ _ l0_1 a0_2 t249 _ ?side1 ?side2 ?side3 ?side4 A4.out).mono ?_); (case side1 => exact cs_ (Kd.C_below HR0_0.out HB.out)); (case side2 => exact HC0_0.out); (case side3 => exact cs_ (Kd.C_below HR0_1.out HB.out)); (case side4 => exact HC0_1.out); rintro e w8 ⟨rfl, hb⟩; refine ⟨_, rfl, ?_⟩; have n0_ := Aside0.mk (blk_below (g := gb248) (o := .cells #[.slice A0_0 l0_0.length c0_0, .slice A0_1 l0_1.length c0_1, .int .i64 a0_2] 25 (0, 0)) (bq_ BK248) hb); have n1_ := Aside0.mk (below_step (be1_ HB GE248) hb); clear BK248; clear HB; have BK248 := n0_; have HB := n1_; clear n0_ n1_; (try clear hb); (try clear hb2); (try clear hk); (try clear hi)))
 (try simp only [Act.put, List.setIfInBounds_toArray, List.set_cons_zero, List.set_cons_succ])
 go_cut [8] (fun v8 wc => ∃ (kq : Nat) (x8_4 : Int), v8 = .int .i64 x8_4 ∧ Aside0 (pentaglotref26_Interval.j0 kq a2 x8_4 (wrap64 (t249 + 1)) l0_0 l0_1 a0_2 = some (r1, r2)) ∧ Aside0 (kq ≤ k) ∧ Aside0 (wc.heap[gb248]? = some (.cells #[(.slice A0_0 l0_0.length c0_0), (.slice A0_1 l0_1.length c0_1), .int .i64 a0_2] 25 (0, 0))) ∧ Aside0 (Below w.heap.size w wc))
 case first =>
  have H := HC5.out
  clear HC5
  by_cases c9 : a1 = (-1)
  ·rw [if_pos c9] at H
   have c9b0 : (a1 == (-1)) = true := beq_iff_eq.mpr c9
   have c9b1 : (a1 != (-1)) = false := bne_eq_false_iff_eq.mpr c9
   clear c9
   (first | rw [c9b0] | (simp only [i64_w, i32_w]; rw [c9b0]) | skip)
   have H' := Aside0.mk H
   clear H
   go_wp2
   go_meet
   case rel => exact ⟨_, (0), fi_, H', ⟨by first | omega | exact Nat.le_refl _⟩, ⟨bq_ BK248⟩, ⟨be1_ HB GE248⟩⟩
  ·rw [if_neg c9] at H
   have c9b0 : (a1 == (-1)) = false := beq_eq_false_iff_ne.mpr c9
   have c9b1 : (a1 != (-1)) = true := bne_iff_ne.mpr c9
   (first | rw [c9b0] | (simp only [i64_w, i32_w]; rw [c9b0]) | skip)
   replace H := Option.bind_eq_some_iff.mp H
   obtain ⟨t250, A100, H⟩ := H
   replace H : (pentaglotref26_Interval.j0 k a2 t250 (wrap64 (t249 + 1)) l0_0 l0_1 a0_2) = some (r1, r2) := H
   have A10 := Aside0.mk A100
   clear A100
   have H' := Aside0.mk H
   clear H
   have hcz11_0 : w8.cell? ⟨gb248, 0, none⟩ = some (.slice A0_0 l0_0.length c0_0) := (blk_cell BK248.out 0).trans rfl
   have hcz11_1 : w8.cell? ⟨gb248, 1, none⟩ = some (.slice A0_1 l0_1.length c0_1) := (blk_cell BK248.out 1).trans rfl
   have hcz11_2 : w8.cell? ⟨gb248, 2, none⟩ = some (.int .i64 a0_2) := (blk_cell BK248.out 2).trans rfl
   have hfz11_0 := blk_frozen BK248.out 0
   have hfz11_1 := blk_frozen BK248.out 1
   have hfz11_2 := blk_frozen BK248.out 2
   go_wp2_with (first | ((with_reducible refine gate_callee (f := 46) rfl ?_); refine goesL_ (some 19) rfl rfl Tryd.func46 (by kernel_rfl) rfl #[.agg #[.slice A0_0 l0_0.length c0_0, .slice A0_1 l0_1.length c0_1, .int .i64 a0_2], .int .i64 a1] rfl (by (try simp only [List.map_toArray, List.map_cons, List.map_nil]); first | done | rfl | (simp only [List.length_drop, List.length_take]; rfl)) ?_; (with_reducible refine (pentaglotref26_place.calls k _ _ l0_0 _ _ l0_1 a0_2 a1 t250 _ ?side1 ?side2 ?side3 ?side4 A10.out).mono ?_); (case side1 => exact cs_ (Kd.C_below HR0_0.out HB.out)); (case side2 => exact HC0_0.out); (case side3 => exact cs_ (Kd.C_below HR0_1.out HB.out)); (case side4 => exact HC0_1.out); rintro e w12 ⟨rfl, hb⟩; refine ⟨_, rfl, ?_⟩; have n0_ := Aside0.mk (blk_below (g := gb248) (o := .cells #[.slice A0_0 l0_0.length c0_0, .slice A0_1 l0_1.length c0_1, .int .i64 a0_2] 25 (0, 0)) (bq_ BK248) hb); have n1_ := Aside0.mk (below_step (be1_ HB GE248) hb); clear BK248; clear HB; have BK248 := n0_; have HB := n1_; clear n0_ n1_; (try clear hb); (try clear hb2); (try clear hk); (try clear hi)))
   go_meet
   case rel => exact ⟨_, (t250), fi_, H', ⟨by first | omega | exact Nat.le_refl _⟩, ⟨bq_ BK248⟩, ⟨be1_ HB GE248⟩⟩
 case rest =>
  clear HC5
  try clear c1
  try clear c2
  try clear p2
  try clear c4
  try clear p6
  try clear c9
  try clear c9b0
  try clear c9b1
  try clear hcz11_0
  try clear hcz11_1
  try clear hcz11_2
  try clear hcz7_0
  try clear hcz7_1
  try clear hcz7_2
  try clear hfz11_0
  try clear hfz11_1
  try clear hfz11_2
  try clear hfz7_0
  try clear hfz7_1
  try clear hfz7_2
  obtain ⟨kq, x8_4, rfl, HA, HJ4, BK248, HB⟩ := hcut
  cases kq with
  | zero => exact absurd HA.out (by simp [pentaglotref26_Interval.j0])
  | succ kj4 =>
   have H := HA.out
   clear HA
   simp only [pentaglotref26_Interval.j0] at H
   have HC13 := Aside0.mk H
   clear H
   go_upto_if 21 with (fail)
   go_cut [9] (fun v9 wc => ∃ (kq : Nat) (x9_12 : Int), v9 = .int .i64 x9_12 ∧ Aside0 (pentaglotref26_Interval.j1 kq x8_4 x9_12 = some (r1, r2)) ∧ Aside0 (kq ≤ kj4) ∧ Aside0 (wc.heap[gb248]? = some (.cells #[(.slice A0_0 l0_0.length c0_0), (.slice A0_1 l0_1.length c0_1), .int .i64 a0_2] 25 (0, 0))) ∧ Aside0 (Below w.heap.size w wc))
   case first =>
    have H := HC13.out
    clear HC13
    by_cases c14 : a2 = (-1)
    ·rw [if_pos c14] at H
     have c14b0 : (a2 == (-1)) = true := beq_iff_eq.mpr c14
     have c14b1 : (a2 != (-1)) = false := bne_eq_false_iff_eq.mpr c14
     clear c14
     (first | rw [c14b0] | (simp only [i64_w, i32_w]; rw [c14b0]) | skip)
     have H' := Aside0.mk H
     clear H
     go_wp2
     go_meet
     case rel => exact ⟨_, ((wrap64 (t249 + 1))), fi_, H', ⟨by have := HJ4.out; first | omega | exact Nat.le_refl _⟩, ⟨bq_ BK248⟩, ⟨be1_ HB GE248⟩⟩
    ·rw [if_neg c14] at H
     have c14b0 : (a2 == (-1)) = false := beq_eq_false_iff_ne.mpr c14
     have c14b1 : (a2 != (-1)) = true := bne_iff_ne.mpr c14
     (first | rw [c14b0] | (simp only [i64_w, i32_w]; rw [c14b0]) | skip)
     replace H := Option.bind_eq_some_iff.mp H
     obtain ⟨t251, A150, H⟩ := H
     replace H : (pentaglotref26_Interval.j1 kj4 x8_4 t251) = some (r1, r2) := H
     have A15 := Aside0.mk A150
     clear A150
     have H' := Aside0.mk H
     clear H
     have hcz16_0 : wc.cell? ⟨gb248, 0, none⟩ = some (.slice A0_0 l0_0.length c0_0) := (blk_cell BK248.out 0).trans rfl
     have hcz16_1 : wc.cell? ⟨gb248, 1, none⟩ = some (.slice A0_1 l0_1.length c0_1) := (blk_cell BK248.out 1).trans rfl
     have hcz16_2 : wc.cell? ⟨gb248, 2, none⟩ = some (.int .i64 a0_2) := (blk_cell BK248.out 2).trans rfl
     have hfz16_0 := blk_frozen BK248.out 0
     have hfz16_1 := blk_frozen BK248.out 1
     have hfz16_2 := blk_frozen BK248.out 2
     go_wp2_with (first | ((with_reducible refine gate_callee (f := 46) rfl ?_); refine goesL_ (some 24) rfl rfl Tryd.func46 (by kernel_rfl) rfl #[.agg #[.slice A0_0 l0_0.length c0_0, .slice A0_1 l0_1.length c0_1, .int .i64 a0_2], .int .i64 a2] rfl (by (try simp only [List.map_toArray, List.map_cons, List.map_nil]); first | done | rfl | (simp only [List.length_drop, List.length_take]; rfl)) ?_; (with_reducible refine (pentaglotref26_place.calls kj4 _ _ l0_0 _ _ l0_1 a0_2 a2 t251 _ ?side1 ?side2 ?side3 ?side4 A15.out).mono ?_); (case side1 => exact cs_ (Kd.C_below HR0_0.out HB.out)); (case side2 => exact HC0_0.out); (case side3 => exact cs_ (Kd.C_below HR0_1.out HB.out)); (case side4 => exact HC0_1.out); rintro e w17 ⟨rfl, hb⟩; refine ⟨_, rfl, ?_⟩; have n0_ := Aside0.mk (blk_below (g := gb248) (o := .cells #[.slice A0_0 l0_0.length c0_0, .slice A0_1 l0_1.length c0_1, .int .i64 a0_2] 25 (0, 0)) (bq_ BK248) hb); have n1_ := Aside0.mk (below_step (be1_ HB GE248) hb); clear BK248; clear HB; have BK248 := n0_; have HB := n1_; clear n0_ n1_; (try clear hb); (try clear hb2); (try clear hk); (try clear hi)))
     go_meet
     case rel => exact ⟨_, (t251), fi_, H', ⟨by have := HJ4.out; first | omega | exact Nat.le_refl _⟩, ⟨bq_ BK248⟩, ⟨be1_ HB GE248⟩⟩
   case rest =>
    clear HC13
    try clear c1
    try clear c2
    try clear p2
    try clear c4
    try clear p6
    try clear c9
    try clear c9b0
    try clear c9b1
    try clear c14
    try clear c14b0
    try clear c14b1
    try clear hcz11_0
    try clear hcz11_1
    try clear hcz11_2
    try clear hcz16_0
    try clear hcz16_1
    try clear hcz16_2
    try clear hcz7_0
    try clear hcz7_1
    try clear hcz7_2
    try clear hfz11_0
    try clear hfz11_1
    try clear hfz11_2
    try clear hfz16_0
    try clear hfz16_1
    try clear hfz16_2
    try clear hfz7_0
    try clear hfz7_1
    try clear hfz7_2
    try clear p2
    try clear p6
    obtain ⟨kq, x9_12, rfl, HA, HJ12, BK248, HB⟩ := hcut
    cases kq with
    | zero => exact absurd HA.out (by simp [pentaglotref26_Interval.j1])
    | succ kj12 =>
     have H := HA.out
     clear HA
     simp only [pentaglotref26_Interval.j1] at H
     have HC18 := Aside0.mk H
     clear H
     go_upto_region 6 with (fail)
     go_cut [30] (fun v30 wc => ∃ (kq : Nat) (x30_17 : Bool), v30 = .bool x30_17 ∧ Aside0 (pentaglotref26_Interval.j2 kq x8_4 x9_12 x30_17 = some (r1, r2)) ∧ Aside0 (kq ≤ kj12) ∧ Aside0 (wc.heap[gb248]? = some (.cells #[(.slice A0_0 l0_0.length c0_0), (.slice A0_1 l0_1.length c0_1), .int .i64 a0_2] 25 (0, 0))) ∧ Aside0 (Below w.heap.size w wc))
     case first =>
      have H := HC18.out
      clear HC18
      by_cases c19 : x8_4 < 0
      ·rw [if_pos c19] at H
       have c19b0 : decide (x8_4 < 0) = true := decide_eq_true c19
       clear c19
       (first | rw [c19b0] | (simp only [i64_w, i32_w]; rw [c19b0]) | skip)
       have H' := Aside0.mk H
       clear H
       go_wp2
       go_meet
       case rel => exact ⟨_, (true), fi_, H', ⟨by have := HJ4.out; have := HJ12.out; first | omega | exact Nat.le_refl _⟩, ⟨bq_ BK248⟩, ⟨be1_ HB GE248⟩⟩
      ·rw [if_neg c19] at H
       have c19b0 : decide (x8_4 < 0) = false := decide_eq_false c19
       clear c19
       (first | rw [c19b0] | (simp only [i64_w, i32_w]; rw [c19b0]) | skip)
       have H' := Aside0.mk H
       clear H
       go_wp2
       go_meet
       case rel => exact ⟨_, (decide (x9_12 < 0)), fi_, H', ⟨by have := HJ4.out; have := HJ12.out; first | omega | exact Nat.le_refl _⟩, ⟨bq_ BK248⟩, ⟨be1_ HB GE248⟩⟩
     case rest =>
      clear HC18
      try clear c1
      try clear c2
      try clear p2
      try clear c4
      try clear p6
      try clear c9
      try clear c9b0
      try clear c9b1
      try clear c14
      try clear c14b0
      try clear c14b1
      try clear c19
      try clear c19b0
      try clear hcz11_0
      try clear hcz11_1
      try clear hcz11_2
      try clear hcz16_0
      try clear hcz16_1
      try clear hcz16_2
      try clear hcz7_0
      try clear hcz7_1
      try clear hcz7_2
      try clear hfz11_0
      try clear hfz11_1
      try clear hfz11_2
      try clear hfz16_0
      try clear hfz16_1
      try clear hfz16_2
      try clear hfz7_0
      try clear hfz7_1
      try clear hfz7_2
      try clear p2
      try clear p6
      obtain ⟨kq, x30_17, rfl, HA, HJ17, BK248, HB⟩ := hcut
      cases kq with
      | zero => exact absurd HA.out (by simp [pentaglotref26_Interval.j2])
      | succ kj17 =>
       have H := HA.out
       clear HA
       simp only [pentaglotref26_Interval.j2] at H
       by_cases c20 : x30_17 = true
       ·subst c20
        have H1 : (some (([] : List Int), false)) = some (r1, r2) := by rw [if_pos rfl] at H; exact H
        clear H
        have H := H1
        clear H1
        simp only [Option.some.injEq, Prod.mk.injEq] at H
        obtain ⟨rfl, rfl⟩ := H
        go_wp2
        go_ret2
        exact ⟨_, er_, by first | exact Kd.R_nil _ _ _ _ _ | exact Kd.N_nil _ _ _ _ _ | exact Kd.V_nil _ _ _ _ _ | exact Kd.Q_nil _ _ _ _ _ | exact Kd.S_nil _ _ _ _ _, be1_ HB GE248⟩
       ·replace c20 := Bool.eq_false_iff.mpr c20
        subst c20
        have H1 : (pentaglotref26_Interval.l0 kj17 x9_12 (([] : List Int)) x8_4) = some (r1, r2) := by rw [if_neg (show ¬ (false = true) by decide)] at H; exact H
        clear H
        have H := H1
        clear H1
        obtain ⟨y252, hy252⟩ : ∃ y_ : List Int, y_ = (([] : List Int)) := ⟨_, rfl⟩
        replace H : (pentaglotref26_Interval.l0 kj17 x9_12 y252 x8_4) = some (r1, r2) := by first | (rw [hy252]; with_reducible exact H) | (have H2_ := (Option.bind_some _ _).symm.trans H; rw [hy252]; with_reducible exact H2_) | (have H2_ := (Option.bind_some _ _).symm.trans H; with_reducible exact H2_) | with_reducible exact H | (rw [hy252]; exact H) | exact H
        have Ny252 := Aside0.mk hy252
        clear hy252
        have H' := Aside0.mk H
        clear H
        go_wp2_with (first | ((with_reducible refine gate_dst (N := 31) rfl ?_); refine Kd.R_lit (Kd.int .i64) _ 3 ?hg (N := 31) ?hd (xs := ([] : List Int)) (inner := []) (ok := fun _ => True) (okp := fun _ => True) ?hr ?hp (fun _ hk => hk) trivial (Below.refl _ _) (Nat.le_refl _) (by simp) ?_; (case hd => rfl); (case hg => rfl); (case hr => first | (go_simp; done) | (go_simp; rfl)); (case hp => exact (Reps.none _ _)); intro v253 w21 ho22 hb hg_ hnew_; clear hg_ hnew_; (first | rw [← Ny252.out] at ho22 | (simp only [Int.reduceToNat] at ho22; rw [← Ny252.out] at ho22)); have n0_ := Aside0.mk (Kd.R_lower ho22 (below_size (be1_ HB GE248))); have n1_ := Aside0.mk (blk_below (g := gb248) (o := .cells #[.slice A0_0 l0_0.length c0_0, .slice A0_1 l0_1.length c0_1, .int .i64 a0_2] 25 (0, 0)) (bq_ BK248) hb); have n2_ := Aside0.mk (below_step (be1_ HB GE248) hb); clear BK248; clear HB; have HO254 := n0_; have BK248 := n1_; have HB := n2_; clear n0_ n1_ n2_; clear hb ho22))
        go_loopg [10, 11] kj17 (fun kq v10 v11 w' => ∃ (x10_4 : List Int) (x11_4 : Int), v11 = .int .i64 x11_4 ∧ Aside0 (pentaglotref26_Interval.l0 kq x9_12 x10_4 x11_4 = some (r1, r2)) ∧ Aside0 (kq ≤ kj17) ∧ Aside0 (Kd.R (Kd.int .i64) 3 w' w.heap.size (fun _ => True) v10 x10_4) ∧ Aside0 (w'.heap[gb248]? = some (.cells #[(.slice A0_0 l0_0.length c0_0), (.slice A0_1 l0_1.length c0_1), .int .i64 a0_2] 25 (0, 0))) ∧ Aside0 (Below w.heap.size w w'))
        case atStart => exact ⟨(y252), (x8_4), fi_, H', ⟨Nat.le_refl _⟩, ⟨rq_ HO254⟩, ⟨bq_ BK248⟩, ⟨be1_ HB GE248⟩⟩
        case round =>
         clear H'
         try clear c1
         try clear c2
         try clear p2
         try clear c4
         try clear p6
         try clear c9
         try clear c9b0
         try clear c9b1
         try clear c14
         try clear c14b0
         try clear c14b1
         try clear c19
         try clear c19b0
         try clear c20
         try clear hcz11_0
         try clear hcz11_1
         try clear hcz11_2
         try clear hcz16_0
         try clear hcz16_1
         try clear hcz16_2
         try clear hcz7_0
         try clear hcz7_1
         try clear hcz7_2
         try clear hfz11_0
         try clear hfz11_1
         try clear hfz11_2
         try clear hfz16_0
         try clear hfz16_1
         try clear hfz16_2
         try clear hfz7_0
         try clear hfz7_1
         try clear hfz7_2
         try clear p2
         try clear p6
         obtain ⟨x10_4, x11_4, rfl, HA, HK4, HO_10, BK248, HB⟩ := hrel
         cases gk with
         | zero => exact absurd HA.out (by simp [pentaglotref26_Interval.l0])
         | succ k4 =>
          have H := HA.out
          clear HA
          simp only [pentaglotref26_Interval.l0] at H
          by_cases c23 : x11_4 < x9_12
          ·rw [if_pos c23] at H
           have c23b0 : decide (x11_4 < x9_12) = true := decide_eq_true c23
           clear c23
           by_cases c24 : x10_4.length < 17592186044416
           ·rw [if_pos c24] at H
            have LMc24 := Aside0.mk c24
            clear c24
            obtain ⟨y255, hy255⟩ : ∃ y_ : List Int, y_ = (x10_4 ++ [x11_4]) := ⟨_, rfl⟩
            replace H : (pentaglotref26_Interval.l0 k4 x9_12 y255 (wrap64 (x11_4 + 1))) = some (r1, r2) := by first | (rw [hy255]; with_reducible exact H) | (have H2_ := (Option.bind_some _ _).symm.trans H; rw [hy255]; with_reducible exact H2_) | (have H2_ := (Option.bind_some _ _).symm.trans H; with_reducible exact H2_) | with_reducible exact H | (rw [hy255]; exact H) | exact H
            have Ny255 := Aside0.mk hy255
            clear hy255
            have H' := Aside0.mk H
            clear H
            go_wp2_with (first | ((with_reducible refine gate_builtin (b := .append) (xs := #[.tmp 38, .tmp 40]) rfl ?_); at_builtin; refine Kd.R_append (Kd.int .i64) (w0 := w) w.heap.size rfl (.tmp 38) (.tmp 40) 23 3 (.int .i64 0) 8 rfl Tryd.underlying23 info3 rfl (by decide) (by omega) u10 x10_4 x11_4 [.int .i64 x11_4] (fun _ => True) (fun _ => False) rfl rfl ?aP (fun _ hk => hk.elim) ?aF ?aO ?aB ?aS ?aL ?_; (case aP => exact rfl); (case aB => exact (be1_ HB GE248)); (case aF => exact (fun _ _ => trivial)); (case aO => exact (rq_ HO_10)); (case aS => exact (below_size (be1_ HB GE248))); (case aL => have := LMc24.out; omega); intro v256 w25 ho hb hg hat; rw [← Ny255.out] at ho; have n0_ := Aside0.mk (blk_grown (g := gb248) (o := .cells #[.slice A0_0 l0_0.length c0_0, .slice A0_1 l0_1.length c0_1, .int .i64 a0_2] 25 (0, 0)) (bq_ BK248) hg (Kd.R_ne HO_10.out BK248.out (by decide))); have n1_ := Aside0.mk (hb); have n2_ := Aside0.mk (ho); clear BK248; clear HB; clear HO_10; have BK248 := n0_; have HB := n1_; have HO257 := n2_; clear n0_ n1_ n2_; clear ho hb hg hat))
            go_roundg k4
            case measure => have := HJ4.out; have := HJ12.out; have := HJ17.out; have := HK4.out; omega
            case rel => exact ⟨(y255), (wrap64 (x11_4 + 1)), fi_, H', ⟨by have := HJ4.out; have := HJ12.out; have := HJ17.out; have := HK4.out; omega⟩, ⟨rq_ HO257⟩, ⟨bq_ BK248⟩, ⟨be1_ HB GE248⟩⟩
           ·rw [if_neg c24] at H
            exact absurd H (by simp)
          ·rw [if_neg c23] at H
           have c23b0 : decide (x11_4 < x9_12) = false := decide_eq_false c23
           clear c23
           simp only [Option.some.injEq, Prod.mk.injEq] at H
           obtain ⟨rfl, rfl⟩ := H
           go_wp2
           go_ret2
           exact ⟨_, er_, by (with_reducible repeat (first | apply Kd.R_alloc | apply Kd.R_drewN | apply Kd.R_drew)); exact HO_10.out, be1_ HB GE248⟩

end Go.Proofs.YtolpckflofjfhaaDoor.P
