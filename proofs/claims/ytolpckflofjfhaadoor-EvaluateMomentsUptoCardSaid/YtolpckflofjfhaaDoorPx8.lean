-- Written by the session's own program wip/tools/xprint.py out of the translation, with the kit's print.py on a scratch copy; functions given by hand stand among them.
import Derived.Test.YtolpckflofjfhaaDoorPx0
import Derived.Test.YtolpckflofjfhaaDoorPx7
namespace Go.Proofs.YtolpckflofjfhaaDoor.P
open Go.RowKit Go.Proofs.YtolpckflofjfhaaDoorW.PrintWords Go.Proofs.YtolpckflofjfhaaDoorW.PrintLast Go.Proofs.YtolpckflofjfhaaDoorW.PrintMore
attribute [local go_sem] max2_int min2_int max_two min_two max_three min_three max_four min_four   -- for this text's walks alone
set_option linter.unusedVariables false
set_option linter.unusedSimpArgs false

/-! ### evaluate_work: function 53 -/
mutual
def evaluate_work.j1 : Nat → Int → Bool → List (S73) → List Int → Int → Int → ByteArray → List (S92) → Int → Int → List (S32) → Option (Int × Bool)
 | 0, _, _, _, _, _, _, _, _, _, _, _ => none
 | k + 1, x6, x7, x152000, x152001, x152002, x153000, x153001, x153002, x153003, x153004, x153005 => evaluate_work.l0 k x6 x7 0 x153005 (x153005.length : Int) 0 x152000 x152001 x152002
def evaluate_work.l0 : Nat → Int → Bool → Int → List (S32) → Int → Int → List (S73) → List Int → Int → Option (Int × Bool)
 | 0, _, _, _, _, _, _, _, _, _ => none
 | k + 1, x6, x7, x11, x51, x52, x53, x152000, x152001, x152002 => if x53 < x52 then (if 0 ≤ x53 then (if x53 < (x51.length : Int) then ((evaluate_work.f k x152000 x152001 x152002 ((rd_T32 x51 x53).f0) ((rd_T32 x51 x53).f1) ((rd_T32 x51 x53).f2) ((rd_T32 x51 x53).f3) ((rd_T32 x51 x53).f4) ((rd_T32 x51 x53).f5)).bind fun bt162 => (if x7 = true then (evaluate_work.l0 k x6 bt162.2 (mn (wrap64 (x11 + bt162.1)) 1048577) x51 x52 (wrap64 (x53 + 1)) x152000 x152001 x152002) else (evaluate_work.l0 k x6 false (mn (wrap64 (x11 + bt162.1)) 1048577) x51 x52 (wrap64 (x53 + 1)) x152000 x152001 x152002))) else (none)) else (none)) else (some (mn (wrap64 (1 + (wrap64 (x11 * x6)))) 1048577, x7))
def evaluate_work.j0 : Nat → Int → Bool → Int → Bool → List (S73) → List Int → Int → Int → ByteArray → List (S92) → Int → Int → List (S32) → Option (Int × Bool)
 | 0, _, _, _, _, _, _, _, _, _, _, _, _, _ => none
 | k + 1, x6, x7, x17, x18, x152000, x152001, x152002, x153000, x153001, x153002, x153003, x153004, x153005 => if x18 = true then ((evaluate_individuals.f k x152000 x152001 x152002 x153001).bind fun bt153 => (evaluate_work.j1 k (bt153.1.length : Int) bt153.2 x152000 x152001 x152002 x153000 x153001 x153002 x153003 x153004 x153005)) else (if x17 = 10 then ((evaluate_interval.f k x152000 x152001 x152002 x153003 x153004).bind fun bt157 => (evaluate_work.j1 k (wrap64 (bt157.2.1 - bt157.1)) bt157.2.2 x152000 x152001 x152002 x153000 x153001 x153002 x153003 x153004 x153005)) else (if x17 = 11 then (evaluate_work.j1 k x152002 x7 x152000 x152001 x152002 x153000 x153001 x153002 x153003 x153004 x153005) else (if x17 = 12 then (evaluate_work.j1 k x152002 x7 x152000 x152001 x152002 x153000 x153001 x153002 x153003 x153004 x153005) else (evaluate_work.j1 k x6 x7 x152000 x152001 x152002 x153000 x153001 x153002 x153003 x153004 x153005))))
def evaluate_work.f : Nat → List (S73) → List Int → Int → Int → ByteArray → List (S92) → Int → Int → List (S32) → Option (Int × Bool)
 | 0, _, _, _, _, _, _, _, _, _ => none
 | k + 1, l0_0, l0_1, a0_2, a1_0, a1_1, l1_2, a1_3, a1_4, l1_5 => if a1_0 = 8 then (evaluate_work.j0 k 1 true a1_0 (a1_0 == 8) l0_0 l0_1 a0_2 a1_0 a1_1 l1_2 a1_3 a1_4 l1_5) else (evaluate_work.j0 k 1 true a1_0 (a1_0 == 9) l0_0 l0_1 a0_2 a1_0 a1_1 l1_2 a1_3 a1_4 l1_5)
end
theorem evaluate_work.mono_l : ∀ k, (∀ y0 y1 y2 y3 y4 y5 y6 y7 y8, LeO (evaluate_work.f k y0 y1 y2 y3 y4 y5 y6 y7 y8) (evaluate_work.f (k + 1) y0 y1 y2 y3 y4 y5 y6 y7 y8)) ∧ (∀ y0 y1 y2 y3 y4 y5 y6 y7 y8 y9 y10, LeO (evaluate_work.j1 k y0 y1 y2 y3 y4 y5 y6 y7 y8 y9 y10) (evaluate_work.j1 (k + 1) y0 y1 y2 y3 y4 y5 y6 y7 y8 y9 y10)) ∧ (∀ y0 y1 y2 y3 y4 y5 y6 y7 y8, LeO (evaluate_work.l0 k y0 y1 y2 y3 y4 y5 y6 y7 y8) (evaluate_work.l0 (k + 1) y0 y1 y2 y3 y4 y5 y6 y7 y8)) ∧ (∀ y0 y1 y2 y3 y4 y5 y6 y7 y8 y9 y10 y11 y12, LeO (evaluate_work.j0 k y0 y1 y2 y3 y4 y5 y6 y7 y8 y9 y10 y11 y12) (evaluate_work.j0 (k + 1) y0 y1 y2 y3 y4 y5 y6 y7 y8 y9 y10 y11 y12))
 | 0 => ⟨fun _ _ _ _ _ _ _ _ _ r h => by simp [evaluate_work.f] at h, fun _ _ _ _ _ _ _ _ _ _ _ r h => by simp [evaluate_work.j1] at h, fun _ _ _ _ _ _ _ _ _ r h => by simp [evaluate_work.l0] at h, fun _ _ _ _ _ _ _ _ _ _ _ _ _ r h => by simp [evaluate_work.j0] at h⟩
 | k + 1 => by
  obtain ⟨ih0, ih1, ih2, ih3⟩ := evaluate_work.mono_l k
  refine ⟨?_, ?_, ?_, ?_⟩
  ·intro y0 y1 y2 y3 y4 y5 y6 y7 y8
   unfold evaluate_work.f
   repeat' first
   | (with_reducible exact ih0 _ _ _ _ _ _ _ _ _)
   | (with_reducible exact ih1 _ _ _ _ _ _ _ _ _ _ _)
   | (with_reducible exact ih2 _ _ _ _ _ _ _ _ _)
   | (with_reducible exact ih3 _ _ _ _ _ _ _ _ _ _ _ _ _)
   | (with_reducible exact evaluate_individuals.mono _ _ _ _ _)
   | (with_reducible exact evaluate_interval.mono _ _ _ _ _ _)
   | (with_reducible exact LeO.refl _)
   | (with_reducible exact LeO.none _)
   | (with_reducible refine LeO.ite ?_ ?_)
   | (with_reducible refine LeO.bind ?_ (fun _ => ?_))
   | exact ih0 _ _ _ _ _ _ _ _ _
   | exact ih1 _ _ _ _ _ _ _ _ _ _ _
   | exact ih2 _ _ _ _ _ _ _ _ _
   | exact ih3 _ _ _ _ _ _ _ _ _ _ _ _ _
   | exact evaluate_individuals.mono _ _ _ _ _
   | exact evaluate_interval.mono _ _ _ _ _ _
   | exact LeO.none _
   | refine LeO.ite ?_ ?_
   | refine LeO.bind ?_ (fun _ => ?_)
  ·intro y0 y1 y2 y3 y4 y5 y6 y7 y8 y9 y10
   unfold evaluate_work.j1
   repeat' first
   | (with_reducible exact ih0 _ _ _ _ _ _ _ _ _)
   | (with_reducible exact ih1 _ _ _ _ _ _ _ _ _ _ _)
   | (with_reducible exact ih2 _ _ _ _ _ _ _ _ _)
   | (with_reducible exact ih3 _ _ _ _ _ _ _ _ _ _ _ _ _)
   | (with_reducible exact evaluate_individuals.mono _ _ _ _ _)
   | (with_reducible exact evaluate_interval.mono _ _ _ _ _ _)
   | (with_reducible exact LeO.refl _)
   | (with_reducible exact LeO.none _)
   | (with_reducible refine LeO.ite ?_ ?_)
   | (with_reducible refine LeO.bind ?_ (fun _ => ?_))
   | exact ih0 _ _ _ _ _ _ _ _ _
   | exact ih1 _ _ _ _ _ _ _ _ _ _ _
   | exact ih2 _ _ _ _ _ _ _ _ _
   | exact ih3 _ _ _ _ _ _ _ _ _ _ _ _ _
   | exact evaluate_individuals.mono _ _ _ _ _
   | exact evaluate_interval.mono _ _ _ _ _ _
   | exact LeO.none _
   | refine LeO.ite ?_ ?_
   | refine LeO.bind ?_ (fun _ => ?_)
  ·intro y0 y1 y2 y3 y4 y5 y6 y7 y8
   unfold evaluate_work.l0
   repeat' first
   | (with_reducible exact ih0 _ _ _ _ _ _ _ _ _)
   | (with_reducible exact ih1 _ _ _ _ _ _ _ _ _ _ _)
   | (with_reducible exact ih2 _ _ _ _ _ _ _ _ _)
   | (with_reducible exact ih3 _ _ _ _ _ _ _ _ _ _ _ _ _)
   | (with_reducible exact evaluate_individuals.mono _ _ _ _ _)
   | (with_reducible exact evaluate_interval.mono _ _ _ _ _ _)
   | (with_reducible exact LeO.refl _)
   | (with_reducible exact LeO.none _)
   | (with_reducible refine LeO.ite ?_ ?_)
   | (with_reducible refine LeO.bind ?_ (fun _ => ?_))
   | exact ih0 _ _ _ _ _ _ _ _ _
   | exact ih1 _ _ _ _ _ _ _ _ _ _ _
   | exact ih2 _ _ _ _ _ _ _ _ _
   | exact ih3 _ _ _ _ _ _ _ _ _ _ _ _ _
   | exact evaluate_individuals.mono _ _ _ _ _
   | exact evaluate_interval.mono _ _ _ _ _ _
   | exact LeO.none _
   | refine LeO.ite ?_ ?_
   | refine LeO.bind ?_ (fun _ => ?_)
  ·intro y0 y1 y2 y3 y4 y5 y6 y7 y8 y9 y10 y11 y12
   unfold evaluate_work.j0
   repeat' first
   | (with_reducible exact ih0 _ _ _ _ _ _ _ _ _)
   | (with_reducible exact ih1 _ _ _ _ _ _ _ _ _ _ _)
   | (with_reducible exact ih2 _ _ _ _ _ _ _ _ _)
   | (with_reducible exact ih3 _ _ _ _ _ _ _ _ _ _ _ _ _)
   | (with_reducible exact evaluate_individuals.mono _ _ _ _ _)
   | (with_reducible exact evaluate_interval.mono _ _ _ _ _ _)
   | (with_reducible exact LeO.refl _)
   | (with_reducible exact LeO.none _)
   | (with_reducible refine LeO.ite ?_ ?_)
   | (with_reducible refine LeO.bind ?_ (fun _ => ?_))
   | exact ih0 _ _ _ _ _ _ _ _ _
   | exact ih1 _ _ _ _ _ _ _ _ _ _ _
   | exact ih2 _ _ _ _ _ _ _ _ _
   | exact ih3 _ _ _ _ _ _ _ _ _ _ _ _ _
   | exact evaluate_individuals.mono _ _ _ _ _
   | exact evaluate_interval.mono _ _ _ _ _ _
   | exact LeO.none _
   | refine LeO.ite ?_ ?_
   | refine LeO.bind ?_ (fun _ => ?_)
theorem evaluate_work.mono : ∀ a0 a1 a2 a3 a4 a5 a6 a7 a8 k, LeO (evaluate_work.f k a0 a1 a2 a3 a4 a5 a6 a7 a8) (evaluate_work.f (k + 1) a0 a1 a2 a3 a4 a5 a6 a7 a8) := by
 intro a0 a1 a2 a3 a4 a5 a6 a7 a8 k
 obtain ⟨ih0, ih1, ih2, ih3⟩ := evaluate_work.mono_l k
 exact ih0 a0 a1 a2 a3 a4 a5 a6 a7 a8
set_option maxHeartbeats 8000000 in
set_option maxRecDepth 100000 in
theorem evaluate_work.calls (k : Nat) : ∀ (A0_0 : Option Addr) (c0_0 : Nat) (l0_0 : List (S73)) (A0_1 : Option Addr) (c0_1 : Nat) (l0_1 : List Int) (a0_2 : Int) (a1_0 : Int) (a1_1 : ByteArray) (A1_2 : Option Addr) (c1_2 : Nat) (l1_2 : List (S92)) (a1_3 : Int) (a1_4 : Int) (A1_5 : Option Addr) (c1_5 : Nat) (l1_5 : List (S32)) (r1 : Int) (r2 : Bool) (w : World) (hr0_0 : Kd.C k73 w A0_0 l0_0.length l0_0) (hc0_0 : l0_0.length ≤ c0_0) (hr0_1 : Kd.C (Kd.int .i64) w A0_1 l0_1.length l0_1) (hc0_1 : l0_1.length ≤ c0_1) (hr1_2 : Kd.C k92 w A1_2 l1_2.length l1_2) (hc1_2 : l1_2.length ≤ c1_2) (hr1_5 : Kd.C k32 w A1_5 l1_5.length l1_5) (hc1_5 : l1_5.length ≤ c1_5) (h : evaluate_work.f k l0_0 l0_1 a0_2 a1_0 a1_1 l1_2 a1_3 a1_4 l1_5 = some (r1, r2)),
  Calls Tryd.prog 53 #[.agg #[.slice A0_0 l0_0.length c0_0, .slice A0_1 l0_1.length c0_1, .int .i64 a0_2], .agg #[.int .i64 a1_0, .string a1_1, .slice A1_2 l1_2.length c1_2, .int .i64 a1_3, .int .i64 a1_4, .slice A1_5 l1_5.length c1_5]] w fun e w' => e = .returned (.tuple #[.int .i64 r1, .bool r2]) ∧ Below w.heap.size w w' := by
 induction k using Nat.strongRecOn with
 | _ k ih =>
 intro A0_0 c0_0 l0_0 A0_1 c0_1 l0_1 a0_2 a1_0 a1_1 A1_2 c1_2 l1_2 a1_3 a1_4 A1_5 c1_5 l1_5 r1 r2 w hr0_0 hc0_0 hr0_1 hc0_1 hr1_2 hc1_2 hr1_5 hc1_5 h
 cases k with
 | zero => exact absurd h (by simp [evaluate_work.f])
 | succ k =>
 simp only [evaluate_work.f] at h
 have hu25 := Tryd.underlying25
 have hu32 := Tryd.underlying32
 have HR0_0 := Aside0.mk hr0_0
 have HC0_0 := Aside0.mk hc0_0
 clear hr0_0 hc0_0
 have HR0_1 := Aside0.mk hr0_1
 have HC0_1 := Aside0.mk hc0_1
 clear hr0_1 hc0_1
 have HR1_2 := Aside0.mk hr1_2
 have HC1_2 := Aside0.mk hc1_2
 clear hr1_2 hc1_2
 have HR1_5 := Aside0.mk hr1_5
 have HC1_5 := Aside0.mk hc1_5
 clear hr1_5 hc1_5
 have HB := Aside0.mk (Below.refl w.heap.size w)
 have H : (if a1_0 = 8 then (evaluate_work.j0 k 1 true a1_0 (a1_0 == 8) l0_0 l0_1 a0_2 a1_0 a1_1 l1_2 a1_3 a1_4 l1_5) else (evaluate_work.j0 k 1 true a1_0 (a1_0 == 9) l0_0 l0_1 a0_2 a1_0 a1_1 l1_2 a1_3 a1_4 l1_5)) = some (r1, r2) := h
 clear h
 have HC3 := Aside0.mk H
 clear H
 go_enter Tryd.func53, Tryd.ntmps53
 go_upto_block 0 with (first | ((with_reducible refine gate_dst (N := 2) rfl ?_); refine box_event ?hg (N := 2) ?hd (cs := #[.slice A0_0 l0_0.length c0_0, .slice A0_1 l0_1.length c0_1, .int .i64 a0_2]) (t := 25) ?hr ?_; (case hd => rfl); (case hg => rfl); (case hr => first | (go_simp; done) | (go_simp; rfl)); intro gb151 hg w4 hbox hb; have n0_ := Aside0.mk (below_step (be_ HB) hb); have n1_ := Aside0.mk (hbox); have n2_ := Aside0.mk ((by rw [hg]; exact (below_size (be_ HB)) : w.heap.size ≤ gb151)); have n3_ := Aside0.mk ((by rw [hg]; exact (below_size (be_ HB)) : w.heap.size ≤ gb151)); clear HB; have HB := n0_; have BK151 := n1_; have GW151 := n2_; have GE151 := n3_; clear n0_ n1_ n2_ n3_; clear hb hbox hg) | ((with_reducible refine gate_dst (N := 3) rfl ?_); refine box_event ?hg (N := 3) ?hd (cs := #[.int .i64 a1_0, .string a1_1, .slice A1_2 l1_2.length c1_2, .int .i64 a1_3, .int .i64 a1_4, .slice A1_5 l1_5.length c1_5]) (t := 32) ?hr ?_; (case hd => rfl); (case hg => rfl); (case hr => first | (go_simp; done) | (go_simp; rfl)); intro gb152 hg w5 hbox hb; have n0_ := Aside0.mk (blk_below (g := gb151) (o := .cells #[.slice A0_0 l0_0.length c0_0, .slice A0_1 l0_1.length c0_1, .int .i64 a0_2] 25 (0, 0)) (bq_ BK151) hb); have n1_ := Aside0.mk (below_step (be1_ HB GE151) hb); have n2_ := Aside0.mk (hbox); have n3_ := Aside0.mk ((by rw [hg]; exact (below_size (be1_ HB GE151)) : w.heap.size ≤ gb152)); have n4_ := Aside0.mk ((by rw [hg]; exact (below_size (be1_ HB GE151)) : w.heap.size ≤ gb152)); have n5_ := Aside0.mk ((by rw [hg]; exact Nat.ne_of_lt (blk_lt (g := gb151) (o := .cells #[.slice A0_0 l0_0.length c0_0, .slice A0_1 l0_1.length c0_1, .int .i64 a0_2] 25 (0, 0)) (bq_ BK151)) : gb151 ≠ gb152)); have n6_ := Aside0.mk ((by rw [hg]; exact Nat.ne_of_gt (blk_lt (g := gb151) (o := .cells #[.slice A0_0 l0_0.length c0_0, .slice A0_1 l0_1.length c0_1, .int .i64 a0_2] 25 (0, 0)) (bq_ BK151)) : gb152 ≠ gb151)); clear BK151; clear HB; have BK151 := n0_; have HB := n1_; have BK152 := n2_; have GW152 := n3_; have GE152 := n4_; have NB151_152 := n5_; have NB152_151 := n6_; clear n0_ n1_ n2_ n3_ n4_ n5_ n6_; clear hb hbox hg; have hnb6 := NB152_151.out; have hnc6 := NB151_152.out; have hcz7_0 : w5.cell? ⟨gb152, 0, none⟩ = some (.int .i64 a1_0) := (blk_cell BK152.out 0).trans rfl; have hcz7_1 : w5.cell? ⟨gb152, 1, none⟩ = some (.string a1_1) := (blk_cell BK152.out 1).trans rfl; have hcz7_2 : w5.cell? ⟨gb152, 2, none⟩ = some (.slice A1_2 l1_2.length c1_2) := (blk_cell BK152.out 2).trans rfl; have hcz7_3 : w5.cell? ⟨gb152, 3, none⟩ = some (.int .i64 a1_3) := (blk_cell BK152.out 3).trans rfl; have hcz7_4 : w5.cell? ⟨gb152, 4, none⟩ = some (.int .i64 a1_4) := (blk_cell BK152.out 4).trans rfl; have hcz7_5 : w5.cell? ⟨gb152, 5, none⟩ = some (.slice A1_5 l1_5.length c1_5) := (blk_cell BK152.out 5).trans rfl; have hfz7_0 := blk_frozen BK152.out 0; have hfz7_1 := blk_frozen BK152.out 1; have hfz7_2 := blk_frozen BK152.out 2; have hfz7_3 := blk_frozen BK152.out 3; have hfz7_4 := blk_frozen BK152.out 4; have hfz7_5 := blk_frozen BK152.out 5))
 (try simp only [Act.put, List.setIfInBounds_toArray, List.set_cons_zero, List.set_cons_succ])
 go_cut [6, 7] (fun v6 v7 wc => ∃ (kq : Nat) (x6_2 : Int) (x7_2 : Bool), v6 = .int .i64 x6_2 ∧ v7 = .bool x7_2 ∧ Aside0 (evaluate_work.j1 kq x6_2 x7_2 l0_0 l0_1 a0_2 a1_0 a1_1 l1_2 a1_3 a1_4 l1_5 = some (r1, r2)) ∧ Aside0 (kq ≤ k) ∧ Aside0 (wc.heap[gb151]? = some (.cells #[(.slice A0_0 l0_0.length c0_0), (.slice A0_1 l0_1.length c0_1), .int .i64 a0_2] 25 (0, 0))) ∧ Aside0 (wc.heap[gb152]? = some (.cells #[.int .i64 a1_0, .string a1_1, (.slice A1_2 l1_2.length c1_2), .int .i64 a1_3, .int .i64 a1_4, (.slice A1_5 l1_5.length c1_5)] 32 (0, 0))) ∧ Aside0 (Below w.heap.size w wc))
 case first =>
  have H := HC3.out
  clear HC3
  have HC8 := Aside0.mk H
  clear H
  go_upto_if 18 with (fail)
  go_cut [18] (fun v18 wc => ∃ (kq : Nat) (x18_7 : Bool), v18 = .bool x18_7 ∧ Aside0 (evaluate_work.j0 kq 1 true a1_0 x18_7 l0_0 l0_1 a0_2 a1_0 a1_1 l1_2 a1_3 a1_4 l1_5 = some (r1, r2)) ∧ Aside0 (kq ≤ k) ∧ Aside0 (wc.heap[gb151]? = some (.cells #[(.slice A0_0 l0_0.length c0_0), (.slice A0_1 l0_1.length c0_1), .int .i64 a0_2] 25 (0, 0))) ∧ Aside0 (wc.heap[gb152]? = some (.cells #[.int .i64 a1_0, .string a1_1, (.slice A1_2 l1_2.length c1_2), .int .i64 a1_3, .int .i64 a1_4, (.slice A1_5 l1_5.length c1_5)] 32 (0, 0))) ∧ Aside0 (Below w.heap.size w wc))
  case first =>
   have H := HC8.out
   clear HC8
   by_cases c9 : a1_0 = 8
   ·rw [if_pos c9] at H
    have c9b0 : (a1_0 == 8) = true := beq_iff_eq.mpr c9
    have c9b1 : (a1_0 != 8) = false := bne_eq_false_iff_eq.mpr c9
    clear c9
    (first | rw [c9b0] | (simp only [i64_w, i32_w]; rw [c9b0]) | skip)
    have H' := Aside0.mk H
    clear H
    go_wp2
    go_meet
    case rel => exact ⟨_, ((a1_0 == 8)), fi_, H', ⟨by first | omega | exact Nat.le_refl _⟩, ⟨bq_ BK151⟩, ⟨bq_ BK152⟩, ⟨be2_ HB GE151 GE152⟩⟩
   ·rw [if_neg c9] at H
    have c9b0 : (a1_0 == 8) = false := beq_eq_false_iff_ne.mpr c9
    have c9b1 : (a1_0 != 8) = true := bne_iff_ne.mpr c9
    (first | rw [c9b0] | (simp only [i64_w, i32_w]; rw [c9b0]) | skip)
    have H' := Aside0.mk H
    clear H
    go_wp2
    go_meet
    case rel => exact ⟨_, ((a1_0 == 9)), fi_, H', ⟨by first | omega | exact Nat.le_refl _⟩, ⟨bq_ BK151⟩, ⟨bq_ BK152⟩, ⟨be2_ HB GE151 GE152⟩⟩
  case rest =>
   clear HC8
   try clear c1
   try clear p2
   try clear c5
   try clear c6
   try clear c9
   try clear c9b0
   try clear c9b1
   try clear hcz7_0
   try clear hcz7_1
   try clear hcz7_2
   try clear hcz7_3
   try clear hcz7_4
   try clear hcz7_5
   try clear hfz7_0
   try clear hfz7_1
   try clear hfz7_2
   try clear hfz7_3
   try clear hfz7_4
   try clear hfz7_5
   obtain ⟨kq, x18_7, rfl, HA, HJ7, BK151, BK152, HB⟩ := hcut
   cases kq with
   | zero => exact absurd HA.out (by simp [evaluate_work.j0])
   | succ kj7 =>
    have H := HA.out
    clear HA
    simp only [evaluate_work.j0] at H
    by_cases c10 : x18_7 = true
    ·subst c10
     have H1 : ((evaluate_individuals.f kj7 l0_0 l0_1 a0_2 a1_1).bind fun bt153 => (evaluate_work.j1 kj7 (bt153.1.length : Int) bt153.2 l0_0 l0_1 a0_2 a1_0 a1_1 l1_2 a1_3 a1_4 l1_5)) = some (r1, r2) := by rw [if_pos rfl] at H; exact H
     clear H
     have H := H1
     clear H1
     replace H := Option.bind_eq_some_iff.mp H
     obtain ⟨⟨t153, t156⟩, A110, H⟩ := H
     replace H : (evaluate_work.j1 kj7 (t153.length : Int) t156 l0_0 l0_1 a0_2 a1_0 a1_1 l1_2 a1_3 a1_4 l1_5) = some (r1, r2) := H
     have A11 := Aside0.mk A110
     clear A110
     have H' := Aside0.mk H
     clear H
     have hnb12 := NB151_152.out
     have hnc12 := NB152_151.out
     have hcz13_0 : wc.cell? ⟨gb151, 0, none⟩ = some (.slice A0_0 l0_0.length c0_0) := (blk_cell BK151.out 0).trans rfl
     have hcz13_1 : wc.cell? ⟨gb151, 1, none⟩ = some (.slice A0_1 l0_1.length c0_1) := (blk_cell BK151.out 1).trans rfl
     have hcz13_2 : wc.cell? ⟨gb151, 2, none⟩ = some (.int .i64 a0_2) := (blk_cell BK151.out 2).trans rfl
     have hfz13_0 := blk_frozen BK151.out 0
     have hfz13_1 := blk_frozen BK151.out 1
     have hfz13_2 := blk_frozen BK151.out 2
     have hcz14_0 : wc.cell? ⟨gb152, 0, none⟩ = some (.int .i64 a1_0) := (blk_cell BK152.out 0).trans rfl
     have hcz14_1 : wc.cell? ⟨gb152, 1, none⟩ = some (.string a1_1) := (blk_cell BK152.out 1).trans rfl
     have hcz14_2 : wc.cell? ⟨gb152, 2, none⟩ = some (.slice A1_2 l1_2.length c1_2) := (blk_cell BK152.out 2).trans rfl
     have hcz14_3 : wc.cell? ⟨gb152, 3, none⟩ = some (.int .i64 a1_3) := (blk_cell BK152.out 3).trans rfl
     have hcz14_4 : wc.cell? ⟨gb152, 4, none⟩ = some (.int .i64 a1_4) := (blk_cell BK152.out 4).trans rfl
     have hcz14_5 : wc.cell? ⟨gb152, 5, none⟩ = some (.slice A1_5 l1_5.length c1_5) := (blk_cell BK152.out 5).trans rfl
     have hfz14_0 := blk_frozen BK152.out 0
     have hfz14_1 := blk_frozen BK152.out 1
     have hfz14_2 := blk_frozen BK152.out 2
     have hfz14_3 := blk_frozen BK152.out 3
     have hfz14_4 := blk_frozen BK152.out 4
     have hfz14_5 := blk_frozen BK152.out 5
     go_wp2_with (first | ((with_reducible refine gate_callee (f := 47) rfl ?_); refine goesL_ (some 25) rfl rfl Tryd.func47 (by kernel_rfl) rfl #[.agg #[.slice A0_0 l0_0.length c0_0, .slice A0_1 l0_1.length c0_1, .int .i64 a0_2], .string a1_1] rfl (by (try simp only [List.map_toArray, List.map_cons, List.map_nil]); first | done | rfl | (simp only [List.length_drop, List.length_take]; rfl)) ?_; (with_reducible refine (evaluate_individuals.calls kj7 (fun k_ => k_ < w.heap.size) _ _ l0_0 _ _ l0_1 a0_2 a1_1 t153 t156 _ ?side1 ?side2 ?side3 A11.out).mono ?_); (case side1 => exact Kd.V_mk HC0_0.out (Kd.F_below (Kd.C_F k73_heap HR0_0.out) (be2_ HB GE151 GE152))); (case side2 => exact cs_ (Kd.C_below HR0_1.out HB.out)); (case side3 => exact HC0_1.out); rintro e w15 ⟨v154, rfl, ho0, hb⟩; refine ⟨_, rfl, ?_⟩; have n0_ := Aside0.mk (Kd.V_lower (Kd.V_mono (ok' := fun k_ => k_ ≠ gb151 ∧ k_ ≠ gb152) ho0 (fun k_ hk_ => ⟨Or.elim hk_ (fun hs_ => fun e_ => Nat.not_le.2 hs_ (by rw [e_]; exact GW151.out)) (fun hn_ => (Kd.freshB (g := gb151) (o := .cells #[.slice A0_0 l0_0.length c0_0, .slice A0_1 l0_1.length c0_1, .int .i64 a0_2] 25 (0, 0)) (bq_ BK151) k_ hn_)), Or.elim hk_ (fun hs_ => fun e_ => Nat.not_le.2 hs_ (by rw [e_]; exact GW152.out)) (fun hn_ => (Kd.freshB (g := gb152) (o := .cells #[.int .i64 a1_0, .string a1_1, .slice A1_2 l1_2.length c1_2, .int .i64 a1_3, .int .i64 a1_4, .slice A1_5 l1_5.length c1_5] 32 (0, 0)) (bq_ BK152) k_ hn_))⟩)) (below_size (be2_ HB GE151 GE152))); have n1_ := Aside0.mk (blk_below (g := gb151) (o := .cells #[.slice A0_0 l0_0.length c0_0, .slice A0_1 l0_1.length c0_1, .int .i64 a0_2] 25 (0, 0)) (bq_ BK151) hb); have n2_ := Aside0.mk (blk_below (g := gb152) (o := .cells #[.int .i64 a1_0, .string a1_1, .slice A1_2 l1_2.length c1_2, .int .i64 a1_3, .int .i64 a1_4, .slice A1_5 l1_5.length c1_5] 32 (0, 0)) (bq_ BK152) hb); have n3_ := Aside0.mk (below_step (be2_ HB GE151 GE152) hb); clear BK151; clear BK152; clear HB; have HO155 := n0_; have BK151 := n1_; have BK152 := n2_; have HB := n3_; clear n0_ n1_ n2_ n3_; (try clear hb); (try clear hb2); (try clear hk); (try clear hi); (try clear ho0); obtain ⟨Ao16, co16, eo16⟩ := Kd.V_slice HO155.out; subst eo16))
     go_meet
     case rel => exact ⟨_, ((t153.length : Int)), (t156), fi_, fi_, H', ⟨by have := HJ7.out; first | omega | exact Nat.le_refl _⟩, ⟨bq_ BK151⟩, ⟨bq_ BK152⟩, ⟨be2_ HB GE151 GE152⟩⟩
    ·replace c10 := Bool.eq_false_iff.mpr c10
     subst c10
     have H1 : (if a1_0 = 10 then ((evaluate_interval.f kj7 l0_0 l0_1 a0_2 a1_3 a1_4).bind fun bt157 => (evaluate_work.j1 kj7 (wrap64 (bt157.2.1 - bt157.1)) bt157.2.2 l0_0 l0_1 a0_2 a1_0 a1_1 l1_2 a1_3 a1_4 l1_5)) else (if a1_0 = 11 then (evaluate_work.j1 kj7 a0_2 true l0_0 l0_1 a0_2 a1_0 a1_1 l1_2 a1_3 a1_4 l1_5) else (if a1_0 = 12 then (evaluate_work.j1 kj7 a0_2 true l0_0 l0_1 a0_2 a1_0 a1_1 l1_2 a1_3 a1_4 l1_5) else (evaluate_work.j1 kj7 1 true l0_0 l0_1 a0_2 a1_0 a1_1 l1_2 a1_3 a1_4 l1_5)))) = some (r1, r2) := by rw [if_neg (show ¬ (false = true) by decide)] at H; exact H
     clear H
     have H := H1
     clear H1
     by_cases c17 : a1_0 = 10
     ·rw [if_pos c17] at H
      have c17b0 : (a1_0 == 10) = true := beq_iff_eq.mpr c17
      have c17b1 : (a1_0 != 10) = false := bne_eq_false_iff_eq.mpr c17
      clear c17
      replace H := Option.bind_eq_some_iff.mp H
      obtain ⟨⟨t157, t158, t159⟩, A180, H⟩ := H
      replace H : (evaluate_work.j1 kj7 (wrap64 (t158 - t157)) t159 l0_0 l0_1 a0_2 a1_0 a1_1 l1_2 a1_3 a1_4 l1_5) = some (r1, r2) := H
      have A18 := Aside0.mk A180
      clear A180
      have H' := Aside0.mk H
      clear H
      have hnb19 := NB151_152.out
      have hnc19 := NB152_151.out
      have hcz20_0 : wc.cell? ⟨gb151, 0, none⟩ = some (.slice A0_0 l0_0.length c0_0) := (blk_cell BK151.out 0).trans rfl
      have hcz20_1 : wc.cell? ⟨gb151, 1, none⟩ = some (.slice A0_1 l0_1.length c0_1) := (blk_cell BK151.out 1).trans rfl
      have hcz20_2 : wc.cell? ⟨gb151, 2, none⟩ = some (.int .i64 a0_2) := (blk_cell BK151.out 2).trans rfl
      have hfz20_0 := blk_frozen BK151.out 0
      have hfz20_1 := blk_frozen BK151.out 1
      have hfz20_2 := blk_frozen BK151.out 2
      have hcz21_0 : wc.cell? ⟨gb152, 0, none⟩ = some (.int .i64 a1_0) := (blk_cell BK152.out 0).trans rfl
      have hcz21_1 : wc.cell? ⟨gb152, 1, none⟩ = some (.string a1_1) := (blk_cell BK152.out 1).trans rfl
      have hcz21_2 : wc.cell? ⟨gb152, 2, none⟩ = some (.slice A1_2 l1_2.length c1_2) := (blk_cell BK152.out 2).trans rfl
      have hcz21_3 : wc.cell? ⟨gb152, 3, none⟩ = some (.int .i64 a1_3) := (blk_cell BK152.out 3).trans rfl
      have hcz21_4 : wc.cell? ⟨gb152, 4, none⟩ = some (.int .i64 a1_4) := (blk_cell BK152.out 4).trans rfl
      have hcz21_5 : wc.cell? ⟨gb152, 5, none⟩ = some (.slice A1_5 l1_5.length c1_5) := (blk_cell BK152.out 5).trans rfl
      have hfz21_0 := blk_frozen BK152.out 0
      have hfz21_1 := blk_frozen BK152.out 1
      have hfz21_2 := blk_frozen BK152.out 2
      have hfz21_3 := blk_frozen BK152.out 3
      have hfz21_4 := blk_frozen BK152.out 4
      have hfz21_5 := blk_frozen BK152.out 5
      go_wp2_with (first | ((with_reducible refine gate_callee (f := 45) rfl ?_); refine goesL_ (some 38) rfl rfl Tryd.func45 (by kernel_rfl) rfl #[.agg #[.slice A0_0 l0_0.length c0_0, .slice A0_1 l0_1.length c0_1, .int .i64 a0_2], .int .i64 a1_3, .int .i64 a1_4] rfl (by (try simp only [List.map_toArray, List.map_cons, List.map_nil]); first | done | rfl | (simp only [List.length_drop, List.length_take]; rfl)) ?_; (with_reducible refine (evaluate_interval.calls kj7 _ _ l0_0 _ _ l0_1 a0_2 a1_3 a1_4 t157 t158 t159 _ ?side1 ?side2 ?side3 ?side4 A18.out).mono ?_); (case side1 => exact cs_ (Kd.C_below HR0_0.out HB.out)); (case side2 => exact HC0_0.out); (case side3 => exact cs_ (Kd.C_below HR0_1.out HB.out)); (case side4 => exact HC0_1.out); rintro e w22 ⟨rfl, hb⟩; refine ⟨_, rfl, ?_⟩; have n0_ := Aside0.mk (blk_below (g := gb151) (o := .cells #[.slice A0_0 l0_0.length c0_0, .slice A0_1 l0_1.length c0_1, .int .i64 a0_2] 25 (0, 0)) (bq_ BK151) hb); have n1_ := Aside0.mk (blk_below (g := gb152) (o := .cells #[.int .i64 a1_0, .string a1_1, .slice A1_2 l1_2.length c1_2, .int .i64 a1_3, .int .i64 a1_4, .slice A1_5 l1_5.length c1_5] 32 (0, 0)) (bq_ BK152) hb); have n2_ := Aside0.mk (below_step (be2_ HB GE151 GE152) hb); clear BK151; clear BK152; clear HB; have BK151 := n0_; have BK152 := n1_; have HB := n2_; clear n0_ n1_ n2_; (try clear hb); (try clear hb2); (try clear hk); (try clear hi)))
      go_meet
      case rel => exact ⟨_, (wrap64 (t158 - t157)), (t159), fi_, fi_, H', ⟨by have := HJ7.out; first | omega | exact Nat.le_refl _⟩, ⟨bq_ BK151⟩, ⟨bq_ BK152⟩, ⟨be2_ HB GE151 GE152⟩⟩
     ·rw [if_neg c17] at H
      have c17b0 : (a1_0 == 10) = false := beq_eq_false_iff_ne.mpr c17
      have c17b1 : (a1_0 != 10) = true := bne_iff_ne.mpr c17
      by_cases c23 : a1_0 = 11
      ·rw [if_pos c23] at H
       have c23b0 : (a1_0 == 11) = true := beq_iff_eq.mpr c23
       have c23b1 : (a1_0 != 11) = false := bne_eq_false_iff_eq.mpr c23
       clear c23
       have H' := Aside0.mk H
       clear H
       have hnb24 := NB151_152.out
       have hnc24 := NB152_151.out
       have hcz25_0 : wc.cell? ⟨gb151, 0, none⟩ = some (.slice A0_0 l0_0.length c0_0) := (blk_cell BK151.out 0).trans rfl
       have hcz25_1 : wc.cell? ⟨gb151, 1, none⟩ = some (.slice A0_1 l0_1.length c0_1) := (blk_cell BK151.out 1).trans rfl
       have hcz25_2 : wc.cell? ⟨gb151, 2, none⟩ = some (.int .i64 a0_2) := (blk_cell BK151.out 2).trans rfl
       have hfz25_0 := blk_frozen BK151.out 0
       have hfz25_1 := blk_frozen BK151.out 1
       have hfz25_2 := blk_frozen BK151.out 2
       go_wp2
       go_meet
       case rel => exact ⟨_, (a0_2), (true), fi_, fi_, H', ⟨by have := HJ7.out; first | omega | exact Nat.le_refl _⟩, ⟨bq_ BK151⟩, ⟨bq_ BK152⟩, ⟨be2_ HB GE151 GE152⟩⟩
      ·rw [if_neg c23] at H
       have c23b0 : (a1_0 == 11) = false := beq_eq_false_iff_ne.mpr c23
       have c23b1 : (a1_0 != 11) = true := bne_iff_ne.mpr c23
       by_cases c26 : a1_0 = 12
       ·rw [if_pos c26] at H
        have c26b0 : (a1_0 == 12) = true := beq_iff_eq.mpr c26
        have c26b1 : (a1_0 != 12) = false := bne_eq_false_iff_eq.mpr c26
        clear c26
        have H' := Aside0.mk H
        clear H
        have hnb27 := NB151_152.out
        have hnc27 := NB152_151.out
        have hcz28_0 : wc.cell? ⟨gb151, 0, none⟩ = some (.slice A0_0 l0_0.length c0_0) := (blk_cell BK151.out 0).trans rfl
        have hcz28_1 : wc.cell? ⟨gb151, 1, none⟩ = some (.slice A0_1 l0_1.length c0_1) := (blk_cell BK151.out 1).trans rfl
        have hcz28_2 : wc.cell? ⟨gb151, 2, none⟩ = some (.int .i64 a0_2) := (blk_cell BK151.out 2).trans rfl
        have hfz28_0 := blk_frozen BK151.out 0
        have hfz28_1 := blk_frozen BK151.out 1
        have hfz28_2 := blk_frozen BK151.out 2
        go_wp2
        go_meet
        case rel => exact ⟨_, (a0_2), (true), fi_, fi_, H', ⟨by have := HJ7.out; first | omega | exact Nat.le_refl _⟩, ⟨bq_ BK151⟩, ⟨bq_ BK152⟩, ⟨be2_ HB GE151 GE152⟩⟩
       ·rw [if_neg c26] at H
        have c26b0 : (a1_0 == 12) = false := beq_eq_false_iff_ne.mpr c26
        have c26b1 : (a1_0 != 12) = true := bne_iff_ne.mpr c26
        have H' := Aside0.mk H
        clear H
        go_wp2
        go_meet
        case rel => exact ⟨_, (1), (true), fi_, fi_, H', ⟨by have := HJ7.out; first | omega | exact Nat.le_refl _⟩, ⟨bq_ BK151⟩, ⟨bq_ BK152⟩, ⟨be2_ HB GE151 GE152⟩⟩
 case rest =>
  clear HC3
  try clear c1
  try clear c2
  try clear p2
  try clear c4
  try clear c5
  try clear c6
  try clear p6
  try clear c9
  try clear c9b0
  try clear c9b1
  try clear c10
  try clear c12
  try clear c17
  try clear c17b0
  try clear c17b1
  try clear c19
  try clear c23
  try clear c23b0
  try clear c23b1
  try clear c24
  try clear c26
  try clear c26b0
  try clear c26b1
  try clear c27
  try clear hcz13_0
  try clear hcz13_1
  try clear hcz13_2
  try clear hcz14_0
  try clear hcz14_1
  try clear hcz14_2
  try clear hcz14_3
  try clear hcz14_4
  try clear hcz14_5
  try clear hcz20_0
  try clear hcz20_1
  try clear hcz20_2
  try clear hcz21_0
  try clear hcz21_1
  try clear hcz21_2
  try clear hcz21_3
  try clear hcz21_4
  try clear hcz21_5
  try clear hcz25_0
  try clear hcz25_1
  try clear hcz25_2
  try clear hcz28_0
  try clear hcz28_1
  try clear hcz28_2
  try clear hcz7_0
  try clear hcz7_1
  try clear hcz7_2
  try clear hcz7_3
  try clear hcz7_4
  try clear hcz7_5
  try clear hfz13_0
  try clear hfz13_1
  try clear hfz13_2
  try clear hfz14_0
  try clear hfz14_1
  try clear hfz14_2
  try clear hfz14_3
  try clear hfz14_4
  try clear hfz14_5
  try clear hfz20_0
  try clear hfz20_1
  try clear hfz20_2
  try clear hfz21_0
  try clear hfz21_1
  try clear hfz21_2
  try clear hfz21_3
  try clear hfz21_4
  try clear hfz21_5
  try clear hfz25_0
  try clear hfz25_1
  try clear hfz25_2
  try clear hfz28_0
  try clear hfz28_1
  try clear hfz28_2
  try clear hfz7_0
  try clear hfz7_1
  try clear hfz7_2
  try clear hfz7_3
  try clear hfz7_4
  try clear hfz7_5
  try clear p2
  obtain ⟨kq, x6_2, x7_2, rfl, rfl, HA, HJ2, BK151, BK152, HB⟩ := hcut
  cases kq with
  | zero => exact absurd HA.out (by simp [evaluate_work.j1])
  | succ kj2 =>
   have H := HA.out
   clear HA
   simp only [evaluate_work.j1] at H
   have H' := Aside0.mk H
   clear H
   have hnb29 := NB152_151.out
   have hnc29 := NB151_152.out
   have hcz30_0 : wc.cell? ⟨gb152, 0, none⟩ = some (.int .i64 a1_0) := (blk_cell BK152.out 0).trans rfl
   have hcz30_1 : wc.cell? ⟨gb152, 1, none⟩ = some (.string a1_1) := (blk_cell BK152.out 1).trans rfl
   have hcz30_2 : wc.cell? ⟨gb152, 2, none⟩ = some (.slice A1_2 l1_2.length c1_2) := (blk_cell BK152.out 2).trans rfl
   have hcz30_3 : wc.cell? ⟨gb152, 3, none⟩ = some (.int .i64 a1_3) := (blk_cell BK152.out 3).trans rfl
   have hcz30_4 : wc.cell? ⟨gb152, 4, none⟩ = some (.int .i64 a1_4) := (blk_cell BK152.out 4).trans rfl
   have hcz30_5 : wc.cell? ⟨gb152, 5, none⟩ = some (.slice A1_5 l1_5.length c1_5) := (blk_cell BK152.out 5).trans rfl
   have hfz30_0 := blk_frozen BK152.out 0
   have hfz30_1 := blk_frozen BK152.out 1
   have hfz30_2 := blk_frozen BK152.out 2
   have hfz30_3 := blk_frozen BK152.out 3
   have hfz30_4 := blk_frozen BK152.out 4
   have hfz30_5 := blk_frozen BK152.out 5
   go_wp2
   go_loopg [7, 11, 53] kj2 (fun kq v7 v11 v53 w' => ∃ (x7_2 : Bool) (x11_2 : Int) (x53_2 : Int), v7 = .bool x7_2 ∧ v11 = .int .i64 x11_2 ∧ v53 = .int .i64 x53_2 ∧ Aside0 (evaluate_work.l0 kq x6_2 x7_2 x11_2 l1_5 (l1_5.length : Int) x53_2 l0_0 l0_1 a0_2 = some (r1, r2)) ∧ Aside0 (kq ≤ kj2) ∧ Aside0 (w'.heap[gb151]? = some (.cells #[(.slice A0_0 l0_0.length c0_0), (.slice A0_1 l0_1.length c0_1), .int .i64 a0_2] 25 (0, 0))) ∧ Aside0 (w'.heap[gb152]? = some (.cells #[.int .i64 a1_0, .string a1_1, (.slice A1_2 l1_2.length c1_2), .int .i64 a1_3, .int .i64 a1_4, (.slice A1_5 l1_5.length c1_5)] 32 (0, 0))) ∧ Aside0 (Below w.heap.size w w'))
   case atStart => exact ⟨(x7_2), (0), (0), fi_, fi_, fi_, H', ⟨Nat.le_refl _⟩, ⟨bq_ BK151⟩, ⟨bq_ BK152⟩, ⟨be2_ HB GE151 GE152⟩⟩
   case round =>
    clear H'
    try clear c1
    try clear c2
    try clear p2
    try clear c4
    try clear c5
    try clear c6
    try clear p6
    try clear c9
    try clear c9b0
    try clear c9b1
    try clear c10
    try clear c12
    try clear c17
    try clear c17b0
    try clear c17b1
    try clear c19
    try clear c23
    try clear c23b0
    try clear c23b1
    try clear c24
    try clear c26
    try clear c26b0
    try clear c26b1
    try clear c27
    try clear c29
    try clear hcz13_0
    try clear hcz13_1
    try clear hcz13_2
    try clear hcz14_0
    try clear hcz14_1
    try clear hcz14_2
    try clear hcz14_3
    try clear hcz14_4
    try clear hcz14_5
    try clear hcz20_0
    try clear hcz20_1
    try clear hcz20_2
    try clear hcz21_0
    try clear hcz21_1
    try clear hcz21_2
    try clear hcz21_3
    try clear hcz21_4
    try clear hcz21_5
    try clear hcz25_0
    try clear hcz25_1
    try clear hcz25_2
    try clear hcz28_0
    try clear hcz28_1
    try clear hcz28_2
    try clear hcz30_0
    try clear hcz30_1
    try clear hcz30_2
    try clear hcz30_3
    try clear hcz30_4
    try clear hcz30_5
    try clear hcz7_0
    try clear hcz7_1
    try clear hcz7_2
    try clear hcz7_3
    try clear hcz7_4
    try clear hcz7_5
    try clear hfz13_0
    try clear hfz13_1
    try clear hfz13_2
    try clear hfz14_0
    try clear hfz14_1
    try clear hfz14_2
    try clear hfz14_3
    try clear hfz14_4
    try clear hfz14_5
    try clear hfz20_0
    try clear hfz20_1
    try clear hfz20_2
    try clear hfz21_0
    try clear hfz21_1
    try clear hfz21_2
    try clear hfz21_3
    try clear hfz21_4
    try clear hfz21_5
    try clear hfz25_0
    try clear hfz25_1
    try clear hfz25_2
    try clear hfz28_0
    try clear hfz28_1
    try clear hfz28_2
    try clear hfz30_0
    try clear hfz30_1
    try clear hfz30_2
    try clear hfz30_3
    try clear hfz30_4
    try clear hfz30_5
    try clear hfz7_0
    try clear hfz7_1
    try clear hfz7_2
    try clear hfz7_3
    try clear hfz7_4
    try clear hfz7_5
    try clear p2
    try clear p6
    obtain ⟨x7_2, x11_2, x53_2, rfl, rfl, rfl, HA, HK2, BK151, BK152, HB⟩ := hrel
    cases gk with
    | zero => exact absurd HA.out (by simp [evaluate_work.l0])
    | succ k2 =>
     have H := HA.out
     clear HA
     simp only [evaluate_work.l0] at H
     by_cases c31 : x53_2 < (l1_5.length : Int)
     ·rw [if_pos c31] at H
      have c31b0 : decide (x53_2 < (l1_5.length : Int)) = true := decide_eq_true c31
      clear c31
      by_cases c32 : 0 ≤ x53_2
      ·rw [if_pos c32] at H
       have c32b0 : decide (0 ≤ x53_2) = true := decide_eq_true c32
       clear c32
       by_cases c33 : x53_2 < (l1_5.length : Int)
       ·rw [if_pos c33] at H
        have c33b0 : decide (x53_2 < (l1_5.length : Int)) = true := decide_eq_true c33
        clear c33
        replace H := Option.bind_eq_some_iff.mp H
        obtain ⟨⟨t162, t163⟩, A340, H⟩ := H
        replace H : (if x7_2 = true then (evaluate_work.l0 k2 x6_2 t163 (mn (wrap64 (x11_2 + t162)) 1048577) l1_5 (l1_5.length : Int) (wrap64 (x53_2 + 1)) l0_0 l0_1 a0_2) else (evaluate_work.l0 k2 x6_2 false (mn (wrap64 (x11_2 + t162)) 1048577) l1_5 (l1_5.length : Int) (wrap64 (x53_2 + 1)) l0_0 l0_1 a0_2)) = some (r1, r2) := H
        have A34 := Aside0.mk A340
        clear A340
        by_cases c35 : x7_2 = true
        ·subst c35
         have H1 : (evaluate_work.l0 k2 x6_2 t163 (mn (wrap64 (x11_2 + t162)) 1048577) l1_5 (l1_5.length : Int) (wrap64 (x53_2 + 1)) l0_0 l0_1 a0_2) = some (r1, r2) := by rw [if_pos rfl] at H; exact H
         clear H
         have H := H1
         clear H1
         obtain ⟨ji36, hji36⟩ : ∃ j_ : Int, (mn (wrap64 (x11_2 + t162)) 1048577) = j_ := ⟨_, rfl⟩
         replace H : (evaluate_work.l0 k2 x6_2 t163 ji36 l1_5 (l1_5.length : Int) (wrap64 (x53_2 + 1)) l0_0 l0_1 a0_2) = some (r1, r2) := by first | (rw [hji36] at H; exact H) | (simp only [hji36] at H ⊢; exact H)
         (try rw [hji36] at A34)
         have hji36_ : (if 1048577 < (wrap64 (x11_2 + t162)) then 1048577 else (wrap64 (x11_2 + t162))) = ji36 := hji36
         have H' := Aside0.mk H
         clear H
         have p160 : 0 ≤ (x53_2 : Int) := of_decide_eq_true (by first | (with_reducible assumption) | assumption)
         have q160 : x53_2 < (l1_5.length : Int) := of_decide_eq_true (by first | (with_reducible assumption) | assumption)
         obtain ⟨ad160, A160_2, c160_2, A160_5, c160_5, e160, hx160_0, hx160_1, hx160_2, hx160_3, hx160_4, hx160_5, hl160_2, hi160_2, hl160_5, hi160_5⟩ := at_T32 HR1_5.out x53_2 p160 q160
         cases e160
         replace hx160_0 := (HB.out.cell (World.block_lt_of_cell? w _ hx160_0)).trans hx160_0
         replace hx160_1 := (HB.out.cell (World.block_lt_of_cell? w _ hx160_1)).trans hx160_1
         replace hx160_2 := (HB.out.cell (World.block_lt_of_cell? w _ hx160_2)).trans hx160_2
         replace hx160_3 := (HB.out.cell (World.block_lt_of_cell? w _ hx160_3)).trans hx160_3
         replace hx160_4 := (HB.out.cell (World.block_lt_of_cell? w _ hx160_4)).trans hx160_4
         replace hx160_5 := (HB.out.cell (World.block_lt_of_cell? w _ hx160_5)).trans hx160_5
         have HR160_2 := Aside0.mk hi160_2
         have HC160_2 := Aside0.mk hl160_2
         clear hi160_2 hl160_2
         have HR160_5 := Aside0.mk hi160_5
         have HC160_5 := Aside0.mk hl160_5
         clear hi160_5 hl160_5
         replace p160 := eq_true p160
         replace q160 := eq_true q160
         go_wp2_with (first | ((with_reducible refine gate_dst (N := 13) rfl ?_); refine box_event ?hg (N := 13) ?hd (cs := #[.int .i64 0, .string (⟨#[]⟩ : ByteArray), .slice none 0 0, .int .i64 0, .int .i64 0, .slice none 0 0]) (t := 32) ?hr ?_; (case hd => rfl); (case hg => rfl); (case hr => first | (go_simp; done) | (go_simp; rfl)); intro gb161 hg w37 hbox hb; have n0_ := Aside0.mk (blk_below (g := gb151) (o := .cells #[.slice A0_0 l0_0.length c0_0, .slice A0_1 l0_1.length c0_1, .int .i64 a0_2] 25 (0, 0)) (bq_ BK151) hb); have n1_ := Aside0.mk (blk_below (g := gb152) (o := .cells #[.int .i64 a1_0, .string a1_1, .slice A1_2 l1_2.length c1_2, .int .i64 a1_3, .int .i64 a1_4, .slice (some ad160) l1_5.length c1_5] 32 (0, 0)) (bq_ BK152) hb); have n2_ := Aside0.mk (below_step (be2_ HB GE151 GE152) hb); have n3_ := Aside0.mk (hbox); have n4_ := Aside0.mk ((by rw [hg]; exact (below_size (be2_ HB GE151 GE152)) : w.heap.size ≤ gb161)); have n5_ := Aside0.mk ((by rw [hg]; exact (below_size (be2_ HB GE151 GE152)) : w.heap.size ≤ gb161)); have n6_ := Aside0.mk ((by rw [hg]; exact Nat.ne_of_lt (blk_lt (g := gb151) (o := .cells #[.slice A0_0 l0_0.length c0_0, .slice A0_1 l0_1.length c0_1, .int .i64 a0_2] 25 (0, 0)) (bq_ BK151)) : gb151 ≠ gb161)); have n7_ := Aside0.mk ((by rw [hg]; exact Nat.ne_of_gt (blk_lt (g := gb151) (o := .cells #[.slice A0_0 l0_0.length c0_0, .slice A0_1 l0_1.length c0_1, .int .i64 a0_2] 25 (0, 0)) (bq_ BK151)) : gb161 ≠ gb151)); have n8_ := Aside0.mk ((by rw [hg]; exact Nat.ne_of_lt (blk_lt (g := gb152) (o := .cells #[.int .i64 a1_0, .string a1_1, .slice A1_2 l1_2.length c1_2, .int .i64 a1_3, .int .i64 a1_4, .slice (some ad160) l1_5.length c1_5] 32 (0, 0)) (bq_ BK152)) : gb152 ≠ gb161)); have n9_ := Aside0.mk ((by rw [hg]; exact Nat.ne_of_gt (blk_lt (g := gb152) (o := .cells #[.int .i64 a1_0, .string a1_1, .slice A1_2 l1_2.length c1_2, .int .i64 a1_3, .int .i64 a1_4, .slice (some ad160) l1_5.length c1_5] 32 (0, 0)) (bq_ BK152)) : gb161 ≠ gb152)); clear BK151; clear BK152; clear HB; have BK151 := n0_; have BK152 := n1_; have HB := n2_; have BK161 := n3_; have GW161 := n4_; have GE161 := n5_; have NB151_161 := n6_; have NB161_151 := n7_; have NB152_161 := n8_; have NB161_152 := n9_; clear n0_ n1_ n2_ n3_ n4_ n5_ n6_ n7_ n8_ n9_; clear hb hbox hg; have hnb38 := NB161_151.out; have hnc38 := NB151_161.out; have hnb39 := NB161_152.out; have hnc39 := NB152_161.out; have hcz40_0 : w37.cell? ⟨gb161, 0, none⟩ = some (.int .i64 0) := (blk_cell BK161.out 0).trans rfl; have hcz40_1 : w37.cell? ⟨gb161, 1, none⟩ = some (.string (⟨#[]⟩ : ByteArray)) := (blk_cell BK161.out 1).trans rfl; have hcz40_2 : w37.cell? ⟨gb161, 2, none⟩ = some (.slice none 0 0) := (blk_cell BK161.out 2).trans rfl; have hcz40_3 : w37.cell? ⟨gb161, 3, none⟩ = some (.int .i64 0) := (blk_cell BK161.out 3).trans rfl; have hcz40_4 : w37.cell? ⟨gb161, 4, none⟩ = some (.int .i64 0) := (blk_cell BK161.out 4).trans rfl; have hcz40_5 : w37.cell? ⟨gb161, 5, none⟩ = some (.slice none 0 0) := (blk_cell BK161.out 5).trans rfl; have hfz40_0 := blk_frozen BK161.out 0; have hfz40_1 := blk_frozen BK161.out 1; have hfz40_2 := blk_frozen BK161.out 2; have hfz40_3 := blk_frozen BK161.out 3; have hfz40_4 := blk_frozen BK161.out 4; have hfz40_5 := blk_frozen BK161.out 5; have hnb41 := NB151_152.out; have hnc41 := NB152_151.out; have hcz42_0 : w37.cell? ⟨gb151, 0, none⟩ = some (.slice A0_0 l0_0.length c0_0) := (blk_cell BK151.out 0).trans rfl; have hcz42_1 : w37.cell? ⟨gb151, 1, none⟩ = some (.slice A0_1 l0_1.length c0_1) := (blk_cell BK151.out 1).trans rfl; have hcz42_2 : w37.cell? ⟨gb151, 2, none⟩ = some (.int .i64 a0_2) := (blk_cell BK151.out 2).trans rfl; have hfz42_0 := blk_frozen BK151.out 0; have hfz42_1 := blk_frozen BK151.out 1; have hfz42_2 := blk_frozen BK151.out 2) | ((with_reducible refine gate_callee (f := 53) rfl ?_); refine goesL_ (some 60) rfl rfl Tryd.func53 (by kernel_rfl) rfl #[.agg #[.slice A0_0 l0_0.length c0_0, .slice A0_1 l0_1.length c0_1, .int .i64 a0_2], .agg #[.int .i64 ((rd_T32 l1_5 x53_2).f0), .string ((rd_T32 l1_5 x53_2).f1), .slice A160_2 ((rd_T32 l1_5 x53_2).f2).length c160_2, .int .i64 ((rd_T32 l1_5 x53_2).f3), .int .i64 ((rd_T32 l1_5 x53_2).f4), .slice A160_5 ((rd_T32 l1_5 x53_2).f5).length c160_5]] rfl (by (try simp only [List.map_toArray, List.map_cons, List.map_nil]); first | done | rfl | (simp only [List.length_drop, List.length_take]; rfl)) ?_; (with_reducible refine (ih k2 (by have := HJ2.out; have := HK2.out; omega) _ _ l0_0 _ _ l0_1 a0_2 ((rd_T32 l1_5 x53_2).f0) ((rd_T32 l1_5 x53_2).f1) _ _ ((rd_T32 l1_5 x53_2).f2) ((rd_T32 l1_5 x53_2).f3) ((rd_T32 l1_5 x53_2).f4) _ _ ((rd_T32 l1_5 x53_2).f5) t162 t163 _ ?side1 ?side2 ?side3 ?side4 ?side5 ?side6 ?side7 ?side8 A34.out).mono ?_); (case side1 => exact Kd.C_below HR0_0.out (be3_ HB GE151 GE152 GE161)); (case side2 => exact HC0_0.out); (case side3 => exact Kd.C_below HR0_1.out (be3_ HB GE151 GE152 GE161)); (case side4 => exact HC0_1.out); (case side5 => exact Kd.C_below HR160_2.out (be3_ HB GE151 GE152 GE161)); (case side6 => exact HC160_2.out); (case side7 => exact Kd.C_below HR160_5.out (be3_ HB GE151 GE152 GE161)); (case side8 => exact HC160_5.out); rintro e w43 ⟨rfl, hb⟩; refine ⟨_, rfl, ?_⟩; have n0_ := Aside0.mk (blk_below (g := gb151) (o := .cells #[.slice A0_0 l0_0.length c0_0, .slice A0_1 l0_1.length c0_1, .int .i64 a0_2] 25 (0, 0)) (by (with_reducible repeat (first | refine blk_drewN ?_ _ | refine blk_drew ?_ | refine blk_alloc ?_ _)); refine blk_far ?_ NB151_161.out _; (with_reducible repeat (first | refine blk_drewN ?_ _ | refine blk_drew ?_ | refine blk_alloc ?_ _)); refine blk_far ?_ NB151_161.out _; (with_reducible repeat (first | refine blk_drewN ?_ _ | refine blk_drew ?_ | refine blk_alloc ?_ _)); refine blk_far ?_ NB151_161.out _; (with_reducible repeat (first | refine blk_drewN ?_ _ | refine blk_drew ?_ | refine blk_alloc ?_ _)); refine blk_far ?_ NB151_161.out _; (with_reducible repeat (first | refine blk_drewN ?_ _ | refine blk_drew ?_ | refine blk_alloc ?_ _)); refine blk_far ?_ NB151_161.out _; (with_reducible repeat (first | refine blk_drewN ?_ _ | refine blk_drew ?_ | refine blk_alloc ?_ _)); refine blk_far ?_ NB151_161.out _; (with_reducible repeat (first | refine blk_drewN ?_ _ | refine blk_drew ?_ | refine blk_alloc ?_ _)); exact BK151.out) hb); have n1_ := Aside0.mk (blk_below (g := gb152) (o := .cells #[.int .i64 a1_0, .string a1_1, .slice A1_2 l1_2.length c1_2, .int .i64 a1_3, .int .i64 a1_4, .slice (some ad160) l1_5.length c1_5] 32 (0, 0)) (by (with_reducible repeat (first | refine blk_drewN ?_ _ | refine blk_drew ?_ | refine blk_alloc ?_ _)); refine blk_far ?_ NB152_161.out _; (with_reducible repeat (first | refine blk_drewN ?_ _ | refine blk_drew ?_ | refine blk_alloc ?_ _)); refine blk_far ?_ NB152_161.out _; (with_reducible repeat (first | refine blk_drewN ?_ _ | refine blk_drew ?_ | refine blk_alloc ?_ _)); refine blk_far ?_ NB152_161.out _; (with_reducible repeat (first | refine blk_drewN ?_ _ | refine blk_drew ?_ | refine blk_alloc ?_ _)); refine blk_far ?_ NB152_161.out _; (with_reducible repeat (first | refine blk_drewN ?_ _ | refine blk_drew ?_ | refine blk_alloc ?_ _)); refine blk_far ?_ NB152_161.out _; (with_reducible repeat (first | refine blk_drewN ?_ _ | refine blk_drew ?_ | refine blk_alloc ?_ _)); refine blk_far ?_ NB152_161.out _; (with_reducible repeat (first | refine blk_drewN ?_ _ | refine blk_drew ?_ | refine blk_alloc ?_ _)); exact BK152.out) hb); have n2_ := Aside0.mk (blk_below (g := gb161) (o := .cells #[.int .i64 ((rd_T32 l1_5 x53_2).f0), .string ((rd_T32 l1_5 x53_2).f1), .slice A160_2 ((rd_T32 l1_5 x53_2).f2).length c160_2, .int .i64 ((rd_T32 l1_5 x53_2).f3), .int .i64 ((rd_T32 l1_5 x53_2).f4), .slice A160_5 ((rd_T32 l1_5 x53_2).f5).length c160_5] 32 (0, 0)) (by (with_reducible repeat (first | refine blk_drewN ?_ _ | refine blk_drew ?_ | refine blk_alloc ?_ _)); refine blk_put (cs := #[.int .i64 ((rd_T32 l1_5 x53_2).f0), .string ((rd_T32 l1_5 x53_2).f1), .slice A160_2 ((rd_T32 l1_5 x53_2).f2).length c160_2, .int .i64 ((rd_T32 l1_5 x53_2).f3), .int .i64 ((rd_T32 l1_5 x53_2).f4), .slice none 0 0]) ?_ 5 _ rfl; (with_reducible repeat (first | refine blk_drewN ?_ _ | refine blk_drew ?_ | refine blk_alloc ?_ _)); refine blk_put (cs := #[.int .i64 ((rd_T32 l1_5 x53_2).f0), .string ((rd_T32 l1_5 x53_2).f1), .slice A160_2 ((rd_T32 l1_5 x53_2).f2).length c160_2, .int .i64 ((rd_T32 l1_5 x53_2).f3), .int .i64 0, .slice none 0 0]) ?_ 4 _ rfl; (with_reducible repeat (first | refine blk_drewN ?_ _ | refine blk_drew ?_ | refine blk_alloc ?_ _)); refine blk_put (cs := #[.int .i64 ((rd_T32 l1_5 x53_2).f0), .string ((rd_T32 l1_5 x53_2).f1), .slice A160_2 ((rd_T32 l1_5 x53_2).f2).length c160_2, .int .i64 0, .int .i64 0, .slice none 0 0]) ?_ 3 _ rfl; (with_reducible repeat (first | refine blk_drewN ?_ _ | refine blk_drew ?_ | refine blk_alloc ?_ _)); refine blk_put (cs := #[.int .i64 ((rd_T32 l1_5 x53_2).f0), .string ((rd_T32 l1_5 x53_2).f1), .slice none 0 0, .int .i64 0, .int .i64 0, .slice none 0 0]) ?_ 2 _ rfl; (with_reducible repeat (first | refine blk_drewN ?_ _ | refine blk_drew ?_ | refine blk_alloc ?_ _)); refine blk_put (cs := #[.int .i64 ((rd_T32 l1_5 x53_2).f0), .string (⟨#[]⟩ : ByteArray), .slice none 0 0, .int .i64 0, .int .i64 0, .slice none 0 0]) ?_ 1 _ rfl; (with_reducible repeat (first | refine blk_drewN ?_ _ | refine blk_drew ?_ | refine blk_alloc ?_ _)); refine blk_put (cs := #[.int .i64 0, .string (⟨#[]⟩ : ByteArray), .slice none 0 0, .int .i64 0, .int .i64 0, .slice none 0 0]) ?_ 0 _ rfl; (with_reducible repeat (first | refine blk_drewN ?_ _ | refine blk_drew ?_ | refine blk_alloc ?_ _)); exact BK161.out) hb); have n3_ := Aside0.mk (below_step (be3_ HB GE151 GE152 GE161) hb); clear BK151; clear BK152; clear BK161; clear HB; have BK151 := n0_; have BK152 := n1_; have BK161 := n2_; have HB := n3_; clear n0_ n1_ n2_ n3_; (try clear hb); (try clear hb2); (try clear hk); (try clear hi)))
         go_roundg k2
         case measure => have := HJ2.out; have := HK2.out; omega
         case rel => exact ⟨(t163), (ji36), (wrap64 (x53_2 + 1)), fi_, (by first | rfl | (simp; done) | (simp only [← hji36] <;> (first | rfl | simp)) | (simp [*]; done)), fi_, H', ⟨by have := HJ2.out; have := HK2.out; omega⟩, ⟨bq_ BK151⟩, ⟨bq_ BK152⟩, ⟨be3_ HB GE151 GE152 GE161⟩⟩
        ·replace c35 := Bool.eq_false_iff.mpr c35
         subst c35
         have H1 : (evaluate_work.l0 k2 x6_2 false (mn (wrap64 (x11_2 + t162)) 1048577) l1_5 (l1_5.length : Int) (wrap64 (x53_2 + 1)) l0_0 l0_1 a0_2) = some (r1, r2) := by rw [if_neg (show ¬ (false = true) by decide)] at H; exact H
         clear H
         have H := H1
         clear H1
         obtain ⟨ji44, hji44⟩ : ∃ j_ : Int, (mn (wrap64 (x11_2 + t162)) 1048577) = j_ := ⟨_, rfl⟩
         replace H : (evaluate_work.l0 k2 x6_2 false ji44 l1_5 (l1_5.length : Int) (wrap64 (x53_2 + 1)) l0_0 l0_1 a0_2) = some (r1, r2) := by first | (rw [hji44] at H; exact H) | (simp only [hji44] at H ⊢; exact H)
         (try rw [hji44] at A34)
         have hji44_ : (if 1048577 < (wrap64 (x11_2 + t162)) then 1048577 else (wrap64 (x11_2 + t162))) = ji44 := hji44
         have H' := Aside0.mk H
         clear H
         have p160 : 0 ≤ (x53_2 : Int) := of_decide_eq_true (by first | (with_reducible assumption) | assumption)
         have q160 : x53_2 < (l1_5.length : Int) := of_decide_eq_true (by first | (with_reducible assumption) | assumption)
         obtain ⟨ad160, A160_2, c160_2, A160_5, c160_5, e160, hx160_0, hx160_1, hx160_2, hx160_3, hx160_4, hx160_5, hl160_2, hi160_2, hl160_5, hi160_5⟩ := at_T32 HR1_5.out x53_2 p160 q160
         cases e160
         replace hx160_0 := (HB.out.cell (World.block_lt_of_cell? w _ hx160_0)).trans hx160_0
         replace hx160_1 := (HB.out.cell (World.block_lt_of_cell? w _ hx160_1)).trans hx160_1
         replace hx160_2 := (HB.out.cell (World.block_lt_of_cell? w _ hx160_2)).trans hx160_2
         replace hx160_3 := (HB.out.cell (World.block_lt_of_cell? w _ hx160_3)).trans hx160_3
         replace hx160_4 := (HB.out.cell (World.block_lt_of_cell? w _ hx160_4)).trans hx160_4
         replace hx160_5 := (HB.out.cell (World.block_lt_of_cell? w _ hx160_5)).trans hx160_5
         have HR160_2 := Aside0.mk hi160_2
         have HC160_2 := Aside0.mk hl160_2
         clear hi160_2 hl160_2
         have HR160_5 := Aside0.mk hi160_5
         have HC160_5 := Aside0.mk hl160_5
         clear hi160_5 hl160_5
         replace p160 := eq_true p160
         replace q160 := eq_true q160
         go_wp2_with (first | ((with_reducible refine gate_dst (N := 13) rfl ?_); refine box_event ?hg (N := 13) ?hd (cs := #[.int .i64 0, .string (⟨#[]⟩ : ByteArray), .slice none 0 0, .int .i64 0, .int .i64 0, .slice none 0 0]) (t := 32) ?hr ?_; (case hd => rfl); (case hg => rfl); (case hr => first | (go_simp; done) | (go_simp; rfl)); intro gb161 hg w45 hbox hb; have n0_ := Aside0.mk (blk_below (g := gb151) (o := .cells #[.slice A0_0 l0_0.length c0_0, .slice A0_1 l0_1.length c0_1, .int .i64 a0_2] 25 (0, 0)) (bq_ BK151) hb); have n1_ := Aside0.mk (blk_below (g := gb152) (o := .cells #[.int .i64 a1_0, .string a1_1, .slice A1_2 l1_2.length c1_2, .int .i64 a1_3, .int .i64 a1_4, .slice (some ad160) l1_5.length c1_5] 32 (0, 0)) (bq_ BK152) hb); have n2_ := Aside0.mk (below_step (be2_ HB GE151 GE152) hb); have n3_ := Aside0.mk (hbox); have n4_ := Aside0.mk ((by rw [hg]; exact (below_size (be2_ HB GE151 GE152)) : w.heap.size ≤ gb161)); have n5_ := Aside0.mk ((by rw [hg]; exact (below_size (be2_ HB GE151 GE152)) : w.heap.size ≤ gb161)); have n6_ := Aside0.mk ((by rw [hg]; exact Nat.ne_of_lt (blk_lt (g := gb151) (o := .cells #[.slice A0_0 l0_0.length c0_0, .slice A0_1 l0_1.length c0_1, .int .i64 a0_2] 25 (0, 0)) (bq_ BK151)) : gb151 ≠ gb161)); have n7_ := Aside0.mk ((by rw [hg]; exact Nat.ne_of_gt (blk_lt (g := gb151) (o := .cells #[.slice A0_0 l0_0.length c0_0, .slice A0_1 l0_1.length c0_1, .int .i64 a0_2] 25 (0, 0)) (bq_ BK151)) : gb161 ≠ gb151)); have n8_ := Aside0.mk ((by rw [hg]; exact Nat.ne_of_lt (blk_lt (g := gb152) (o := .cells #[.int .i64 a1_0, .string a1_1, .slice A1_2 l1_2.length c1_2, .int .i64 a1_3, .int .i64 a1_4, .slice (some ad160) l1_5.length c1_5] 32 (0, 0)) (bq_ BK152)) : gb152 ≠ gb161)); have n9_ := Aside0.mk ((by rw [hg]; exact Nat.ne_of_gt (blk_lt (g := gb152) (o := .cells #[.int .i64 a1_0, .string a1_1, .slice A1_2 l1_2.length c1_2, .int .i64 a1_3, .int .i64 a1_4, .slice (some ad160) l1_5.length c1_5] 32 (0, 0)) (bq_ BK152)) : gb161 ≠ gb152)); clear BK151; clear BK152; clear HB; have BK151 := n0_; have BK152 := n1_; have HB := n2_; have BK161 := n3_; have GW161 := n4_; have GE161 := n5_; have NB151_161 := n6_; have NB161_151 := n7_; have NB152_161 := n8_; have NB161_152 := n9_; clear n0_ n1_ n2_ n3_ n4_ n5_ n6_ n7_ n8_ n9_; clear hb hbox hg; have hnb46 := NB161_151.out; have hnc46 := NB151_161.out; have hnb47 := NB161_152.out; have hnc47 := NB152_161.out; have hcz48_0 : w45.cell? ⟨gb161, 0, none⟩ = some (.int .i64 0) := (blk_cell BK161.out 0).trans rfl; have hcz48_1 : w45.cell? ⟨gb161, 1, none⟩ = some (.string (⟨#[]⟩ : ByteArray)) := (blk_cell BK161.out 1).trans rfl; have hcz48_2 : w45.cell? ⟨gb161, 2, none⟩ = some (.slice none 0 0) := (blk_cell BK161.out 2).trans rfl; have hcz48_3 : w45.cell? ⟨gb161, 3, none⟩ = some (.int .i64 0) := (blk_cell BK161.out 3).trans rfl; have hcz48_4 : w45.cell? ⟨gb161, 4, none⟩ = some (.int .i64 0) := (blk_cell BK161.out 4).trans rfl; have hcz48_5 : w45.cell? ⟨gb161, 5, none⟩ = some (.slice none 0 0) := (blk_cell BK161.out 5).trans rfl; have hfz48_0 := blk_frozen BK161.out 0; have hfz48_1 := blk_frozen BK161.out 1; have hfz48_2 := blk_frozen BK161.out 2; have hfz48_3 := blk_frozen BK161.out 3; have hfz48_4 := blk_frozen BK161.out 4; have hfz48_5 := blk_frozen BK161.out 5; have hnb49 := NB151_152.out; have hnc49 := NB152_151.out; have hcz50_0 : w45.cell? ⟨gb151, 0, none⟩ = some (.slice A0_0 l0_0.length c0_0) := (blk_cell BK151.out 0).trans rfl; have hcz50_1 : w45.cell? ⟨gb151, 1, none⟩ = some (.slice A0_1 l0_1.length c0_1) := (blk_cell BK151.out 1).trans rfl; have hcz50_2 : w45.cell? ⟨gb151, 2, none⟩ = some (.int .i64 a0_2) := (blk_cell BK151.out 2).trans rfl; have hfz50_0 := blk_frozen BK151.out 0; have hfz50_1 := blk_frozen BK151.out 1; have hfz50_2 := blk_frozen BK151.out 2) | ((with_reducible refine gate_callee (f := 53) rfl ?_); refine goesL_ (some 60) rfl rfl Tryd.func53 (by kernel_rfl) rfl #[.agg #[.slice A0_0 l0_0.length c0_0, .slice A0_1 l0_1.length c0_1, .int .i64 a0_2], .agg #[.int .i64 ((rd_T32 l1_5 x53_2).f0), .string ((rd_T32 l1_5 x53_2).f1), .slice A160_2 ((rd_T32 l1_5 x53_2).f2).length c160_2, .int .i64 ((rd_T32 l1_5 x53_2).f3), .int .i64 ((rd_T32 l1_5 x53_2).f4), .slice A160_5 ((rd_T32 l1_5 x53_2).f5).length c160_5]] rfl (by (try simp only [List.map_toArray, List.map_cons, List.map_nil]); first | done | rfl | (simp only [List.length_drop, List.length_take]; rfl)) ?_; (with_reducible refine (ih k2 (by have := HJ2.out; have := HK2.out; omega) _ _ l0_0 _ _ l0_1 a0_2 ((rd_T32 l1_5 x53_2).f0) ((rd_T32 l1_5 x53_2).f1) _ _ ((rd_T32 l1_5 x53_2).f2) ((rd_T32 l1_5 x53_2).f3) ((rd_T32 l1_5 x53_2).f4) _ _ ((rd_T32 l1_5 x53_2).f5) t162 t163 _ ?side1 ?side2 ?side3 ?side4 ?side5 ?side6 ?side7 ?side8 A34.out).mono ?_); (case side1 => exact Kd.C_below HR0_0.out (be3_ HB GE151 GE152 GE161)); (case side2 => exact HC0_0.out); (case side3 => exact Kd.C_below HR0_1.out (be3_ HB GE151 GE152 GE161)); (case side4 => exact HC0_1.out); (case side5 => exact Kd.C_below HR160_2.out (be3_ HB GE151 GE152 GE161)); (case side6 => exact HC160_2.out); (case side7 => exact Kd.C_below HR160_5.out (be3_ HB GE151 GE152 GE161)); (case side8 => exact HC160_5.out); rintro e w51 ⟨rfl, hb⟩; refine ⟨_, rfl, ?_⟩; have n0_ := Aside0.mk (blk_below (g := gb151) (o := .cells #[.slice A0_0 l0_0.length c0_0, .slice A0_1 l0_1.length c0_1, .int .i64 a0_2] 25 (0, 0)) (by (with_reducible repeat (first | refine blk_drewN ?_ _ | refine blk_drew ?_ | refine blk_alloc ?_ _)); refine blk_far ?_ NB151_161.out _; (with_reducible repeat (first | refine blk_drewN ?_ _ | refine blk_drew ?_ | refine blk_alloc ?_ _)); refine blk_far ?_ NB151_161.out _; (with_reducible repeat (first | refine blk_drewN ?_ _ | refine blk_drew ?_ | refine blk_alloc ?_ _)); refine blk_far ?_ NB151_161.out _; (with_reducible repeat (first | refine blk_drewN ?_ _ | refine blk_drew ?_ | refine blk_alloc ?_ _)); refine blk_far ?_ NB151_161.out _; (with_reducible repeat (first | refine blk_drewN ?_ _ | refine blk_drew ?_ | refine blk_alloc ?_ _)); refine blk_far ?_ NB151_161.out _; (with_reducible repeat (first | refine blk_drewN ?_ _ | refine blk_drew ?_ | refine blk_alloc ?_ _)); refine blk_far ?_ NB151_161.out _; (with_reducible repeat (first | refine blk_drewN ?_ _ | refine blk_drew ?_ | refine blk_alloc ?_ _)); exact BK151.out) hb); have n1_ := Aside0.mk (blk_below (g := gb152) (o := .cells #[.int .i64 a1_0, .string a1_1, .slice A1_2 l1_2.length c1_2, .int .i64 a1_3, .int .i64 a1_4, .slice (some ad160) l1_5.length c1_5] 32 (0, 0)) (by (with_reducible repeat (first | refine blk_drewN ?_ _ | refine blk_drew ?_ | refine blk_alloc ?_ _)); refine blk_far ?_ NB152_161.out _; (with_reducible repeat (first | refine blk_drewN ?_ _ | refine blk_drew ?_ | refine blk_alloc ?_ _)); refine blk_far ?_ NB152_161.out _; (with_reducible repeat (first | refine blk_drewN ?_ _ | refine blk_drew ?_ | refine blk_alloc ?_ _)); refine blk_far ?_ NB152_161.out _; (with_reducible repeat (first | refine blk_drewN ?_ _ | refine blk_drew ?_ | refine blk_alloc ?_ _)); refine blk_far ?_ NB152_161.out _; (with_reducible repeat (first | refine blk_drewN ?_ _ | refine blk_drew ?_ | refine blk_alloc ?_ _)); refine blk_far ?_ NB152_161.out _; (with_reducible repeat (first | refine blk_drewN ?_ _ | refine blk_drew ?_ | refine blk_alloc ?_ _)); refine blk_far ?_ NB152_161.out _; (with_reducible repeat (first | refine blk_drewN ?_ _ | refine blk_drew ?_ | refine blk_alloc ?_ _)); exact BK152.out) hb); have n2_ := Aside0.mk (blk_below (g := gb161) (o := .cells #[.int .i64 ((rd_T32 l1_5 x53_2).f0), .string ((rd_T32 l1_5 x53_2).f1), .slice A160_2 ((rd_T32 l1_5 x53_2).f2).length c160_2, .int .i64 ((rd_T32 l1_5 x53_2).f3), .int .i64 ((rd_T32 l1_5 x53_2).f4), .slice A160_5 ((rd_T32 l1_5 x53_2).f5).length c160_5] 32 (0, 0)) (by (with_reducible repeat (first | refine blk_drewN ?_ _ | refine blk_drew ?_ | refine blk_alloc ?_ _)); refine blk_put (cs := #[.int .i64 ((rd_T32 l1_5 x53_2).f0), .string ((rd_T32 l1_5 x53_2).f1), .slice A160_2 ((rd_T32 l1_5 x53_2).f2).length c160_2, .int .i64 ((rd_T32 l1_5 x53_2).f3), .int .i64 ((rd_T32 l1_5 x53_2).f4), .slice none 0 0]) ?_ 5 _ rfl; (with_reducible repeat (first | refine blk_drewN ?_ _ | refine blk_drew ?_ | refine blk_alloc ?_ _)); refine blk_put (cs := #[.int .i64 ((rd_T32 l1_5 x53_2).f0), .string ((rd_T32 l1_5 x53_2).f1), .slice A160_2 ((rd_T32 l1_5 x53_2).f2).length c160_2, .int .i64 ((rd_T32 l1_5 x53_2).f3), .int .i64 0, .slice none 0 0]) ?_ 4 _ rfl; (with_reducible repeat (first | refine blk_drewN ?_ _ | refine blk_drew ?_ | refine blk_alloc ?_ _)); refine blk_put (cs := #[.int .i64 ((rd_T32 l1_5 x53_2).f0), .string ((rd_T32 l1_5 x53_2).f1), .slice A160_2 ((rd_T32 l1_5 x53_2).f2).length c160_2, .int .i64 0, .int .i64 0, .slice none 0 0]) ?_ 3 _ rfl; (with_reducible repeat (first | refine blk_drewN ?_ _ | refine blk_drew ?_ | refine blk_alloc ?_ _)); refine blk_put (cs := #[.int .i64 ((rd_T32 l1_5 x53_2).f0), .string ((rd_T32 l1_5 x53_2).f1), .slice none 0 0, .int .i64 0, .int .i64 0, .slice none 0 0]) ?_ 2 _ rfl; (with_reducible repeat (first | refine blk_drewN ?_ _ | refine blk_drew ?_ | refine blk_alloc ?_ _)); refine blk_put (cs := #[.int .i64 ((rd_T32 l1_5 x53_2).f0), .string (⟨#[]⟩ : ByteArray), .slice none 0 0, .int .i64 0, .int .i64 0, .slice none 0 0]) ?_ 1 _ rfl; (with_reducible repeat (first | refine blk_drewN ?_ _ | refine blk_drew ?_ | refine blk_alloc ?_ _)); refine blk_put (cs := #[.int .i64 0, .string (⟨#[]⟩ : ByteArray), .slice none 0 0, .int .i64 0, .int .i64 0, .slice none 0 0]) ?_ 0 _ rfl; (with_reducible repeat (first | refine blk_drewN ?_ _ | refine blk_drew ?_ | refine blk_alloc ?_ _)); exact BK161.out) hb); have n3_ := Aside0.mk (below_step (be3_ HB GE151 GE152 GE161) hb); clear BK151; clear BK152; clear BK161; clear HB; have BK151 := n0_; have BK152 := n1_; have BK161 := n2_; have HB := n3_; clear n0_ n1_ n2_ n3_; (try clear hb); (try clear hb2); (try clear hk); (try clear hi)))
         go_roundg k2
         case measure => have := HJ2.out; have := HK2.out; omega
         case rel => exact ⟨(false), (ji44), (wrap64 (x53_2 + 1)), fi_, (by first | rfl | (simp; done) | (simp only [← hji44] <;> (first | rfl | simp)) | (simp [*]; done)), fi_, H', ⟨by have := HJ2.out; have := HK2.out; omega⟩, ⟨bq_ BK151⟩, ⟨bq_ BK152⟩, ⟨be3_ HB GE151 GE152 GE161⟩⟩
       ·rw [if_neg c33] at H
        exact absurd H (by simp)
      ·rw [if_neg c32] at H
       exact absurd H (by simp)
     ·rw [if_neg c31] at H
      have c31b0 : decide (x53_2 < (l1_5.length : Int)) = false := decide_eq_false c31
      clear c31
      obtain ⟨ji52, hji52⟩ : ∃ j_ : Int, (mn (wrap64 (1 + (wrap64 (x11_2 * x6_2)))) 1048577) = j_ := ⟨_, rfl⟩
      replace H : (some (ji52, x7_2)) = some (r1, r2) := by first | (rw [hji52] at H; exact H) | (simp only [hji52] at H ⊢; exact H)
      have hji52_ : (if 1048577 < (wrap64 (1 + (wrap64 (x11_2 * x6_2)))) then 1048577 else (wrap64 (1 + (wrap64 (x11_2 * x6_2))))) = ji52 := hji52
      simp only [Option.some.injEq, Prod.mk.injEq] at H
      obtain ⟨rfl, rfl⟩ := H
      go_wp2
      go_ret2
      exact ⟨by first | rfl | (simp [errW_none, errW_some] <;> rfl) | (simp only [← hji52]; first | rfl | (simp [errW_none, errW_some] <;> rfl)) | (simp [*, errW_none, errW_some] <;> rfl), be2_ HB GE151 GE152⟩

end Go.Proofs.YtolpckflofjfhaaDoor.P
