-- Written by the session's own program wip/tools/xprint.py out of the translation, with the kit's print.py on a scratch copy; functions given by hand stand among them.
import Derived.Test.YtfampmajmbediaaPx0
namespace Go.Proofs.Ytfampmajmbediaa.P
open Go.RowKit Go.Proofs.YtfampmajmbediaaW.PrintWords Go.Proofs.YtfampmajmbediaaW.PrintLast Go.Proofs.YtfampmajmbediaaW.PrintMore
attribute [local go_sem] max2_int min2_int max_two min_two max_three min_three max_four min_four   -- for this text's walks alone
set_option linter.unusedVariables false
set_option linter.unusedSimpArgs false

/-! ### pentaglotref46_Count: function 47 -/
mutual
def pentaglotref46_Count.j0 : Nat → ByteArray → Int → ByteArray → List Int → List (S27) → Option (Int)
 | 0, _, _, _, _, _ => none
 | k + 1, x1, x5, x399000, x399001, x399002 => pentaglotref46_Count.l0 k x1 x5 0 x399000 x399001 x399002
def pentaglotref46_Count.l0 : Nat → ByteArray → Int → Int → ByteArray → List Int → List (S27) → Option (Int)
 | 0, _, _, _, _, _, _ => none
 | k + 1, x1, x5, x6, x399000, x399001, x399002 => if x6 < (x399002.length : Int) then (if 0 ≤ x6 then ((pentaglotref46_Count.f k ((rd_T27 x399002 x6).f0) ((rd_T27 x399002 x6).f1) ((rd_T27 x399002 x6).f2) x1).bind fun t400 => (pentaglotref46_Count.l0 k x1 (wrap64 (x5 + t400)) (wrap64 (x6 + 1)) x399000 x399001 x399002)) else (none)) else (some x5)
def pentaglotref46_Count.f : Nat → ByteArray → List Int → List (S27) → ByteArray → Option (Int)
 | 0, _, _, _, _ => none
 | k + 1, a0_0, l0_1, l0_2, a1 => if a0_0.toList = a1.toList then (pentaglotref46_Count.j0 k a1 1 a0_0 l0_1 l0_2) else (pentaglotref46_Count.j0 k a1 0 a0_0 l0_1 l0_2)
end
theorem pentaglotref46_Count.mono_l : ∀ k, (∀ y0 y1 y2 y3, LeO (pentaglotref46_Count.f k y0 y1 y2 y3) (pentaglotref46_Count.f (k + 1) y0 y1 y2 y3)) ∧ (∀ y0 y1 y2 y3 y4, LeO (pentaglotref46_Count.j0 k y0 y1 y2 y3 y4) (pentaglotref46_Count.j0 (k + 1) y0 y1 y2 y3 y4)) ∧ (∀ y0 y1 y2 y3 y4 y5, LeO (pentaglotref46_Count.l0 k y0 y1 y2 y3 y4 y5) (pentaglotref46_Count.l0 (k + 1) y0 y1 y2 y3 y4 y5))
 | 0 => ⟨fun _ _ _ _ r h => by simp [pentaglotref46_Count.f] at h, fun _ _ _ _ _ r h => by simp [pentaglotref46_Count.j0] at h, fun _ _ _ _ _ _ r h => by simp [pentaglotref46_Count.l0] at h⟩
 | k + 1 => by
  obtain ⟨ih0, ih1, ih2⟩ := pentaglotref46_Count.mono_l k
  refine ⟨?_, ?_, ?_⟩
  ·intro y0 y1 y2 y3
   unfold pentaglotref46_Count.f
   repeat' first
   | (with_reducible exact ih0 _ _ _ _)
   | (with_reducible exact ih1 _ _ _ _ _)
   | (with_reducible exact ih2 _ _ _ _ _ _)
   | (with_reducible exact LeO.refl _)
   | (with_reducible exact LeO.none _)
   | (with_reducible refine LeO.ite ?_ ?_)
   | (with_reducible refine LeO.bind ?_ (fun _ => ?_))
   | exact ih0 _ _ _ _
   | exact ih1 _ _ _ _ _
   | exact ih2 _ _ _ _ _ _
   | exact LeO.none _
   | refine LeO.ite ?_ ?_
   | refine LeO.bind ?_ (fun _ => ?_)
  ·intro y0 y1 y2 y3 y4
   unfold pentaglotref46_Count.j0
   repeat' first
   | (with_reducible exact ih0 _ _ _ _)
   | (with_reducible exact ih1 _ _ _ _ _)
   | (with_reducible exact ih2 _ _ _ _ _ _)
   | (with_reducible exact LeO.refl _)
   | (with_reducible exact LeO.none _)
   | (with_reducible refine LeO.ite ?_ ?_)
   | (with_reducible refine LeO.bind ?_ (fun _ => ?_))
   | exact ih0 _ _ _ _
   | exact ih1 _ _ _ _ _
   | exact ih2 _ _ _ _ _ _
   | exact LeO.none _
   | refine LeO.ite ?_ ?_
   | refine LeO.bind ?_ (fun _ => ?_)
  ·intro y0 y1 y2 y3 y4 y5
   unfold pentaglotref46_Count.l0
   repeat' first
   | (with_reducible exact ih0 _ _ _ _)
   | (with_reducible exact ih1 _ _ _ _ _)
   | (with_reducible exact ih2 _ _ _ _ _ _)
   | (with_reducible exact LeO.refl _)
   | (with_reducible exact LeO.none _)
   | (with_reducible refine LeO.ite ?_ ?_)
   | (with_reducible refine LeO.bind ?_ (fun _ => ?_))
   | exact ih0 _ _ _ _
   | exact ih1 _ _ _ _ _
   | exact ih2 _ _ _ _ _ _
   | exact LeO.none _
   | refine LeO.ite ?_ ?_
   | refine LeO.bind ?_ (fun _ => ?_)
theorem pentaglotref46_Count.mono : ∀ a0 a1 a2 a3 k, LeO (pentaglotref46_Count.f k a0 a1 a2 a3) (pentaglotref46_Count.f (k + 1) a0 a1 a2 a3) := by
 intro a0 a1 a2 a3 k
 obtain ⟨ih0, ih1, ih2⟩ := pentaglotref46_Count.mono_l k
 exact ih0 a0 a1 a2 a3
set_option maxHeartbeats 8000000 in
set_option maxRecDepth 100000 in
theorem pentaglotref46_Count.calls (k : Nat) : ∀ (a0_0 : ByteArray) (A0_1 : Option Addr) (c0_1 : Nat) (l0_1 : List Int) (A0_2 : Option Addr) (c0_2 : Nat) (l0_2 : List (S27)) (a1 : ByteArray) (r : Int) (w : World) (hr0_1 : Kd.C (Kd.int .i64) w A0_1 l0_1.length l0_1) (hc0_1 : l0_1.length ≤ c0_1) (hr0_2 : Kd.C k27 w A0_2 l0_2.length l0_2) (hc0_2 : l0_2.length ≤ c0_2) (h : pentaglotref46_Count.f k a0_0 l0_1 l0_2 a1 = some r),
  Calls Try.prog 47 #[.agg #[.string a0_0, .slice A0_1 l0_1.length c0_1, .slice A0_2 l0_2.length c0_2], .string a1] w fun e w' => e = .returned (.int .i64 r) ∧ Below w.heap.size w w' := by
 induction k using Nat.strongRecOn with
 | _ k ih =>
 intro a0_0 A0_1 c0_1 l0_1 A0_2 c0_2 l0_2 a1 r w hr0_1 hc0_1 hr0_2 hc0_2 h
 cases k with
 | zero => exact absurd h (by simp [pentaglotref46_Count.f])
 | succ k =>
 simp only [pentaglotref46_Count.f] at h
 have hu27 := Try.underlying27
 have HR0_1 := Aside0.mk hr0_1
 have HC0_1 := Aside0.mk hc0_1
 clear hr0_1 hc0_1
 have HR0_2 := Aside0.mk hr0_2
 have HC0_2 := Aside0.mk hc0_2
 clear hr0_2 hc0_2
 have HB := Aside0.mk (Below.refl w.heap.size w)
 have H : (if a0_0.toList = a1.toList then (pentaglotref46_Count.j0 k a1 1 a0_0 l0_1 l0_2) else (pentaglotref46_Count.j0 k a1 0 a0_0 l0_1 l0_2)) = some r := h
 clear h
 have HC3 := Aside0.mk H
 clear H
 go_enter Try.func47, Try.ntmps47
 go_upto_if 10 with (first | ((with_reducible refine gate_dst (N := 2) rfl ?_); refine box_event ?hg (N := 2) ?hd (cs := #[.string a0_0, .slice A0_1 l0_1.length c0_1, .slice A0_2 l0_2.length c0_2]) (t := 27) ?hr ?_; (case hd => rfl); (case hg => rfl); (case hr => first | (go_simp; done) | (go_simp; rfl)); intro gb398 hg w4 hbox hb; have n0_ := Aside0.mk (below_step (be_ HB) hb); have n1_ := Aside0.mk (hbox); have n2_ := Aside0.mk ((by rw [hg]; exact (below_size (be_ HB)) : w.heap.size ≤ gb398)); have n3_ := Aside0.mk ((by rw [hg]; exact (below_size (be_ HB)) : w.heap.size ≤ gb398)); clear HB; have HB := n0_; have BK398 := n1_; have GW398 := n2_; have GE398 := n3_; clear n0_ n1_ n2_ n3_; clear hb hbox hg; have hcz5_0 : w4.cell? ⟨gb398, 0, none⟩ = some (.string a0_0) := (blk_cell BK398.out 0).trans rfl; have hcz5_1 : w4.cell? ⟨gb398, 1, none⟩ = some (.slice A0_1 l0_1.length c0_1) := (blk_cell BK398.out 1).trans rfl; have hcz5_2 : w4.cell? ⟨gb398, 2, none⟩ = some (.slice A0_2 l0_2.length c0_2) := (blk_cell BK398.out 2).trans rfl; have hfz5_0 := blk_frozen BK398.out 0; have hfz5_1 := blk_frozen BK398.out 1; have hfz5_2 := blk_frozen BK398.out 2))
 (try simp only [Act.put, List.setIfInBounds_toArray, List.set_cons_zero, List.set_cons_succ])
 go_cut [5] (fun v5 wc => ∃ (kq : Nat) (x5_2 : Int), v5 = .int .i64 x5_2 ∧ Aside0 (pentaglotref46_Count.j0 kq a1 x5_2 a0_0 l0_1 l0_2 = some r) ∧ Aside0 (kq ≤ k) ∧ Aside0 (wc.heap[gb398]? = some (.cells #[.string a0_0, (.slice A0_1 l0_1.length c0_1), (.slice A0_2 l0_2.length c0_2)] 27 (0, 0))) ∧ Aside0 (Below w.heap.size w wc))
 case first =>
  have H := HC3.out
  clear HC3
  by_cases c6 : a0_0.toList = a1.toList
  ·rw [if_pos c6] at H
   have c6b0 : (a0_0.toList == a1.toList) = true := beq_iff_eq.mpr c6
   have c6b1 : (a0_0.toList != a1.toList) = false := bne_eq_false_iff_eq.mpr c6
   clear c6
   (first | rw [c6b0] | (simp only [i64_w, i32_w]; rw [c6b0]) | skip)
   have H' := Aside0.mk H
   clear H
   go_wp2
   go_meet
   case rel => exact ⟨_, (1), fi_, H', ⟨by first | omega | exact Nat.le_refl _⟩, ⟨bq_ BK398⟩, ⟨be1_ HB GE398⟩⟩
  ·rw [if_neg c6] at H
   have c6b0 : (a0_0.toList == a1.toList) = false := beq_eq_false_iff_ne.mpr c6
   have c6b1 : (a0_0.toList != a1.toList) = true := bne_iff_ne.mpr c6
   (first | rw [c6b0] | (simp only [i64_w, i32_w]; rw [c6b0]) | skip)
   have H' := Aside0.mk H
   clear H
   go_wp2
   go_meet
   case rel => exact ⟨_, (0), fi_, H', ⟨by first | omega | exact Nat.le_refl _⟩, ⟨bq_ BK398⟩, ⟨be1_ HB GE398⟩⟩
 case rest =>
  clear HC3
  try clear p2
  try clear c4
  try clear c6
  try clear c6b0
  try clear c6b1
  try clear hcz5_0
  try clear hcz5_1
  try clear hcz5_2
  try clear hfz5_0
  try clear hfz5_1
  try clear hfz5_2
  obtain ⟨kq, x5_2, rfl, HA, HJ2, BK398, HB⟩ := hcut
  cases kq with
  | zero => exact absurd HA.out (by simp [pentaglotref46_Count.j0])
  | succ kj2 =>
   have H := HA.out
   clear HA
   simp only [pentaglotref46_Count.j0] at H
   have H' := Aside0.mk H
   clear H
   go_wp2
   go_loopg [5, 6] kj2 (fun kq v5 v6 w' => ∃ (x5_2 : Int) (x6_2 : Int), v5 = .int .i64 x5_2 ∧ v6 = .int .i64 x6_2 ∧ Aside0 (pentaglotref46_Count.l0 kq a1 x5_2 x6_2 a0_0 l0_1 l0_2 = some r) ∧ Aside0 (kq ≤ kj2) ∧ Aside0 (w'.heap[gb398]? = some (.cells #[.string a0_0, (.slice A0_1 l0_1.length c0_1), (.slice A0_2 l0_2.length c0_2)] 27 (0, 0))) ∧ Aside0 (Below w.heap.size w w'))
   case atStart => exact ⟨(x5_2), (0), fi_, fi_, H', ⟨Nat.le_refl _⟩, ⟨bq_ BK398⟩, ⟨be1_ HB GE398⟩⟩
   case round =>
    clear H'
    try clear p2
    try clear c4
    try clear c6
    try clear c6b0
    try clear c6b1
    try clear hcz5_0
    try clear hcz5_1
    try clear hcz5_2
    try clear hfz5_0
    try clear hfz5_1
    try clear hfz5_2
    try clear p2
    obtain ⟨x5_2, x6_2, rfl, rfl, HA, HK2, BK398, HB⟩ := hrel
    cases gk with
    | zero => exact absurd HA.out (by simp [pentaglotref46_Count.l0])
    | succ k2 =>
     have H := HA.out
     clear HA
     simp only [pentaglotref46_Count.l0] at H
     by_cases c7 : x6_2 < (l0_2.length : Int)
     ·rw [if_pos c7] at H
      have c7b0 : decide (x6_2 < (l0_2.length : Int)) = true := decide_eq_true c7
      clear c7
      by_cases c8 : 0 ≤ x6_2
      ·rw [if_pos c8] at H
       have c8b0 : decide (0 ≤ x6_2) = true := decide_eq_true c8
       clear c8
       replace H := Option.bind_eq_some_iff.mp H
       obtain ⟨t400, A90, H⟩ := H
       replace H : (pentaglotref46_Count.l0 k2 a1 (wrap64 (x5_2 + t400)) (wrap64 (x6_2 + 1)) a0_0 l0_1 l0_2) = some r := H
       have A9 := Aside0.mk A90
       clear A90
       have H' := Aside0.mk H
       clear H
       have hcz10_0 : wr.cell? ⟨gb398, 0, none⟩ = some (.string a0_0) := (blk_cell BK398.out 0).trans rfl
       have hcz10_1 : wr.cell? ⟨gb398, 1, none⟩ = some (.slice A0_1 l0_1.length c0_1) := (blk_cell BK398.out 1).trans rfl
       have hcz10_2 : wr.cell? ⟨gb398, 2, none⟩ = some (.slice A0_2 l0_2.length c0_2) := (blk_cell BK398.out 2).trans rfl
       have hfz10_0 := blk_frozen BK398.out 0
       have hfz10_1 := blk_frozen BK398.out 1
       have hfz10_2 := blk_frozen BK398.out 2
       have p399 : 0 ≤ (x6_2 : Int) := of_decide_eq_true (by first | (with_reducible assumption) | assumption)
       have q399 : x6_2 < (l0_2.length : Int) := of_decide_eq_true (by first | (with_reducible assumption) | assumption)
       obtain ⟨ad399, A399_1, c399_1, A399_2, c399_2, e399, hx399_0, hx399_1, hx399_2, hl399_1, hi399_1, hl399_2, hi399_2⟩ := at_T27 HR0_2.out x6_2 p399 q399
       cases e399
       replace hx399_0 := (HB.out.cell (World.block_lt_of_cell? w _ hx399_0)).trans hx399_0
       replace hx399_1 := (HB.out.cell (World.block_lt_of_cell? w _ hx399_1)).trans hx399_1
       replace hx399_2 := (HB.out.cell (World.block_lt_of_cell? w _ hx399_2)).trans hx399_2
       have HR399_1 := Aside0.mk hi399_1
       have HC399_1 := Aside0.mk hl399_1
       clear hi399_1 hl399_1
       have HR399_2 := Aside0.mk hi399_2
       have HC399_2 := Aside0.mk hl399_2
       clear hi399_2 hl399_2
       replace p399 := eq_true p399
       replace q399 := eq_true q399
       go_wp2_with (first | ((with_reducible refine gate_callee (f := 47) rfl ?_); refine goesL_ (some 25) rfl rfl Try.func47 (by kernel_rfl) rfl #[.agg #[.string ((rd_T27 l0_2 x6_2).f0), .slice A399_1 ((rd_T27 l0_2 x6_2).f1).length c399_1, .slice A399_2 ((rd_T27 l0_2 x6_2).f2).length c399_2], .string a1] rfl (by (try simp only [List.map_toArray, List.map_cons, List.map_nil]); first | done | rfl | (simp only [List.length_drop, List.length_take]; rfl)) ?_; (with_reducible refine (ih k2 (by have := HJ2.out; have := HK2.out; omega) ((rd_T27 l0_2 x6_2).f0) _ _ ((rd_T27 l0_2 x6_2).f1) _ _ ((rd_T27 l0_2 x6_2).f2) a1 t400 _ ?side1 ?side2 ?side3 ?side4 A9.out).mono ?_); (case side1 => exact cs_ (Kd.C_below HR399_1.out HB.out)); (case side2 => exact HC399_1.out); (case side3 => exact cs_ (Kd.C_below HR399_2.out HB.out)); (case side4 => exact HC399_2.out); rintro e w11 ⟨rfl, hb⟩; refine ⟨_, rfl, ?_⟩; have n0_ := Aside0.mk (blk_below (g := gb398) (o := .cells #[.string a0_0, .slice A0_1 l0_1.length c0_1, .slice (some ad399) l0_2.length c0_2] 27 (0, 0)) (bq_ BK398) hb); have n1_ := Aside0.mk (below_step (be1_ HB GE398) hb); clear BK398; clear HB; have BK398 := n0_; have HB := n1_; clear n0_ n1_; (try clear hb); (try clear hb2); (try clear hk); (try clear hi)))
       go_roundg k2
       case measure => have := HJ2.out; have := HK2.out; omega
       case rel => exact ⟨(wrap64 (x5_2 + t400)), (wrap64 (x6_2 + 1)), fi_, fi_, H', ⟨by have := HJ2.out; have := HK2.out; omega⟩, ⟨bq_ BK398⟩, ⟨be1_ HB GE398⟩⟩
      ·rw [if_neg c8] at H
       exact absurd H (by simp)
     ·rw [if_neg c7] at H
      have c7b0 : decide (x6_2 < (l0_2.length : Int)) = false := decide_eq_false c7
      clear c7
      obtain rfl := Option.some.inj H
      have hcz12_0 : wr.cell? ⟨gb398, 0, none⟩ = some (.string a0_0) := (blk_cell BK398.out 0).trans rfl
      have hcz12_1 : wr.cell? ⟨gb398, 1, none⟩ = some (.slice A0_1 l0_1.length c0_1) := (blk_cell BK398.out 1).trans rfl
      have hcz12_2 : wr.cell? ⟨gb398, 2, none⟩ = some (.slice A0_2 l0_2.length c0_2) := (blk_cell BK398.out 2).trans rfl
      have hfz12_0 := blk_frozen BK398.out 0
      have hfz12_1 := blk_frozen BK398.out 1
      have hfz12_2 := blk_frozen BK398.out 2
      go_wp2
      go_ret
      exact ⟨er_, be1_ HB GE398⟩

end Go.Proofs.Ytfampmajmbediaa.P
