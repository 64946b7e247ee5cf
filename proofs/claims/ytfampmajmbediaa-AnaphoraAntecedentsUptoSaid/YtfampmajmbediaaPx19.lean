-- Written by the session's own program wip/tools/xprint.py out of the translation, with the kit's print.py on a scratch copy; functions given by hand stand among them.
import Derived.Test.YtfampmajmbediaaPx0
import Derived.Test.YtfampmajmbediaaPx18
namespace Go.Proofs.Ytfampmajmbediaa.P
open Go.RowKit Go.Proofs.YtfampmajmbediaaW.PrintWords Go.Proofs.YtfampmajmbediaaW.PrintLast Go.Proofs.YtfampmajmbediaaW.PrintMore
attribute [local go_sem] max2_int min2_int max_two min_two max_three min_three max_four min_four   -- for this text's walks alone
set_option linter.unusedVariables false
set_option linter.unusedSimpArgs false

/-! ### pentaglotref31_Well: function 61 -/
mutual
def pentaglotref31_Well.j0 : Nat → List (S67) → Int → Bool → ByteArray → List Int → List (S27) → Option (ByteArray × Bool)
 | 0, _, _, _, _, _, _ => none
 | k + 1, x0, x6, x41, x248000, x248001, x248002 => if x41 = true then (some ((⟨#[]⟩ : ByteArray), false)) else (pentaglotref31_Well.l0 k x0 x6 0 x248000 x248001 x248002)
def pentaglotref31_Well.l0 : Nat → List (S67) → Int → Int → ByteArray → List Int → List (S27) → Option (ByteArray × Bool)
 | 0, _, _, _, _, _, _ => none
 | k + 1, x0, x6, x7, x248000, x248001, x248002 => if x7 < (x248001.length : Int) then (if 0 ≤ x7 then ((pentaglotref31_Value.f (rd x248001 x7)).bind fun t252 => (if t252 = true then (pentaglotref31_Well.l0 k x0 x6 (wrap64 (x7 + 1)) x248000 x248001 x248002) else (some ((⟨#[]⟩ : ByteArray), false)))) else (none)) else (pentaglotref31_Well.l1 k x0 x6 0 x248000 x248001 x248002)
def pentaglotref31_Well.l1 : Nat → List (S67) → Int → Int → ByteArray → List Int → List (S27) → Option (ByteArray × Bool)
 | 0, _, _, _, _, _, _ => none
 | k + 1, x0, x6, x8, x248000, x248001, x248002 => if x8 < (x248002.length : Int) then (if 0 ≤ x8 then ((pentaglotref31_Well.f k x0 ((rd_T27 x248002 x8).f0) ((rd_T27 x248002 x8).f1) ((rd_T27 x248002 x8).f2)).bind fun bt254 => (if bt254.2 = true then (if 0 ≤ x6 then (if x6 < (x0.length : Int) then (if x8 < (((rd_T67 x0 x6).f1).length : Int) then (if bt254.1.toList = (rdOf ByteArray.empty ((rd_T67 x0 x6).f1) x8).toList then (pentaglotref31_Well.l1 k x0 x6 (wrap64 (x8 + 1)) x248000 x248001 x248002) else (some ((⟨#[]⟩ : ByteArray), false))) else (none)) else (none)) else (none)) else (some ((⟨#[]⟩ : ByteArray), false)))) else (none)) else (if 0 ≤ x6 then (if x6 < (x0.length : Int) then (some ((rd_T67 x0 x6).f2, true)) else (none)) else (none))
def pentaglotref31_Well.f : Nat → List (S67) → ByteArray → List Int → List (S27) → Option (ByteArray × Bool)
 | 0, _, _, _, _ => none
 | k + 1, l0, a1_0, l1_1, l1_2 => (pentaglotref31_Index.f k l0 a1_0).bind fun t248 => (if t248 = (l0.length : Int) then (pentaglotref31_Well.j0 k l0 t248 true a1_0 l1_1 l1_2) else (if 0 ≤ t248 then (if t248 < (l0.length : Int) then (if (l1_2.length : Int) = (((rd_T67 l0 t248).f1).length : Int) then (pentaglotref31_Well.j0 k l0 t248 ((l1_1.length : Int) != ((rd_T67 l0 t248).f3)) a1_0 l1_1 l1_2) else (pentaglotref31_Well.j0 k l0 t248 true a1_0 l1_1 l1_2)) else (none)) else (none)))
end
theorem pentaglotref31_Well.mono_l : ∀ k, (∀ y0 y1 y2 y3, LeO (pentaglotref31_Well.f k y0 y1 y2 y3) (pentaglotref31_Well.f (k + 1) y0 y1 y2 y3)) ∧ (∀ y0 y1 y2 y3 y4 y5, LeO (pentaglotref31_Well.j0 k y0 y1 y2 y3 y4 y5) (pentaglotref31_Well.j0 (k + 1) y0 y1 y2 y3 y4 y5)) ∧ (∀ y0 y1 y2 y3 y4 y5, LeO (pentaglotref31_Well.l0 k y0 y1 y2 y3 y4 y5) (pentaglotref31_Well.l0 (k + 1) y0 y1 y2 y3 y4 y5)) ∧ (∀ y0 y1 y2 y3 y4 y5, LeO (pentaglotref31_Well.l1 k y0 y1 y2 y3 y4 y5) (pentaglotref31_Well.l1 (k + 1) y0 y1 y2 y3 y4 y5))
 | 0 => ⟨fun _ _ _ _ r h => by simp [pentaglotref31_Well.f] at h, fun _ _ _ _ _ _ r h => by simp [pentaglotref31_Well.j0] at h, fun _ _ _ _ _ _ r h => by simp [pentaglotref31_Well.l0] at h, fun _ _ _ _ _ _ r h => by simp [pentaglotref31_Well.l1] at h⟩
 | k + 1 => by
  obtain ⟨ih0, ih1, ih2, ih3⟩ := pentaglotref31_Well.mono_l k
  refine ⟨?_, ?_, ?_, ?_⟩
  ·intro y0 y1 y2 y3
   unfold pentaglotref31_Well.f
   repeat' first
   | (with_reducible exact ih0 _ _ _ _)
   | (with_reducible exact ih1 _ _ _ _ _ _)
   | (with_reducible exact ih2 _ _ _ _ _ _)
   | (with_reducible exact ih3 _ _ _ _ _ _)
   | (with_reducible exact pentaglotref31_Index.mono _ _ _)
   | (with_reducible exact LeO.refl _)
   | (with_reducible exact LeO.none _)
   | (with_reducible refine LeO.ite ?_ ?_)
   | (with_reducible refine LeO.bind ?_ (fun _ => ?_))
   | exact ih0 _ _ _ _
   | exact ih1 _ _ _ _ _ _
   | exact ih2 _ _ _ _ _ _
   | exact ih3 _ _ _ _ _ _
   | exact pentaglotref31_Index.mono _ _ _
   | exact LeO.none _
   | refine LeO.ite ?_ ?_
   | refine LeO.bind ?_ (fun _ => ?_)
  ·intro y0 y1 y2 y3 y4 y5
   unfold pentaglotref31_Well.j0
   repeat' first
   | (with_reducible exact ih0 _ _ _ _)
   | (with_reducible exact ih1 _ _ _ _ _ _)
   | (with_reducible exact ih2 _ _ _ _ _ _)
   | (with_reducible exact ih3 _ _ _ _ _ _)
   | (with_reducible exact pentaglotref31_Index.mono _ _ _)
   | (with_reducible exact LeO.refl _)
   | (with_reducible exact LeO.none _)
   | (with_reducible refine LeO.ite ?_ ?_)
   | (with_reducible refine LeO.bind ?_ (fun _ => ?_))
   | exact ih0 _ _ _ _
   | exact ih1 _ _ _ _ _ _
   | exact ih2 _ _ _ _ _ _
   | exact ih3 _ _ _ _ _ _
   | exact pentaglotref31_Index.mono _ _ _
   | exact LeO.none _
   | refine LeO.ite ?_ ?_
   | refine LeO.bind ?_ (fun _ => ?_)
  ·intro y0 y1 y2 y3 y4 y5
   unfold pentaglotref31_Well.l0
   repeat' first
   | (with_reducible exact ih0 _ _ _ _)
   | (with_reducible exact ih1 _ _ _ _ _ _)
   | (with_reducible exact ih2 _ _ _ _ _ _)
   | (with_reducible exact ih3 _ _ _ _ _ _)
   | (with_reducible exact pentaglotref31_Index.mono _ _ _)
   | (with_reducible exact LeO.refl _)
   | (with_reducible exact LeO.none _)
   | (with_reducible refine LeO.ite ?_ ?_)
   | (with_reducible refine LeO.bind ?_ (fun _ => ?_))
   | exact ih0 _ _ _ _
   | exact ih1 _ _ _ _ _ _
   | exact ih2 _ _ _ _ _ _
   | exact ih3 _ _ _ _ _ _
   | exact pentaglotref31_Index.mono _ _ _
   | exact LeO.none _
   | refine LeO.ite ?_ ?_
   | refine LeO.bind ?_ (fun _ => ?_)
  ·intro y0 y1 y2 y3 y4 y5
   unfold pentaglotref31_Well.l1
   repeat' first
   | (with_reducible exact ih0 _ _ _ _)
   | (with_reducible exact ih1 _ _ _ _ _ _)
   | (with_reducible exact ih2 _ _ _ _ _ _)
   | (with_reducible exact ih3 _ _ _ _ _ _)
   | (with_reducible exact pentaglotref31_Index.mono _ _ _)
   | (with_reducible exact LeO.refl _)
   | (with_reducible exact LeO.none _)
   | (with_reducible refine LeO.ite ?_ ?_)
   | (with_reducible refine LeO.bind ?_ (fun _ => ?_))
   | exact ih0 _ _ _ _
   | exact ih1 _ _ _ _ _ _
   | exact ih2 _ _ _ _ _ _
   | exact ih3 _ _ _ _ _ _
   | exact pentaglotref31_Index.mono _ _ _
   | exact LeO.none _
   | refine LeO.ite ?_ ?_
   | refine LeO.bind ?_ (fun _ => ?_)
theorem pentaglotref31_Well.mono : ∀ a0 a1 a2 a3 k, LeO (pentaglotref31_Well.f k a0 a1 a2 a3) (pentaglotref31_Well.f (k + 1) a0 a1 a2 a3) := by
 intro a0 a1 a2 a3 k
 obtain ⟨ih0, ih1, ih2, ih3⟩ := pentaglotref31_Well.mono_l k
 exact ih0 a0 a1 a2 a3
set_option maxHeartbeats 8000000 in
set_option maxRecDepth 100000 in
theorem pentaglotref31_Well.calls (k : Nat) : ∀ (A0 : Option Addr) (c0 : Nat) (l0 : List (S67)) (a1_0 : ByteArray) (A1_1 : Option Addr) (c1_1 : Nat) (l1_1 : List Int) (A1_2 : Option Addr) (c1_2 : Nat) (l1_2 : List (S27)) (r1 : ByteArray) (r2 : Bool) (w : World) (hr0 : Kd.C k67 w A0 l0.length l0) (hc0 : l0.length ≤ c0) (hr1_1 : Kd.C (Kd.int .i64) w A1_1 l1_1.length l1_1) (hc1_1 : l1_1.length ≤ c1_1) (hr1_2 : Kd.C k27 w A1_2 l1_2.length l1_2) (hc1_2 : l1_2.length ≤ c1_2) (h : pentaglotref31_Well.f k l0 a1_0 l1_1 l1_2 = some (r1, r2)),
  Calls Try.prog 61 #[.slice A0 l0.length c0, .agg #[.string a1_0, .slice A1_1 l1_1.length c1_1, .slice A1_2 l1_2.length c1_2]] w fun e w' => e = .returned (.tuple #[.string r1, .bool r2]) ∧ Below w.heap.size w w' := by
 induction k using Nat.strongRecOn with
 | _ k ih =>
 intro A0 c0 l0 a1_0 A1_1 c1_1 l1_1 A1_2 c1_2 l1_2 r1 r2 w hr0 hc0 hr1_1 hc1_1 hr1_2 hc1_2 h
 cases k with
 | zero => exact absurd h (by simp [pentaglotref31_Well.f])
 | succ k =>
 simp only [pentaglotref31_Well.f] at h
 have hu27 := Try.underlying27
 have HR0 := Aside0.mk hr0
 have HC0 := Aside0.mk hc0
 clear hr0 hc0
 have HR1_1 := Aside0.mk hr1_1
 have HC1_1 := Aside0.mk hc1_1
 clear hr1_1 hc1_1
 have HR1_2 := Aside0.mk hr1_2
 have HC1_2 := Aside0.mk hc1_2
 clear hr1_2 hc1_2
 have HB := Aside0.mk (Below.refl w.heap.size w)
 have H : ((pentaglotref31_Index.f k l0 a1_0).bind fun t248 => (if t248 = (l0.length : Int) then (pentaglotref31_Well.j0 k l0 t248 true a1_0 l1_1 l1_2) else (if 0 ≤ t248 then (if t248 < (l0.length : Int) then (if (l1_2.length : Int) = (((rd_T67 l0 t248).f1).length : Int) then (pentaglotref31_Well.j0 k l0 t248 ((l1_1.length : Int) != ((rd_T67 l0 t248).f3)) a1_0 l1_1 l1_2) else (pentaglotref31_Well.j0 k l0 t248 true a1_0 l1_1 l1_2)) else (none)) else (none)))) = some (r1, r2) := h
 clear h
 replace H := Option.bind_eq_some_iff.mp H
 obtain ⟨t248, A30, H⟩ := H
 replace H : (if t248 = (l0.length : Int) then (pentaglotref31_Well.j0 k l0 t248 true a1_0 l1_1 l1_2) else (if 0 ≤ t248 then (if t248 < (l0.length : Int) then (if (l1_2.length : Int) = (((rd_T67 l0 t248).f1).length : Int) then (pentaglotref31_Well.j0 k l0 t248 ((l1_1.length : Int) != ((rd_T67 l0 t248).f3)) a1_0 l1_1 l1_2) else (pentaglotref31_Well.j0 k l0 t248 true a1_0 l1_1 l1_2)) else (none)) else (none))) = some (r1, r2) := H
 have A3 := Aside0.mk A30
 clear A30
 have HC4 := Aside0.mk H
 clear H
 go_enter Try.func61, Try.ntmps61
 go_upto_region 2 with (first | ((with_reducible refine gate_dst (N := 3) rfl ?_); (try (refine gate_guard (by rfl) ?_; dsimp only)); refine box_event ?hg (N := 3) ?hd (cs := #[.string a1_0, .slice A1_1 l1_1.length c1_1, .slice A1_2 l1_2.length c1_2]) (t := 27) ?hr ?_; (case hd => rfl); (case hg => rfl); (case hr => first | (go_simp; done) | (go_simp; rfl)); intro gb247 hg w5 hbox hb; have n0_ := Aside0.mk (below_step (be_ HB) hb); have n1_ := Aside0.mk (hbox); have n2_ := Aside0.mk ((by rw [hg]; exact (below_size (be_ HB)) : w.heap.size ≤ gb247)); have n3_ := Aside0.mk ((by rw [hg]; exact (below_size (be_ HB)) : w.heap.size ≤ gb247)); clear HB; have HB := n0_; have BK247 := n1_; have GW247 := n2_; have GE247 := n3_; clear n0_ n1_ n2_ n3_; clear hb hbox hg; have hcz6_0 : w5.cell? ⟨gb247, 0, none⟩ = some (.string a1_0) := (blk_cell BK247.out 0).trans rfl; have hcz6_1 : w5.cell? ⟨gb247, 1, none⟩ = some (.slice A1_1 l1_1.length c1_1) := (blk_cell BK247.out 1).trans rfl; have hcz6_2 : w5.cell? ⟨gb247, 2, none⟩ = some (.slice A1_2 l1_2.length c1_2) := (blk_cell BK247.out 2).trans rfl; have hfz6_0 := blk_frozen BK247.out 0; have hfz6_1 := blk_frozen BK247.out 1; have hfz6_2 := blk_frozen BK247.out 2) | (go_at_call 66; (with_reducible refine (pentaglotref31_Index.calls k _ _ l0 a1_0 t248 _ ?side1 ?side2 A3.out).mono ?_); (case side1 => exact cs_ (Kd.C_below HR0.out HB.out)); (case side2 => exact HC0.out); rintro e w' ⟨rfl, ⟨nd, rfl⟩⟩; (try first | exact ⟨rfl, _, World.drewN_drewN _ _ _⟩ | exact ⟨rfl, _, Eq.trans (World.drewN_drewN _ _ _) (congrArg (World.drewN _) (Nat.add_assoc _ _ _))⟩)))
 repeat (go_quiet (first | ((with_reducible refine gate_dst (N := 3) rfl ?_); (try (refine gate_guard (by rfl) ?_; dsimp only)); refine box_event ?hg (N := 3) ?hd (cs := #[.string a1_0, .slice A1_1 l1_1.length c1_1, .slice A1_2 l1_2.length c1_2]) (t := 27) ?hr ?_; (case hd => rfl); (case hg => rfl); (case hr => first | (go_simp; done) | (go_simp; rfl)); intro gb247 hg w5 hbox hb; have n0_ := Aside0.mk (below_step (be_ HB) hb); have n1_ := Aside0.mk (hbox); have n2_ := Aside0.mk ((by rw [hg]; exact (below_size (be_ HB)) : w.heap.size ≤ gb247)); have n3_ := Aside0.mk ((by rw [hg]; exact (below_size (be_ HB)) : w.heap.size ≤ gb247)); clear HB; have HB := n0_; have BK247 := n1_; have GW247 := n2_; have GE247 := n3_; clear n0_ n1_ n2_ n3_; clear hb hbox hg; have hcz6_0 : w5.cell? ⟨gb247, 0, none⟩ = some (.string a1_0) := (blk_cell BK247.out 0).trans rfl; have hcz6_1 : w5.cell? ⟨gb247, 1, none⟩ = some (.slice A1_1 l1_1.length c1_1) := (blk_cell BK247.out 1).trans rfl; have hcz6_2 : w5.cell? ⟨gb247, 2, none⟩ = some (.slice A1_2 l1_2.length c1_2) := (blk_cell BK247.out 2).trans rfl; have hfz6_0 := blk_frozen BK247.out 0; have hfz6_1 := blk_frozen BK247.out 1; have hfz6_2 := blk_frozen BK247.out 2) | (go_at_call 66; (with_reducible refine (pentaglotref31_Index.calls k _ _ l0 a1_0 t248 _ ?side1 ?side2 A3.out).mono ?_); (case side1 => exact cs_ (Kd.C_below HR0.out HB.out)); (case side2 => exact HC0.out); rintro e w' ⟨rfl, ⟨nd, rfl⟩⟩; (try first | exact ⟨rfl, _, World.drewN_drewN _ _ _⟩ | exact ⟨rfl, _, Eq.trans (World.drewN_drewN _ _ _) (congrArg (World.drewN _) (Nat.add_assoc _ _ _))⟩))); go_upto_region 2 with (first | ((with_reducible refine gate_dst (N := 3) rfl ?_); (try (refine gate_guard (by rfl) ?_; dsimp only)); refine box_event ?hg (N := 3) ?hd (cs := #[.string a1_0, .slice A1_1 l1_1.length c1_1, .slice A1_2 l1_2.length c1_2]) (t := 27) ?hr ?_; (case hd => rfl); (case hg => rfl); (case hr => first | (go_simp; done) | (go_simp; rfl)); intro gb247 hg w5 hbox hb; have n0_ := Aside0.mk (below_step (be_ HB) hb); have n1_ := Aside0.mk (hbox); have n2_ := Aside0.mk ((by rw [hg]; exact (below_size (be_ HB)) : w.heap.size ≤ gb247)); have n3_ := Aside0.mk ((by rw [hg]; exact (below_size (be_ HB)) : w.heap.size ≤ gb247)); clear HB; have HB := n0_; have BK247 := n1_; have GW247 := n2_; have GE247 := n3_; clear n0_ n1_ n2_ n3_; clear hb hbox hg; have hcz6_0 : w5.cell? ⟨gb247, 0, none⟩ = some (.string a1_0) := (blk_cell BK247.out 0).trans rfl; have hcz6_1 : w5.cell? ⟨gb247, 1, none⟩ = some (.slice A1_1 l1_1.length c1_1) := (blk_cell BK247.out 1).trans rfl; have hcz6_2 : w5.cell? ⟨gb247, 2, none⟩ = some (.slice A1_2 l1_2.length c1_2) := (blk_cell BK247.out 2).trans rfl; have hfz6_0 := blk_frozen BK247.out 0; have hfz6_1 := blk_frozen BK247.out 1; have hfz6_2 := blk_frozen BK247.out 2) | (go_at_call 66; (with_reducible refine (pentaglotref31_Index.calls k _ _ l0 a1_0 t248 _ ?side1 ?side2 A3.out).mono ?_); (case side1 => exact cs_ (Kd.C_below HR0.out HB.out)); (case side2 => exact HC0.out); rintro e w' ⟨rfl, ⟨nd, rfl⟩⟩; (try first | exact ⟨rfl, _, World.drewN_drewN _ _ _⟩ | exact ⟨rfl, _, Eq.trans (World.drewN_drewN _ _ _) (congrArg (World.drewN _) (Nat.add_assoc _ _ _))⟩))))
 (try simp only [Act.put, List.setIfInBounds_toArray, List.set_cons_zero, List.set_cons_succ])
 go_cut [41] (fun v41 wc => ∃ (kq : Nat) (x41_3 : Bool), v41 = .bool x41_3 ∧ Aside0 (pentaglotref31_Well.j0 kq l0 t248 x41_3 a1_0 l1_1 l1_2 = some (r1, r2)) ∧ Aside0 (kq ≤ k) ∧ Aside0 (wc.heap[gb247]? = some (.cells #[.string a1_0, (.slice A1_1 l1_1.length c1_1), (.slice A1_2 l1_2.length c1_2)] 27 (0, 0))) ∧ Aside0 (Below w.heap.size w wc))
 case first =>
  have H := HC4.out
  clear HC4
  by_cases c7 : t248 = (l0.length : Int)
  ·rw [if_pos c7] at H
   have c7b0 : (t248 == (l0.length : Int)) = true := beq_iff_eq.mpr c7
   have c7b1 : (t248 != (l0.length : Int)) = false := bne_eq_false_iff_eq.mpr c7
   clear c7
   (first | rw [c7b0] | (simp only [i64_w, i32_w]; rw [c7b0]) | skip)
   have H' := Aside0.mk H
   clear H
   go_wp2
   repeat (go_quiet (fail); try go_wp2)
   go_meet
   case rel => exact ⟨_, (true), fi_, H', ⟨by first | omega | exact Nat.le_refl _⟩, ⟨bq_ BK247⟩, ⟨be1_ HB GE247⟩⟩
  ·rw [if_neg c7] at H
   have c7b0 : (t248 == (l0.length : Int)) = false := beq_eq_false_iff_ne.mpr c7
   have c7b1 : (t248 != (l0.length : Int)) = true := bne_iff_ne.mpr c7
   (first | rw [c7b0] | (simp only [i64_w, i32_w]; rw [c7b0]) | skip)
   by_cases c8 : 0 ≤ t248
   ·rw [if_pos c8] at H
    have c8b0 : decide (0 ≤ t248) = true := decide_eq_true c8
    clear c8
    by_cases c9 : t248 < (l0.length : Int)
    ·rw [if_pos c9] at H
     have c9b0 : decide (t248 < (l0.length : Int)) = true := decide_eq_true c9
     clear c9
     by_cases c10 : (l1_2.length : Int) = (((rd_T67 l0 t248).f1).length : Int)
     ·rw [if_pos c10] at H
      have c10b0 : ((l1_2.length : Int) == (((rd_T67 l0 t248).f1).length : Int)) = true := beq_iff_eq.mpr c10
      have c10b1 : ((l1_2.length : Int) != (((rd_T67 l0 t248).f1).length : Int)) = false := bne_eq_false_iff_eq.mpr c10
      have c10b2 : (l1_2.length == ((rd_T67 l0 t248).f1).length) = true := by first | simpa using c10 | (simp at c10 ⊢; omega)
      clear c10
      have H' := Aside0.mk H
      clear H
      have hcz11_0 : w5.cell? ⟨gb247, 0, none⟩ = some (.string a1_0) := (blk_cell BK247.out 0).trans rfl
      have hcz11_1 : w5.cell? ⟨gb247, 1, none⟩ = some (.slice A1_1 l1_1.length c1_1) := (blk_cell BK247.out 1).trans rfl
      have hcz11_2 : w5.cell? ⟨gb247, 2, none⟩ = some (.slice A1_2 l1_2.length c1_2) := (blk_cell BK247.out 2).trans rfl
      have hfz11_0 := blk_frozen BK247.out 0
      have hfz11_1 := blk_frozen BK247.out 1
      have hfz11_2 := blk_frozen BK247.out 2
      have p249 : 0 ≤ (t248 : Int) := of_decide_eq_true (by first | (with_reducible assumption) | assumption)
      have q249 : t248 < (l0.length : Int) := of_decide_eq_true (by first | (with_reducible assumption) | assumption)
      obtain ⟨ad249, A249_1, c249_1, e249, hx249_0, hx249_1, hx249_2, hx249_3, hl249_1, hi249_1⟩ := at_T67 HR0.out t248 p249 q249
      cases e249
      replace hx249_0 := (HB.out.cell (World.block_lt_of_cell? w _ hx249_0)).trans hx249_0
      replace hx249_1 := (HB.out.cell (World.block_lt_of_cell? w _ hx249_1)).trans hx249_1
      replace hx249_2 := (HB.out.cell (World.block_lt_of_cell? w _ hx249_2)).trans hx249_2
      replace hx249_3 := (HB.out.cell (World.block_lt_of_cell? w _ hx249_3)).trans hx249_3
      have HR249_1 := Aside0.mk hi249_1
      have HC249_1 := Aside0.mk hl249_1
      clear hi249_1 hl249_1
      replace p249 := eq_true p249
      replace q249 := eq_true q249
      have p250 : 0 ≤ (t248 : Int) := of_decide_eq_true (by first | (with_reducible assumption) | assumption)
      have q250 : t248 < (l0.length : Int) := of_decide_eq_true (by first | (with_reducible assumption) | assumption)
      obtain ⟨ad250, A250_1, c250_1, e250, hx250_0, hx250_1, hx250_2, hx250_3, hl250_1, hi250_1⟩ := at_T67 HR0.out t248 p250 q250
      obtain rfl : ad249 = ad250 := (by injection e250)
      replace hx250_0 := (HB.out.cell (World.block_lt_of_cell? w _ hx250_0)).trans hx250_0
      replace hx250_1 := (HB.out.cell (World.block_lt_of_cell? w _ hx250_1)).trans hx250_1
      replace hx250_2 := (HB.out.cell (World.block_lt_of_cell? w _ hx250_2)).trans hx250_2
      replace hx250_3 := (HB.out.cell (World.block_lt_of_cell? w _ hx250_3)).trans hx250_3
      have HR250_1 := Aside0.mk hi250_1
      have HC250_1 := Aside0.mk hl250_1
      clear hi250_1 hl250_1
      replace p250 := eq_true p250
      replace q250 := eq_true q250
      have ea_ := Option.some.inj (hx249_1.symm.trans hx250_1)
      injection ea_ with ea_ en_ ec_
      subst ea_
      subst ec_
      clear en_
      go_wp2
      repeat (go_quiet (fail); try go_wp2)
      go_meet
      case rel => exact ⟨_, (((l1_1.length : Int) != ((rd_T67 l0 t248).f3))), fi_, H', ⟨by first | omega | exact Nat.le_refl _⟩, ⟨bq_ BK247⟩, ⟨be1_ HB GE247⟩⟩
     ·rw [if_neg c10] at H
      have c10b0 : ((l1_2.length : Int) == (((rd_T67 l0 t248).f1).length : Int)) = false := beq_eq_false_iff_ne.mpr c10
      have c10b1 : ((l1_2.length : Int) != (((rd_T67 l0 t248).f1).length : Int)) = true := bne_iff_ne.mpr c10
      have c10b2 : (l1_2.length == ((rd_T67 l0 t248).f1).length) = false := by first | simpa using c10 | (simp at c10 ⊢; omega)
      have H' := Aside0.mk H
      clear H
      have hcz12_0 : w5.cell? ⟨gb247, 0, none⟩ = some (.string a1_0) := (blk_cell BK247.out 0).trans rfl
      have hcz12_1 : w5.cell? ⟨gb247, 1, none⟩ = some (.slice A1_1 l1_1.length c1_1) := (blk_cell BK247.out 1).trans rfl
      have hcz12_2 : w5.cell? ⟨gb247, 2, none⟩ = some (.slice A1_2 l1_2.length c1_2) := (blk_cell BK247.out 2).trans rfl
      have hfz12_0 := blk_frozen BK247.out 0
      have hfz12_1 := blk_frozen BK247.out 1
      have hfz12_2 := blk_frozen BK247.out 2
      have p249 : 0 ≤ (t248 : Int) := of_decide_eq_true (by first | (with_reducible assumption) | assumption)
      have q249 : t248 < (l0.length : Int) := of_decide_eq_true (by first | (with_reducible assumption) | assumption)
      obtain ⟨ad249, A249_1, c249_1, e249, hx249_0, hx249_1, hx249_2, hx249_3, hl249_1, hi249_1⟩ := at_T67 HR0.out t248 p249 q249
      cases e249
      replace hx249_0 := (HB.out.cell (World.block_lt_of_cell? w _ hx249_0)).trans hx249_0
      replace hx249_1 := (HB.out.cell (World.block_lt_of_cell? w _ hx249_1)).trans hx249_1
      replace hx249_2 := (HB.out.cell (World.block_lt_of_cell? w _ hx249_2)).trans hx249_2
      replace hx249_3 := (HB.out.cell (World.block_lt_of_cell? w _ hx249_3)).trans hx249_3
      have HR249_1 := Aside0.mk hi249_1
      have HC249_1 := Aside0.mk hl249_1
      clear hi249_1 hl249_1
      replace p249 := eq_true p249
      replace q249 := eq_true q249
      go_wp2
      repeat (go_quiet (fail); try go_wp2)
      go_meet
      case rel => exact ⟨_, (true), fi_, H', ⟨by first | omega | exact Nat.le_refl _⟩, ⟨bq_ BK247⟩, ⟨be1_ HB GE247⟩⟩
    ·rw [if_neg c9] at H
     exact absurd H (by simp)
   ·rw [if_neg c8] at H
    exact absurd H (by simp)
 case rest =>
  clear HC4
  try clear c1
  try clear c2
  try clear p2
  try clear q2
  try clear hx2
  try clear c6
  try clear c7
  try clear c7b0
  try clear c7b1
  try clear c8
  try clear c8b0
  try clear c9
  try clear c9b0
  try clear c10
  try clear c10b0
  try clear c10b1
  try clear c10b2
  try clear hcz11_0
  try clear hcz11_1
  try clear hcz11_2
  try clear hcz12_0
  try clear hcz12_1
  try clear hcz12_2
  try clear hcz6_0
  try clear hcz6_1
  try clear hcz6_2
  try clear hfz11_0
  try clear hfz11_1
  try clear hfz11_2
  try clear hfz12_0
  try clear hfz12_1
  try clear hfz12_2
  try clear hfz6_0
  try clear hfz6_1
  try clear hfz6_2
  try clear hx249_0
  try clear hx249_1
  try clear hx249_2
  try clear hx249_3
  try clear hx250_0
  try clear hx250_1
  try clear hx250_2
  try clear hx250_3
  try clear p249
  try clear p250
  try clear q249
  try clear q250
  obtain ⟨kq, x41_3, rfl, HA, HJ3, BK247, HB⟩ := hcut
  cases kq with
  | zero => exact absurd HA.out (by simp [pentaglotref31_Well.j0])
  | succ kj3 =>
   have H := HA.out
   clear HA
   simp only [pentaglotref31_Well.j0] at H
   by_cases c13 : x41_3 = true
   ·subst c13
    have H1 : (some ((⟨#[]⟩ : ByteArray), false)) = some (r1, r2) := by rw [if_pos rfl] at H; exact H
    clear H
    have H := H1
    clear H1
    simp only [Option.some.injEq, Prod.mk.injEq] at H
    obtain ⟨rfl, rfl⟩ := H
    go_wp2
    repeat (go_quiet (fail); try go_wp2)
    go_ret2
    exact ⟨er_, be1_ HB GE247⟩
   ·replace c13 := Bool.eq_false_iff.mpr c13
    subst c13
    have H1 : (pentaglotref31_Well.l0 kj3 l0 t248 0 a1_0 l1_1 l1_2) = some (r1, r2) := by rw [if_neg (show ¬ (false = true) by decide)] at H; exact H
    clear H
    have H := H1
    clear H1
    have H' := Aside0.mk H
    clear H
    go_wp2
    repeat (go_quiet (fail); try go_wp2)
    go_loopg [7] kj3 (fun kq v7 w' => ∃ (x7_2 : Int), v7 = .int .i64 x7_2 ∧ Aside0 (pentaglotref31_Well.l0 kq l0 t248 x7_2 a1_0 l1_1 l1_2 = some (r1, r2)) ∧ Aside0 (kq ≤ kj3) ∧ Aside0 (w'.heap[gb247]? = some (.cells #[.string a1_0, (.slice A1_1 l1_1.length c1_1), (.slice A1_2 l1_2.length c1_2)] 27 (0, 0))) ∧ Aside0 (Below w.heap.size w w'))
    case atStart => exact ⟨(0), fi_, H', ⟨Nat.le_refl _⟩, ⟨bq_ BK247⟩, ⟨be1_ HB GE247⟩⟩
    case round =>
     clear H'
     try clear c1
     try clear c2
     try clear p2
     try clear q2
     try clear hx2
     try clear c6
     try clear c7
     try clear c7b0
     try clear c7b1
     try clear c8
     try clear c8b0
     try clear c9
     try clear c9b0
     try clear c10
     try clear c10b0
     try clear c10b1
     try clear c10b2
     try clear c13
     try clear hcz11_0
     try clear hcz11_1
     try clear hcz11_2
     try clear hcz12_0
     try clear hcz12_1
     try clear hcz12_2
     try clear hcz6_0
     try clear hcz6_1
     try clear hcz6_2
     try clear hfz11_0
     try clear hfz11_1
     try clear hfz11_2
     try clear hfz12_0
     try clear hfz12_1
     try clear hfz12_2
     try clear hfz6_0
     try clear hfz6_1
     try clear hfz6_2
     try clear hx249_0
     try clear hx249_1
     try clear hx249_2
     try clear hx249_3
     try clear hx250_0
     try clear hx250_1
     try clear hx250_2
     try clear hx250_3
     try clear p2
     try clear p249
     try clear p250
     try clear q2
     try clear q249
     try clear q250
     obtain ⟨x7_2, rfl, HA, HK2, BK247, HB⟩ := hrel
     cases gk with
     | zero => exact absurd HA.out (by simp [pentaglotref31_Well.l0])
     | succ k2 =>
      have H := HA.out
      clear HA
      simp only [pentaglotref31_Well.l0] at H
      by_cases c14 : x7_2 < (l1_1.length : Int)
      ·rw [if_pos c14] at H
       have c14b0 : decide (x7_2 < (l1_1.length : Int)) = true := decide_eq_true c14
       clear c14
       by_cases c15 : 0 ≤ x7_2
       ·rw [if_pos c15] at H
        have c15b0 : decide (0 ≤ x7_2) = true := decide_eq_true c15
        clear c15
        replace H := Option.bind_eq_some_iff.mp H
        obtain ⟨t252, A160, H⟩ := H
        replace H : (if t252 = true then (pentaglotref31_Well.l0 k2 l0 t248 (wrap64 (x7_2 + 1)) a1_0 l1_1 l1_2) else (some ((⟨#[]⟩ : ByteArray), false))) = some (r1, r2) := H
        have A16 := Aside0.mk A160
        clear A160
        by_cases c17 : t252 = true
        ·subst c17
         have H1 : (pentaglotref31_Well.l0 k2 l0 t248 (wrap64 (x7_2 + 1)) a1_0 l1_1 l1_2) = some (r1, r2) := by rw [if_pos rfl] at H; exact H
         clear H
         have H := H1
         clear H1
         have H' := Aside0.mk H
         clear H
         have hcz18_0 : wr.cell? ⟨gb247, 0, none⟩ = some (.string a1_0) := (blk_cell BK247.out 0).trans rfl
         have hcz18_1 : wr.cell? ⟨gb247, 1, none⟩ = some (.slice A1_1 l1_1.length c1_1) := (blk_cell BK247.out 1).trans rfl
         have hcz18_2 : wr.cell? ⟨gb247, 2, none⟩ = some (.slice A1_2 l1_2.length c1_2) := (blk_cell BK247.out 2).trans rfl
         have hfz18_0 := blk_frozen BK247.out 0
         have hfz18_1 := blk_frozen BK247.out 1
         have hfz18_2 := blk_frozen BK247.out 2
         have p251 : 0 ≤ (x7_2 : Int) := of_decide_eq_true (by first | (with_reducible assumption) | assumption)
         have q251 : x7_2 < (l1_1.length : Int) := of_decide_eq_true (by first | (with_reducible assumption) | assumption)
         obtain ⟨ad251, e251, hx251_0⟩ := Kd.at_int HR1_1.out x7_2 p251 q251
         cases e251
         replace hx251_0 := (HB.out.cell (World.block_lt_of_cell? w _ hx251_0)).trans hx251_0
         replace p251 := eq_true p251
         replace q251 := eq_true q251
         go_wp2_with (first | (go_at_call 67; (with_reducible refine (pentaglotref31_Value.calls (rd l1_1 x7_2) true _ A16.out).mono ?_); rintro e w' ⟨rfl, ⟨nd, rfl⟩⟩; (try first | exact ⟨rfl, _, World.drewN_drewN _ _ _⟩ | exact ⟨rfl, _, Eq.trans (World.drewN_drewN _ _ _) (congrArg (World.drewN _) (Nat.add_assoc _ _ _))⟩)))
         repeat (go_quiet (first | (go_at_call 67; (with_reducible refine (pentaglotref31_Value.calls (rd l1_1 x7_2) true _ A16.out).mono ?_); rintro e w' ⟨rfl, ⟨nd, rfl⟩⟩; (try first | exact ⟨rfl, _, World.drewN_drewN _ _ _⟩ | exact ⟨rfl, _, Eq.trans (World.drewN_drewN _ _ _) (congrArg (World.drewN _) (Nat.add_assoc _ _ _))⟩))); try go_wp2_with (first | (go_at_call 67; (with_reducible refine (pentaglotref31_Value.calls (rd l1_1 x7_2) true _ A16.out).mono ?_); rintro e w' ⟨rfl, ⟨nd, rfl⟩⟩; (try first | exact ⟨rfl, _, World.drewN_drewN _ _ _⟩ | exact ⟨rfl, _, Eq.trans (World.drewN_drewN _ _ _) (congrArg (World.drewN _) (Nat.add_assoc _ _ _))⟩))))
         go_roundg k2
         case measure => have := HJ3.out; have := HK2.out; omega
         case rel => exact ⟨(wrap64 (x7_2 + 1)), fi_, H', ⟨by have := HJ3.out; have := HK2.out; omega⟩, ⟨bq_ BK247⟩, ⟨be1_ HB GE247⟩⟩
        ·replace c17 := Bool.eq_false_iff.mpr c17
         subst c17
         have H1 : (some ((⟨#[]⟩ : ByteArray), false)) = some (r1, r2) := by rw [if_neg (show ¬ (false = true) by decide)] at H; exact H
         clear H
         have H := H1
         clear H1
         simp only [Option.some.injEq, Prod.mk.injEq] at H
         obtain ⟨rfl, rfl⟩ := H
         have hcz19_0 : wr.cell? ⟨gb247, 0, none⟩ = some (.string a1_0) := (blk_cell BK247.out 0).trans rfl
         have hcz19_1 : wr.cell? ⟨gb247, 1, none⟩ = some (.slice A1_1 l1_1.length c1_1) := (blk_cell BK247.out 1).trans rfl
         have hcz19_2 : wr.cell? ⟨gb247, 2, none⟩ = some (.slice A1_2 l1_2.length c1_2) := (blk_cell BK247.out 2).trans rfl
         have hfz19_0 := blk_frozen BK247.out 0
         have hfz19_1 := blk_frozen BK247.out 1
         have hfz19_2 := blk_frozen BK247.out 2
         have p251 : 0 ≤ (x7_2 : Int) := of_decide_eq_true (by first | (with_reducible assumption) | assumption)
         have q251 : x7_2 < (l1_1.length : Int) := of_decide_eq_true (by first | (with_reducible assumption) | assumption)
         obtain ⟨ad251, e251, hx251_0⟩ := Kd.at_int HR1_1.out x7_2 p251 q251
         cases e251
         replace hx251_0 := (HB.out.cell (World.block_lt_of_cell? w _ hx251_0)).trans hx251_0
         replace p251 := eq_true p251
         replace q251 := eq_true q251
         go_wp2_with (first | (go_at_call 67; (with_reducible refine (pentaglotref31_Value.calls (rd l1_1 x7_2) false _ A16.out).mono ?_); rintro e w' ⟨rfl, ⟨nd, rfl⟩⟩; (try first | exact ⟨rfl, _, World.drewN_drewN _ _ _⟩ | exact ⟨rfl, _, Eq.trans (World.drewN_drewN _ _ _) (congrArg (World.drewN _) (Nat.add_assoc _ _ _))⟩)))
         repeat (go_quiet (first | (go_at_call 67; (with_reducible refine (pentaglotref31_Value.calls (rd l1_1 x7_2) false _ A16.out).mono ?_); rintro e w' ⟨rfl, ⟨nd, rfl⟩⟩; (try first | exact ⟨rfl, _, World.drewN_drewN _ _ _⟩ | exact ⟨rfl, _, Eq.trans (World.drewN_drewN _ _ _) (congrArg (World.drewN _) (Nat.add_assoc _ _ _))⟩))); try go_wp2_with (first | (go_at_call 67; (with_reducible refine (pentaglotref31_Value.calls (rd l1_1 x7_2) false _ A16.out).mono ?_); rintro e w' ⟨rfl, ⟨nd, rfl⟩⟩; (try first | exact ⟨rfl, _, World.drewN_drewN _ _ _⟩ | exact ⟨rfl, _, Eq.trans (World.drewN_drewN _ _ _) (congrArg (World.drewN _) (Nat.add_assoc _ _ _))⟩))))
         go_ret2
         exact ⟨er_, be1_ HB GE247⟩
       ·rw [if_neg c15] at H
        exact absurd H (by simp)
      ·rw [if_neg c14] at H
       have c14b0 : decide (x7_2 < (l1_1.length : Int)) = false := decide_eq_false c14
       clear c14
       have H' := Aside0.mk H
       clear H
       have hcz20_0 : wr.cell? ⟨gb247, 0, none⟩ = some (.string a1_0) := (blk_cell BK247.out 0).trans rfl
       have hcz20_1 : wr.cell? ⟨gb247, 1, none⟩ = some (.slice A1_1 l1_1.length c1_1) := (blk_cell BK247.out 1).trans rfl
       have hcz20_2 : wr.cell? ⟨gb247, 2, none⟩ = some (.slice A1_2 l1_2.length c1_2) := (blk_cell BK247.out 2).trans rfl
       have hfz20_0 := blk_frozen BK247.out 0
       have hfz20_1 := blk_frozen BK247.out 1
       have hfz20_2 := blk_frozen BK247.out 2
       go_wp2
       repeat (go_quiet (fail); try go_wp2)
       go_loopg [8] k2 (fun kq v8 w' => ∃ (x8_3 : Int), v8 = .int .i64 x8_3 ∧ Aside0 (pentaglotref31_Well.l1 kq l0 t248 x8_3 a1_0 l1_1 l1_2 = some (r1, r2)) ∧ Aside0 (kq ≤ k2) ∧ Aside0 (w'.heap[gb247]? = some (.cells #[.string a1_0, (.slice A1_1 l1_1.length c1_1), (.slice A1_2 l1_2.length c1_2)] 27 (0, 0))) ∧ Aside0 (Below w.heap.size w w'))
       case atStart => exact ⟨(0), fi_, H', ⟨Nat.le_refl _⟩, ⟨bq_ BK247⟩, ⟨be1_ HB GE247⟩⟩
       case round =>
        clear H'
        try clear c1
        try clear c2
        try clear p2
        try clear q2
        try clear hx2
        try clear c6
        try clear p6
        try clear c7
        try clear c7b0
        try clear c7b1
        try clear c8
        try clear c8b0
        try clear c9
        try clear c9b0
        try clear c10
        try clear c10b0
        try clear c10b1
        try clear c10b2
        try clear c13
        try clear c14
        try clear c14b0
        try clear c15
        try clear c15b0
        try clear c17
        try clear hcz11_0
        try clear hcz11_1
        try clear hcz11_2
        try clear hcz12_0
        try clear hcz12_1
        try clear hcz12_2
        try clear hcz18_0
        try clear hcz18_1
        try clear hcz18_2
        try clear hcz19_0
        try clear hcz19_1
        try clear hcz19_2
        try clear hcz20_0
        try clear hcz20_1
        try clear hcz20_2
        try clear hcz6_0
        try clear hcz6_1
        try clear hcz6_2
        try clear hfz11_0
        try clear hfz11_1
        try clear hfz11_2
        try clear hfz12_0
        try clear hfz12_1
        try clear hfz12_2
        try clear hfz18_0
        try clear hfz18_1
        try clear hfz18_2
        try clear hfz19_0
        try clear hfz19_1
        try clear hfz19_2
        try clear hfz20_0
        try clear hfz20_1
        try clear hfz20_2
        try clear hfz6_0
        try clear hfz6_1
        try clear hfz6_2
        try clear hx249_0
        try clear hx249_1
        try clear hx249_2
        try clear hx249_3
        try clear hx250_0
        try clear hx250_1
        try clear hx250_2
        try clear hx250_3
        try clear hx251_0
        try clear p2
        try clear p249
        try clear p250
        try clear p251
        try clear q2
        try clear q249
        try clear q250
        try clear q251
        obtain ⟨x8_3, rfl, HA, HK3, BK247, HB⟩ := hrel
        cases gk with
        | zero => exact absurd HA.out (by simp [pentaglotref31_Well.l1])
        | succ k3 =>
         have H := HA.out
         clear HA
         simp only [pentaglotref31_Well.l1] at H
         by_cases c21 : x8_3 < (l1_2.length : Int)
         ·rw [if_pos c21] at H
          have c21b0 : decide (x8_3 < (l1_2.length : Int)) = true := decide_eq_true c21
          clear c21
          by_cases c22 : 0 ≤ x8_3
          ·rw [if_pos c22] at H
           have c22b0 : decide (0 ≤ x8_3) = true := decide_eq_true c22
           clear c22
           replace H := Option.bind_eq_some_iff.mp H
           obtain ⟨⟨t254, t255⟩, A230, H⟩ := H
           replace H : (if t255 = true then (if 0 ≤ t248 then (if t248 < (l0.length : Int) then (if x8_3 < (((rd_T67 l0 t248).f1).length : Int) then (if t254.toList = (rdOf ByteArray.empty ((rd_T67 l0 t248).f1) x8_3).toList then (pentaglotref31_Well.l1 k3 l0 t248 (wrap64 (x8_3 + 1)) a1_0 l1_1 l1_2) else (some ((⟨#[]⟩ : ByteArray), false))) else (none)) else (none)) else (none)) else (some ((⟨#[]⟩ : ByteArray), false))) = some (r1, r2) := H
           have A23 := Aside0.mk A230
           clear A230
           by_cases c24 : t255 = true
           ·subst c24
            have H1 : (if 0 ≤ t248 then (if t248 < (l0.length : Int) then (if x8_3 < (((rd_T67 l0 t248).f1).length : Int) then (if t254.toList = (rdOf ByteArray.empty ((rd_T67 l0 t248).f1) x8_3).toList then (pentaglotref31_Well.l1 k3 l0 t248 (wrap64 (x8_3 + 1)) a1_0 l1_1 l1_2) else (some ((⟨#[]⟩ : ByteArray), false))) else (none)) else (none)) else (none)) = some (r1, r2) := by rw [if_pos rfl] at H; exact H
            clear H
            have H := H1
            clear H1
            by_cases c25 : 0 ≤ t248
            ·rw [if_pos c25] at H
             have c25b0 : decide (0 ≤ t248) = true := decide_eq_true c25
             clear c25
             by_cases c26 : t248 < (l0.length : Int)
             ·rw [if_pos c26] at H
              have c26b0 : decide (t248 < (l0.length : Int)) = true := decide_eq_true c26
              clear c26
              by_cases c27 : x8_3 < (((rd_T67 l0 t248).f1).length : Int)
              ·rw [if_pos c27] at H
               have c27b0 : decide (x8_3 < (((rd_T67 l0 t248).f1).length : Int)) = true := decide_eq_true c27
               clear c27
               by_cases c28 : t254.toList = (rdOf ByteArray.empty ((rd_T67 l0 t248).f1) x8_3).toList
               ·rw [if_pos c28] at H
                have c28b0 : (t254.toList == (rdOf ByteArray.empty ((rd_T67 l0 t248).f1) x8_3).toList) = true := beq_iff_eq.mpr c28
                have c28b1 : (t254.toList != (rdOf ByteArray.empty ((rd_T67 l0 t248).f1) x8_3).toList) = false := bne_eq_false_iff_eq.mpr c28
                clear c28
                have H' := Aside0.mk H
                clear H
                have hcz29_0 : wr.cell? ⟨gb247, 0, none⟩ = some (.string a1_0) := (blk_cell BK247.out 0).trans rfl
                have hcz29_1 : wr.cell? ⟨gb247, 1, none⟩ = some (.slice A1_1 l1_1.length c1_1) := (blk_cell BK247.out 1).trans rfl
                have hcz29_2 : wr.cell? ⟨gb247, 2, none⟩ = some (.slice A1_2 l1_2.length c1_2) := (blk_cell BK247.out 2).trans rfl
                have hfz29_0 := blk_frozen BK247.out 0
                have hfz29_1 := blk_frozen BK247.out 1
                have hfz29_2 := blk_frozen BK247.out 2
                have p253 : 0 ≤ (x8_3 : Int) := of_decide_eq_true (by first | (with_reducible assumption) | assumption)
                have q253 : x8_3 < (l1_2.length : Int) := of_decide_eq_true (by first | (with_reducible assumption) | assumption)
                obtain ⟨ad253, A253_1, c253_1, A253_2, c253_2, e253, hx253_0, hx253_1, hx253_2, hl253_1, hi253_1, hl253_2, hi253_2⟩ := at_T27 HR1_2.out x8_3 p253 q253
                cases e253
                replace hx253_0 := (HB.out.cell (World.block_lt_of_cell? w _ hx253_0)).trans hx253_0
                replace hx253_1 := (HB.out.cell (World.block_lt_of_cell? w _ hx253_1)).trans hx253_1
                replace hx253_2 := (HB.out.cell (World.block_lt_of_cell? w _ hx253_2)).trans hx253_2
                have HR253_1 := Aside0.mk hi253_1
                have HC253_1 := Aside0.mk hl253_1
                clear hi253_1 hl253_1
                have HR253_2 := Aside0.mk hi253_2
                have HC253_2 := Aside0.mk hl253_2
                clear hi253_2 hl253_2
                replace p253 := eq_true p253
                replace q253 := eq_true q253
                go_wp2_with (first | (go_at_call 61; (with_reducible refine (ih k3 (by have := HJ3.out; have := HK2.out; have := HK3.out; omega) _ _ l0 ((rd_T27 l1_2 x8_3).f0) _ _ ((rd_T27 l1_2 x8_3).f1) _ _ ((rd_T27 l1_2 x8_3).f2) t254 true _ ?side1 ?side2 ?side3 ?side4 ?side5 ?side6 A23.out).mono ?_); (case side1 => exact cs_ (Kd.C_below HR0.out HB.out)); (case side2 => exact HC0.out); (case side3 => exact cs_ (Kd.C_below HR253_1.out HB.out)); (case side4 => exact HC253_1.out); (case side5 => exact cs_ (Kd.C_below HR253_2.out HB.out)); (case side6 => exact HC253_2.out); rintro e w30 ⟨rfl, hb⟩; have n0_ := Aside0.mk (blk_below (g := gb247) (o := .cells #[.string a1_0, .slice A1_1 l1_1.length c1_1, .slice (some ad253) l1_2.length c1_2] 27 (0, 0)) (bq_ BK247) hb); have n1_ := Aside0.mk (below_step (be1_ HB GE247) hb); clear BK247; clear HB; have BK247 := n0_; have HB := n1_; clear n0_ n1_; (try clear hb); (try clear hb2); (try clear hk); (try clear hi); have p256 : 0 ≤ (t248 : Int) := of_decide_eq_true (by first | (with_reducible assumption) | assumption); have q256 : t248 < (l0.length : Int) := of_decide_eq_true (by first | (with_reducible assumption) | assumption); obtain ⟨ad256, A256_1, c256_1, e256, hx256_0, hx256_1, hx256_2, hx256_3, hl256_1, hi256_1⟩ := at_T67 HR0.out t248 p256 q256; cases e256; replace hx256_0 := (HB.out.cell (World.block_lt_of_cell? w _ hx256_0)).trans hx256_0; replace hx256_1 := (HB.out.cell (World.block_lt_of_cell? w _ hx256_1)).trans hx256_1; replace hx256_2 := (HB.out.cell (World.block_lt_of_cell? w _ hx256_2)).trans hx256_2; replace hx256_3 := (HB.out.cell (World.block_lt_of_cell? w _ hx256_3)).trans hx256_3; have HR256_1 := Aside0.mk hi256_1; have HC256_1 := Aside0.mk hl256_1; clear hi256_1 hl256_1; replace p256 := eq_true p256; replace q256 := eq_true q256; have p257 : 0 ≤ (x8_3 : Int) := of_decide_eq_true (by first | (with_reducible assumption) | assumption); have q257 : x8_3 < (((rd_T67 l0 t248).f1).length : Int) := of_decide_eq_true (by first | (with_reducible assumption) | assumption); obtain ⟨ad257, e257, hx257_0⟩ := Kd.at_string HR256_1.out x8_3 p257 q257; cases e257; replace hx257_0 := (HB.out.cell (World.block_lt_of_cell? w _ hx257_0)).trans hx257_0; replace p257 := eq_true p257; replace q257 := eq_true q257))
                repeat (go_quiet (first | (go_at_call 61; (with_reducible refine (ih k3 (by have := HJ3.out; have := HK2.out; have := HK3.out; omega) _ _ l0 ((rd_T27 l1_2 x8_3).f0) _ _ ((rd_T27 l1_2 x8_3).f1) _ _ ((rd_T27 l1_2 x8_3).f2) t254 true _ ?side1 ?side2 ?side3 ?side4 ?side5 ?side6 A23.out).mono ?_); (case side1 => exact cs_ (Kd.C_below HR0.out HB.out)); (case side2 => exact HC0.out); (case side3 => exact cs_ (Kd.C_below HR253_1.out HB.out)); (case side4 => exact HC253_1.out); (case side5 => exact cs_ (Kd.C_below HR253_2.out HB.out)); (case side6 => exact HC253_2.out); rintro e w30 ⟨rfl, hb⟩; have n0_ := Aside0.mk (blk_below (g := gb247) (o := .cells #[.string a1_0, .slice A1_1 l1_1.length c1_1, .slice (some ad253) l1_2.length c1_2] 27 (0, 0)) (bq_ BK247) hb); have n1_ := Aside0.mk (below_step (be1_ HB GE247) hb); clear BK247; clear HB; have BK247 := n0_; have HB := n1_; clear n0_ n1_; (try clear hb); (try clear hb2); (try clear hk); (try clear hi); have p256 : 0 ≤ (t248 : Int) := of_decide_eq_true (by first | (with_reducible assumption) | assumption); have q256 : t248 < (l0.length : Int) := of_decide_eq_true (by first | (with_reducible assumption) | assumption); obtain ⟨ad256, A256_1, c256_1, e256, hx256_0, hx256_1, hx256_2, hx256_3, hl256_1, hi256_1⟩ := at_T67 HR0.out t248 p256 q256; cases e256; replace hx256_0 := (HB.out.cell (World.block_lt_of_cell? w _ hx256_0)).trans hx256_0; replace hx256_1 := (HB.out.cell (World.block_lt_of_cell? w _ hx256_1)).trans hx256_1; replace hx256_2 := (HB.out.cell (World.block_lt_of_cell? w _ hx256_2)).trans hx256_2; replace hx256_3 := (HB.out.cell (World.block_lt_of_cell? w _ hx256_3)).trans hx256_3; have HR256_1 := Aside0.mk hi256_1; have HC256_1 := Aside0.mk hl256_1; clear hi256_1 hl256_1; replace p256 := eq_true p256; replace q256 := eq_true q256; have p257 : 0 ≤ (x8_3 : Int) := of_decide_eq_true (by first | (with_reducible assumption) | assumption); have q257 : x8_3 < (((rd_T67 l0 t248).f1).length : Int) := of_decide_eq_true (by first | (with_reducible assumption) | assumption); obtain ⟨ad257, e257, hx257_0⟩ := Kd.at_string HR256_1.out x8_3 p257 q257; cases e257; replace hx257_0 := (HB.out.cell (World.block_lt_of_cell? w _ hx257_0)).trans hx257_0; replace p257 := eq_true p257; replace q257 := eq_true q257)); try go_wp2_with (first | (go_at_call 61; (with_reducible refine (ih k3 (by have := HJ3.out; have := HK2.out; have := HK3.out; omega) _ _ l0 ((rd_T27 l1_2 x8_3).f0) _ _ ((rd_T27 l1_2 x8_3).f1) _ _ ((rd_T27 l1_2 x8_3).f2) t254 true _ ?side1 ?side2 ?side3 ?side4 ?side5 ?side6 A23.out).mono ?_); (case side1 => exact cs_ (Kd.C_below HR0.out HB.out)); (case side2 => exact HC0.out); (case side3 => exact cs_ (Kd.C_below HR253_1.out HB.out)); (case side4 => exact HC253_1.out); (case side5 => exact cs_ (Kd.C_below HR253_2.out HB.out)); (case side6 => exact HC253_2.out); rintro e w30 ⟨rfl, hb⟩; have n0_ := Aside0.mk (blk_below (g := gb247) (o := .cells #[.string a1_0, .slice A1_1 l1_1.length c1_1, .slice (some ad253) l1_2.length c1_2] 27 (0, 0)) (bq_ BK247) hb); have n1_ := Aside0.mk (below_step (be1_ HB GE247) hb); clear BK247; clear HB; have BK247 := n0_; have HB := n1_; clear n0_ n1_; (try clear hb); (try clear hb2); (try clear hk); (try clear hi); have p256 : 0 ≤ (t248 : Int) := of_decide_eq_true (by first | (with_reducible assumption) | assumption); have q256 : t248 < (l0.length : Int) := of_decide_eq_true (by first | (with_reducible assumption) | assumption); obtain ⟨ad256, A256_1, c256_1, e256, hx256_0, hx256_1, hx256_2, hx256_3, hl256_1, hi256_1⟩ := at_T67 HR0.out t248 p256 q256; cases e256; replace hx256_0 := (HB.out.cell (World.block_lt_of_cell? w _ hx256_0)).trans hx256_0; replace hx256_1 := (HB.out.cell (World.block_lt_of_cell? w _ hx256_1)).trans hx256_1; replace hx256_2 := (HB.out.cell (World.block_lt_of_cell? w _ hx256_2)).trans hx256_2; replace hx256_3 := (HB.out.cell (World.block_lt_of_cell? w _ hx256_3)).trans hx256_3; have HR256_1 := Aside0.mk hi256_1; have HC256_1 := Aside0.mk hl256_1; clear hi256_1 hl256_1; replace p256 := eq_true p256; replace q256 := eq_true q256; have p257 : 0 ≤ (x8_3 : Int) := of_decide_eq_true (by first | (with_reducible assumption) | assumption); have q257 : x8_3 < (((rd_T67 l0 t248).f1).length : Int) := of_decide_eq_true (by first | (with_reducible assumption) | assumption); obtain ⟨ad257, e257, hx257_0⟩ := Kd.at_string HR256_1.out x8_3 p257 q257; cases e257; replace hx257_0 := (HB.out.cell (World.block_lt_of_cell? w _ hx257_0)).trans hx257_0; replace p257 := eq_true p257; replace q257 := eq_true q257)))
                go_roundg k3
                case measure => have := HJ3.out; have := HK2.out; have := HK3.out; omega
                case rel => exact ⟨(wrap64 (x8_3 + 1)), fi_, H', ⟨by have := HJ3.out; have := HK2.out; have := HK3.out; omega⟩, ⟨bq_ BK247⟩, ⟨be1_ HB GE247⟩⟩
               ·rw [if_neg c28] at H
                have c28b0 : (t254.toList == (rdOf ByteArray.empty ((rd_T67 l0 t248).f1) x8_3).toList) = false := beq_eq_false_iff_ne.mpr c28
                have c28b1 : (t254.toList != (rdOf ByteArray.empty ((rd_T67 l0 t248).f1) x8_3).toList) = true := bne_iff_ne.mpr c28
                simp only [Option.some.injEq, Prod.mk.injEq] at H
                obtain ⟨rfl, rfl⟩ := H
                have hcz31_0 : wr.cell? ⟨gb247, 0, none⟩ = some (.string a1_0) := (blk_cell BK247.out 0).trans rfl
                have hcz31_1 : wr.cell? ⟨gb247, 1, none⟩ = some (.slice A1_1 l1_1.length c1_1) := (blk_cell BK247.out 1).trans rfl
                have hcz31_2 : wr.cell? ⟨gb247, 2, none⟩ = some (.slice A1_2 l1_2.length c1_2) := (blk_cell BK247.out 2).trans rfl
                have hfz31_0 := blk_frozen BK247.out 0
                have hfz31_1 := blk_frozen BK247.out 1
                have hfz31_2 := blk_frozen BK247.out 2
                have p253 : 0 ≤ (x8_3 : Int) := of_decide_eq_true (by first | (with_reducible assumption) | assumption)
                have q253 : x8_3 < (l1_2.length : Int) := of_decide_eq_true (by first | (with_reducible assumption) | assumption)
                obtain ⟨ad253, A253_1, c253_1, A253_2, c253_2, e253, hx253_0, hx253_1, hx253_2, hl253_1, hi253_1, hl253_2, hi253_2⟩ := at_T27 HR1_2.out x8_3 p253 q253
                cases e253
                replace hx253_0 := (HB.out.cell (World.block_lt_of_cell? w _ hx253_0)).trans hx253_0
                replace hx253_1 := (HB.out.cell (World.block_lt_of_cell? w _ hx253_1)).trans hx253_1
                replace hx253_2 := (HB.out.cell (World.block_lt_of_cell? w _ hx253_2)).trans hx253_2
                have HR253_1 := Aside0.mk hi253_1
                have HC253_1 := Aside0.mk hl253_1
                clear hi253_1 hl253_1
                have HR253_2 := Aside0.mk hi253_2
                have HC253_2 := Aside0.mk hl253_2
                clear hi253_2 hl253_2
                replace p253 := eq_true p253
                replace q253 := eq_true q253
                go_wp2_with (first | (go_at_call 61; (with_reducible refine (ih k3 (by have := HJ3.out; have := HK2.out; have := HK3.out; omega) _ _ l0 ((rd_T27 l1_2 x8_3).f0) _ _ ((rd_T27 l1_2 x8_3).f1) _ _ ((rd_T27 l1_2 x8_3).f2) t254 true _ ?side1 ?side2 ?side3 ?side4 ?side5 ?side6 A23.out).mono ?_); (case side1 => exact cs_ (Kd.C_below HR0.out HB.out)); (case side2 => exact HC0.out); (case side3 => exact cs_ (Kd.C_below HR253_1.out HB.out)); (case side4 => exact HC253_1.out); (case side5 => exact cs_ (Kd.C_below HR253_2.out HB.out)); (case side6 => exact HC253_2.out); rintro e w32 ⟨rfl, hb⟩; have n0_ := Aside0.mk (blk_below (g := gb247) (o := .cells #[.string a1_0, .slice A1_1 l1_1.length c1_1, .slice (some ad253) l1_2.length c1_2] 27 (0, 0)) (bq_ BK247) hb); have n1_ := Aside0.mk (below_step (be1_ HB GE247) hb); clear BK247; clear HB; have BK247 := n0_; have HB := n1_; clear n0_ n1_; (try clear hb); (try clear hb2); (try clear hk); (try clear hi); have p256 : 0 ≤ (t248 : Int) := of_decide_eq_true (by first | (with_reducible assumption) | assumption); have q256 : t248 < (l0.length : Int) := of_decide_eq_true (by first | (with_reducible assumption) | assumption); obtain ⟨ad256, A256_1, c256_1, e256, hx256_0, hx256_1, hx256_2, hx256_3, hl256_1, hi256_1⟩ := at_T67 HR0.out t248 p256 q256; cases e256; replace hx256_0 := (HB.out.cell (World.block_lt_of_cell? w _ hx256_0)).trans hx256_0; replace hx256_1 := (HB.out.cell (World.block_lt_of_cell? w _ hx256_1)).trans hx256_1; replace hx256_2 := (HB.out.cell (World.block_lt_of_cell? w _ hx256_2)).trans hx256_2; replace hx256_3 := (HB.out.cell (World.block_lt_of_cell? w _ hx256_3)).trans hx256_3; have HR256_1 := Aside0.mk hi256_1; have HC256_1 := Aside0.mk hl256_1; clear hi256_1 hl256_1; replace p256 := eq_true p256; replace q256 := eq_true q256; have p257 : 0 ≤ (x8_3 : Int) := of_decide_eq_true (by first | (with_reducible assumption) | assumption); have q257 : x8_3 < (((rd_T67 l0 t248).f1).length : Int) := of_decide_eq_true (by first | (with_reducible assumption) | assumption); obtain ⟨ad257, e257, hx257_0⟩ := Kd.at_string HR256_1.out x8_3 p257 q257; cases e257; replace hx257_0 := (HB.out.cell (World.block_lt_of_cell? w _ hx257_0)).trans hx257_0; replace p257 := eq_true p257; replace q257 := eq_true q257))
                repeat (go_quiet (first | (go_at_call 61; (with_reducible refine (ih k3 (by have := HJ3.out; have := HK2.out; have := HK3.out; omega) _ _ l0 ((rd_T27 l1_2 x8_3).f0) _ _ ((rd_T27 l1_2 x8_3).f1) _ _ ((rd_T27 l1_2 x8_3).f2) t254 true _ ?side1 ?side2 ?side3 ?side4 ?side5 ?side6 A23.out).mono ?_); (case side1 => exact cs_ (Kd.C_below HR0.out HB.out)); (case side2 => exact HC0.out); (case side3 => exact cs_ (Kd.C_below HR253_1.out HB.out)); (case side4 => exact HC253_1.out); (case side5 => exact cs_ (Kd.C_below HR253_2.out HB.out)); (case side6 => exact HC253_2.out); rintro e w32 ⟨rfl, hb⟩; have n0_ := Aside0.mk (blk_below (g := gb247) (o := .cells #[.string a1_0, .slice A1_1 l1_1.length c1_1, .slice (some ad253) l1_2.length c1_2] 27 (0, 0)) (bq_ BK247) hb); have n1_ := Aside0.mk (below_step (be1_ HB GE247) hb); clear BK247; clear HB; have BK247 := n0_; have HB := n1_; clear n0_ n1_; (try clear hb); (try clear hb2); (try clear hk); (try clear hi); have p256 : 0 ≤ (t248 : Int) := of_decide_eq_true (by first | (with_reducible assumption) | assumption); have q256 : t248 < (l0.length : Int) := of_decide_eq_true (by first | (with_reducible assumption) | assumption); obtain ⟨ad256, A256_1, c256_1, e256, hx256_0, hx256_1, hx256_2, hx256_3, hl256_1, hi256_1⟩ := at_T67 HR0.out t248 p256 q256; cases e256; replace hx256_0 := (HB.out.cell (World.block_lt_of_cell? w _ hx256_0)).trans hx256_0; replace hx256_1 := (HB.out.cell (World.block_lt_of_cell? w _ hx256_1)).trans hx256_1; replace hx256_2 := (HB.out.cell (World.block_lt_of_cell? w _ hx256_2)).trans hx256_2; replace hx256_3 := (HB.out.cell (World.block_lt_of_cell? w _ hx256_3)).trans hx256_3; have HR256_1 := Aside0.mk hi256_1; have HC256_1 := Aside0.mk hl256_1; clear hi256_1 hl256_1; replace p256 := eq_true p256; replace q256 := eq_true q256; have p257 : 0 ≤ (x8_3 : Int) := of_decide_eq_true (by first | (with_reducible assumption) | assumption); have q257 : x8_3 < (((rd_T67 l0 t248).f1).length : Int) := of_decide_eq_true (by first | (with_reducible assumption) | assumption); obtain ⟨ad257, e257, hx257_0⟩ := Kd.at_string HR256_1.out x8_3 p257 q257; cases e257; replace hx257_0 := (HB.out.cell (World.block_lt_of_cell? w _ hx257_0)).trans hx257_0; replace p257 := eq_true p257; replace q257 := eq_true q257)); try go_wp2_with (first | (go_at_call 61; (with_reducible refine (ih k3 (by have := HJ3.out; have := HK2.out; have := HK3.out; omega) _ _ l0 ((rd_T27 l1_2 x8_3).f0) _ _ ((rd_T27 l1_2 x8_3).f1) _ _ ((rd_T27 l1_2 x8_3).f2) t254 true _ ?side1 ?side2 ?side3 ?side4 ?side5 ?side6 A23.out).mono ?_); (case side1 => exact cs_ (Kd.C_below HR0.out HB.out)); (case side2 => exact HC0.out); (case side3 => exact cs_ (Kd.C_below HR253_1.out HB.out)); (case side4 => exact HC253_1.out); (case side5 => exact cs_ (Kd.C_below HR253_2.out HB.out)); (case side6 => exact HC253_2.out); rintro e w32 ⟨rfl, hb⟩; have n0_ := Aside0.mk (blk_below (g := gb247) (o := .cells #[.string a1_0, .slice A1_1 l1_1.length c1_1, .slice (some ad253) l1_2.length c1_2] 27 (0, 0)) (bq_ BK247) hb); have n1_ := Aside0.mk (below_step (be1_ HB GE247) hb); clear BK247; clear HB; have BK247 := n0_; have HB := n1_; clear n0_ n1_; (try clear hb); (try clear hb2); (try clear hk); (try clear hi); have p256 : 0 ≤ (t248 : Int) := of_decide_eq_true (by first | (with_reducible assumption) | assumption); have q256 : t248 < (l0.length : Int) := of_decide_eq_true (by first | (with_reducible assumption) | assumption); obtain ⟨ad256, A256_1, c256_1, e256, hx256_0, hx256_1, hx256_2, hx256_3, hl256_1, hi256_1⟩ := at_T67 HR0.out t248 p256 q256; cases e256; replace hx256_0 := (HB.out.cell (World.block_lt_of_cell? w _ hx256_0)).trans hx256_0; replace hx256_1 := (HB.out.cell (World.block_lt_of_cell? w _ hx256_1)).trans hx256_1; replace hx256_2 := (HB.out.cell (World.block_lt_of_cell? w _ hx256_2)).trans hx256_2; replace hx256_3 := (HB.out.cell (World.block_lt_of_cell? w _ hx256_3)).trans hx256_3; have HR256_1 := Aside0.mk hi256_1; have HC256_1 := Aside0.mk hl256_1; clear hi256_1 hl256_1; replace p256 := eq_true p256; replace q256 := eq_true q256; have p257 : 0 ≤ (x8_3 : Int) := of_decide_eq_true (by first | (with_reducible assumption) | assumption); have q257 : x8_3 < (((rd_T67 l0 t248).f1).length : Int) := of_decide_eq_true (by first | (with_reducible assumption) | assumption); obtain ⟨ad257, e257, hx257_0⟩ := Kd.at_string HR256_1.out x8_3 p257 q257; cases e257; replace hx257_0 := (HB.out.cell (World.block_lt_of_cell? w _ hx257_0)).trans hx257_0; replace p257 := eq_true p257; replace q257 := eq_true q257)))
                go_ret2
                exact ⟨er_, be1_ HB GE247⟩
              ·rw [if_neg c27] at H
               exact absurd H (by simp)
             ·rw [if_neg c26] at H
              exact absurd H (by simp)
            ·rw [if_neg c25] at H
             exact absurd H (by simp)
           ·replace c24 := Bool.eq_false_iff.mpr c24
            subst c24
            have H1 : (some ((⟨#[]⟩ : ByteArray), false)) = some (r1, r2) := by rw [if_neg (show ¬ (false = true) by decide)] at H; exact H
            clear H
            have H := H1
            clear H1
            simp only [Option.some.injEq, Prod.mk.injEq] at H
            obtain ⟨rfl, rfl⟩ := H
            have hcz33_0 : wr.cell? ⟨gb247, 0, none⟩ = some (.string a1_0) := (blk_cell BK247.out 0).trans rfl
            have hcz33_1 : wr.cell? ⟨gb247, 1, none⟩ = some (.slice A1_1 l1_1.length c1_1) := (blk_cell BK247.out 1).trans rfl
            have hcz33_2 : wr.cell? ⟨gb247, 2, none⟩ = some (.slice A1_2 l1_2.length c1_2) := (blk_cell BK247.out 2).trans rfl
            have hfz33_0 := blk_frozen BK247.out 0
            have hfz33_1 := blk_frozen BK247.out 1
            have hfz33_2 := blk_frozen BK247.out 2
            have p253 : 0 ≤ (x8_3 : Int) := of_decide_eq_true (by first | (with_reducible assumption) | assumption)
            have q253 : x8_3 < (l1_2.length : Int) := of_decide_eq_true (by first | (with_reducible assumption) | assumption)
            obtain ⟨ad253, A253_1, c253_1, A253_2, c253_2, e253, hx253_0, hx253_1, hx253_2, hl253_1, hi253_1, hl253_2, hi253_2⟩ := at_T27 HR1_2.out x8_3 p253 q253
            cases e253
            replace hx253_0 := (HB.out.cell (World.block_lt_of_cell? w _ hx253_0)).trans hx253_0
            replace hx253_1 := (HB.out.cell (World.block_lt_of_cell? w _ hx253_1)).trans hx253_1
            replace hx253_2 := (HB.out.cell (World.block_lt_of_cell? w _ hx253_2)).trans hx253_2
            have HR253_1 := Aside0.mk hi253_1
            have HC253_1 := Aside0.mk hl253_1
            clear hi253_1 hl253_1
            have HR253_2 := Aside0.mk hi253_2
            have HC253_2 := Aside0.mk hl253_2
            clear hi253_2 hl253_2
            replace p253 := eq_true p253
            replace q253 := eq_true q253
            go_wp2_with (first | (go_at_call 61; (with_reducible refine (ih k3 (by have := HJ3.out; have := HK2.out; have := HK3.out; omega) _ _ l0 ((rd_T27 l1_2 x8_3).f0) _ _ ((rd_T27 l1_2 x8_3).f1) _ _ ((rd_T27 l1_2 x8_3).f2) t254 false _ ?side1 ?side2 ?side3 ?side4 ?side5 ?side6 A23.out).mono ?_); (case side1 => exact cs_ (Kd.C_below HR0.out HB.out)); (case side2 => exact HC0.out); (case side3 => exact cs_ (Kd.C_below HR253_1.out HB.out)); (case side4 => exact HC253_1.out); (case side5 => exact cs_ (Kd.C_below HR253_2.out HB.out)); (case side6 => exact HC253_2.out); rintro e w34 ⟨rfl, hb⟩; have n0_ := Aside0.mk (blk_below (g := gb247) (o := .cells #[.string a1_0, .slice A1_1 l1_1.length c1_1, .slice (some ad253) l1_2.length c1_2] 27 (0, 0)) (bq_ BK247) hb); have n1_ := Aside0.mk (below_step (be1_ HB GE247) hb); clear BK247; clear HB; have BK247 := n0_; have HB := n1_; clear n0_ n1_; (try clear hb); (try clear hb2); (try clear hk); (try clear hi)))
            repeat (go_quiet (first | (go_at_call 61; (with_reducible refine (ih k3 (by have := HJ3.out; have := HK2.out; have := HK3.out; omega) _ _ l0 ((rd_T27 l1_2 x8_3).f0) _ _ ((rd_T27 l1_2 x8_3).f1) _ _ ((rd_T27 l1_2 x8_3).f2) t254 false _ ?side1 ?side2 ?side3 ?side4 ?side5 ?side6 A23.out).mono ?_); (case side1 => exact cs_ (Kd.C_below HR0.out HB.out)); (case side2 => exact HC0.out); (case side3 => exact cs_ (Kd.C_below HR253_1.out HB.out)); (case side4 => exact HC253_1.out); (case side5 => exact cs_ (Kd.C_below HR253_2.out HB.out)); (case side6 => exact HC253_2.out); rintro e w34 ⟨rfl, hb⟩; have n0_ := Aside0.mk (blk_below (g := gb247) (o := .cells #[.string a1_0, .slice A1_1 l1_1.length c1_1, .slice (some ad253) l1_2.length c1_2] 27 (0, 0)) (bq_ BK247) hb); have n1_ := Aside0.mk (below_step (be1_ HB GE247) hb); clear BK247; clear HB; have BK247 := n0_; have HB := n1_; clear n0_ n1_; (try clear hb); (try clear hb2); (try clear hk); (try clear hi))); try go_wp2_with (first | (go_at_call 61; (with_reducible refine (ih k3 (by have := HJ3.out; have := HK2.out; have := HK3.out; omega) _ _ l0 ((rd_T27 l1_2 x8_3).f0) _ _ ((rd_T27 l1_2 x8_3).f1) _ _ ((rd_T27 l1_2 x8_3).f2) t254 false _ ?side1 ?side2 ?side3 ?side4 ?side5 ?side6 A23.out).mono ?_); (case side1 => exact cs_ (Kd.C_below HR0.out HB.out)); (case side2 => exact HC0.out); (case side3 => exact cs_ (Kd.C_below HR253_1.out HB.out)); (case side4 => exact HC253_1.out); (case side5 => exact cs_ (Kd.C_below HR253_2.out HB.out)); (case side6 => exact HC253_2.out); rintro e w34 ⟨rfl, hb⟩; have n0_ := Aside0.mk (blk_below (g := gb247) (o := .cells #[.string a1_0, .slice A1_1 l1_1.length c1_1, .slice (some ad253) l1_2.length c1_2] 27 (0, 0)) (bq_ BK247) hb); have n1_ := Aside0.mk (below_step (be1_ HB GE247) hb); clear BK247; clear HB; have BK247 := n0_; have HB := n1_; clear n0_ n1_; (try clear hb); (try clear hb2); (try clear hk); (try clear hi))))
            go_ret2
            exact ⟨er_, be1_ HB GE247⟩
          ·rw [if_neg c22] at H
           exact absurd H (by simp)
         ·rw [if_neg c21] at H
          have c21b0 : decide (x8_3 < (l1_2.length : Int)) = false := decide_eq_false c21
          clear c21
          by_cases c35 : 0 ≤ t248
          ·rw [if_pos c35] at H
           have c35b0 : decide (0 ≤ t248) = true := decide_eq_true c35
           clear c35
           by_cases c36 : t248 < (l0.length : Int)
           ·rw [if_pos c36] at H
            have c36b0 : decide (t248 < (l0.length : Int)) = true := decide_eq_true c36
            clear c36
            simp only [Option.some.injEq, Prod.mk.injEq] at H
            obtain ⟨rfl, rfl⟩ := H
            have hcz37_0 : wr.cell? ⟨gb247, 0, none⟩ = some (.string a1_0) := (blk_cell BK247.out 0).trans rfl
            have hcz37_1 : wr.cell? ⟨gb247, 1, none⟩ = some (.slice A1_1 l1_1.length c1_1) := (blk_cell BK247.out 1).trans rfl
            have hcz37_2 : wr.cell? ⟨gb247, 2, none⟩ = some (.slice A1_2 l1_2.length c1_2) := (blk_cell BK247.out 2).trans rfl
            have hfz37_0 := blk_frozen BK247.out 0
            have hfz37_1 := blk_frozen BK247.out 1
            have hfz37_2 := blk_frozen BK247.out 2
            have p258 : 0 ≤ (t248 : Int) := of_decide_eq_true (by first | (with_reducible assumption) | assumption)
            have q258 : t248 < (l0.length : Int) := of_decide_eq_true (by first | (with_reducible assumption) | assumption)
            obtain ⟨ad258, A258_1, c258_1, e258, hx258_0, hx258_1, hx258_2, hx258_3, hl258_1, hi258_1⟩ := at_T67 HR0.out t248 p258 q258
            cases e258
            replace hx258_0 := (HB.out.cell (World.block_lt_of_cell? w _ hx258_0)).trans hx258_0
            replace hx258_1 := (HB.out.cell (World.block_lt_of_cell? w _ hx258_1)).trans hx258_1
            replace hx258_2 := (HB.out.cell (World.block_lt_of_cell? w _ hx258_2)).trans hx258_2
            replace hx258_3 := (HB.out.cell (World.block_lt_of_cell? w _ hx258_3)).trans hx258_3
            have HR258_1 := Aside0.mk hi258_1
            have HC258_1 := Aside0.mk hl258_1
            clear hi258_1 hl258_1
            replace p258 := eq_true p258
            replace q258 := eq_true q258
            go_wp2
            repeat (go_quiet (fail); try go_wp2)
            go_ret2
            exact ⟨er_, be1_ HB GE247⟩
           ·rw [if_neg c36] at H
            exact absurd H (by simp)
          ·rw [if_neg c35] at H
           exact absurd H (by simp)

end Go.Proofs.Ytfampmajmbediaa.P
