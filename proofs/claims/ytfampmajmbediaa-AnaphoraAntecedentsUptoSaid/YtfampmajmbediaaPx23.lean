-- Written by the session's own program wip/tools/xprint.py out of the translation, with the kit's print.py on a scratch copy; functions given by hand stand among them.
import Derived.Test.YtfampmajmbediaaPx0
namespace Go.Proofs.Ytfampmajmbediaa.P
open Go.RowKit Go.Proofs.YtfampmajmbediaaW.PrintWords Go.Proofs.YtfampmajmbediaaW.PrintLast Go.Proofs.YtfampmajmbediaaW.PrintMore
attribute [local go_sem] max2_int min2_int max_two min_two max_three min_three max_four min_four   -- for this text's walks alone
set_option linter.unusedVariables false
set_option linter.unusedSimpArgs false

/-! ### pentaglotref39_Path: function 28 -/
mutual
def pentaglotref39_Path.j0 : Nat → ByteArray → Bool → ByteArray → List Int → List (S27) → Option (List Int × Bool)
 | 0, _, _, _, _, _ => none
 | k + 1, x11, x12, x273000, x273001, x273002 => if x12 = true then (some ((([0] : List Int)), true)) else (if x11.toList = ([68, 117, 114, 105, 110, 103] : List UInt8) then (if 0 < (x273002.length : Int) then ((pentaglotref39_Path.f k ((rd_T27 x273002 0).f0) ((rd_T27 x273002 0).f1) ((rd_T27 x273002 0).f2)).bind fun bt277 => ((some (([0] : List Int) : List Int)).bind fun y281 => (if y281.length + bt277.1.length < 17592186044416 then (some ((y281 ++ bt277.1), bt277.2)) else (none)))) else (none)) else (if x11.toList = ([83, 105, 110, 99, 101] : List UInt8) then (if 0 < (x273002.length : Int) then ((pentaglotref39_Path.f k ((rd_T27 x273002 0).f0) ((rd_T27 x273002 0).f1) ((rd_T27 x273002 0).f2)).bind fun bt288 => ((some (([0] : List Int) : List Int)).bind fun y292 => (if y292.length + bt288.1.length < 17592186044416 then (some ((y292 ++ bt288.1), bt288.2)) else (none)))) else (none)) else (if x11.toList = ([85, 110, 116, 105, 108] : List UInt8) then (if 0 < (x273002.length : Int) then ((pentaglotref39_Path.f k ((rd_T27 x273002 0).f0) ((rd_T27 x273002 0).f1) ((rd_T27 x273002 0).f2)).bind fun bt299 => ((some (([0] : List Int) : List Int)).bind fun y303 => (if y303.length + bt299.1.length < 17592186044416 then (some ((y303 ++ bt299.1), bt299.2)) else (none)))) else (none)) else (if x11.toList = ([80, 108, 101, 97, 115, 101] : List UInt8) then (if 0 < (x273002.length : Int) then ((pentaglotref39_Path.f k ((rd_T27 x273002 0).f0) ((rd_T27 x273002 0).f1) ((rd_T27 x273002 0).f2)).bind fun bt310 => ((some (([0] : List Int) : List Int)).bind fun y314 => (if y314.length + bt310.1.length < 17592186044416 then (some ((y314 ++ bt310.1), bt310.2)) else (none)))) else (none)) else (if x11.toList = ([65, 108, 115, 111] : List UInt8) then (if 0 < (x273002.length : Int) then ((pentaglotref39_Path.f k ((rd_T27 x273002 0).f0) ((rd_T27 x273002 0).f1) ((rd_T27 x273002 0).f2)).bind fun bt321 => ((some (([0] : List Int) : List Int)).bind fun y325 => (if y325.length + bt321.1.length < 17592186044416 then (some ((y325 ++ bt321.1), bt321.2)) else (none)))) else (none)) else (some (([] : List Int), false)))))))
def pentaglotref39_Path.f : Nat → ByteArray → List Int → List (S27) → Option (List Int × Bool)
 | 0, _, _, _ => none
 | k + 1, a0_0, l0_1, l0_2 => if (l0_2.length : Int) = 0 then (some (([] : List Int), false)) else (if a0_0.toList = ([65, 115, 115, 101, 114, 116] : List UInt8) then (pentaglotref39_Path.j0 k a0_0 (a0_0.toList == ([65, 115, 115, 101, 114, 116] : List UInt8)) a0_0 l0_1 l0_2) else (if a0_0.toList = ([77, 117, 115, 116] : List UInt8) then (pentaglotref39_Path.j0 k a0_0 (a0_0.toList == ([77, 117, 115, 116] : List UInt8)) a0_0 l0_1 l0_2) else (if a0_0.toList = ([77, 117, 115, 116, 78, 111, 116] : List UInt8) then (pentaglotref39_Path.j0 k a0_0 (a0_0.toList == ([77, 117, 115, 116, 78, 111, 116] : List UInt8)) a0_0 l0_1 l0_2) else (pentaglotref39_Path.j0 k a0_0 (a0_0.toList == ([77, 97, 121] : List UInt8)) a0_0 l0_1 l0_2))))
end
theorem pentaglotref39_Path.mono_l : ∀ k, (∀ y0 y1 y2, LeO (pentaglotref39_Path.f k y0 y1 y2) (pentaglotref39_Path.f (k + 1) y0 y1 y2)) ∧ (∀ y0 y1 y2 y3 y4, LeO (pentaglotref39_Path.j0 k y0 y1 y2 y3 y4) (pentaglotref39_Path.j0 (k + 1) y0 y1 y2 y3 y4))
 | 0 => ⟨fun _ _ _ r h => by simp [pentaglotref39_Path.f] at h, fun _ _ _ _ _ r h => by simp [pentaglotref39_Path.j0] at h⟩
 | k + 1 => by
  obtain ⟨ih0, ih1⟩ := pentaglotref39_Path.mono_l k
  refine ⟨?_, ?_⟩
  ·intro y0 y1 y2
   unfold pentaglotref39_Path.f
   repeat' first
   | (with_reducible exact ih0 _ _ _)
   | (with_reducible exact ih1 _ _ _ _ _)
   | (with_reducible exact LeO.refl _)
   | (with_reducible exact LeO.none _)
   | (with_reducible refine LeO.ite ?_ ?_)
   | (with_reducible refine LeO.bind ?_ (fun _ => ?_))
   | exact ih0 _ _ _
   | exact ih1 _ _ _ _ _
   | exact LeO.none _
   | refine LeO.ite ?_ ?_
   | refine LeO.bind ?_ (fun _ => ?_)
  ·intro y0 y1 y2 y3 y4
   unfold pentaglotref39_Path.j0
   repeat' first
   | (with_reducible exact ih0 _ _ _)
   | (with_reducible exact ih1 _ _ _ _ _)
   | (with_reducible exact LeO.refl _)
   | (with_reducible exact LeO.none _)
   | (with_reducible refine LeO.ite ?_ ?_)
   | (with_reducible refine LeO.bind ?_ (fun _ => ?_))
   | exact ih0 _ _ _
   | exact ih1 _ _ _ _ _
   | exact LeO.none _
   | refine LeO.ite ?_ ?_
   | refine LeO.bind ?_ (fun _ => ?_)
theorem pentaglotref39_Path.mono : ∀ a0 a1 a2 k, LeO (pentaglotref39_Path.f k a0 a1 a2) (pentaglotref39_Path.f (k + 1) a0 a1 a2) := by
 intro a0 a1 a2 k
 obtain ⟨ih0, ih1⟩ := pentaglotref39_Path.mono_l k
 exact ih0 a0 a1 a2
set_option maxHeartbeats 8000000 in
set_option maxRecDepth 100000 in
theorem pentaglotref39_Path.calls (k : Nat) : ∀ (a0_0 : ByteArray) (A0_1 : Option Addr) (c0_1 : Nat) (l0_1 : List Int) (A0_2 : Option Addr) (c0_2 : Nat) (l0_2 : List (S27)) (r1 : List Int) (r2 : Bool) (w : World) (hr0_1 : Kd.C (Kd.int .i64) w A0_1 l0_1.length l0_1) (hc0_1 : l0_1.length ≤ c0_1) (hr0_2 : Kd.C k27 w A0_2 l0_2.length l0_2) (hc0_2 : l0_2.length ≤ c0_2) (h : pentaglotref39_Path.f k a0_0 l0_1 l0_2 = some (r1, r2)),
  Calls Try.prog 28 #[.agg #[.string a0_0, .slice A0_1 l0_1.length c0_1, .slice A0_2 l0_2.length c0_2]] w fun e w' => ∃ v0_ : Value, e = .returned (.tuple #[v0_, .bool r2]) ∧ Kd.R (Kd.int .i64) 3 w' w.heap.size (fun _ => True) v0_ r1 ∧ Below w.heap.size w w' := by
 induction k using Nat.strongRecOn with
 | _ k ih =>
 intro a0_0 A0_1 c0_1 l0_1 A0_2 c0_2 l0_2 r1 r2 w hr0_1 hc0_1 hr0_2 hc0_2 h
 cases k with
 | zero => exact absurd h (by simp [pentaglotref39_Path.f])
 | succ k =>
 simp only [pentaglotref39_Path.f] at h
 have hu27 := Try.underlying27
 have HR0_1 := Aside0.mk hr0_1
 have HC0_1 := Aside0.mk hc0_1
 clear hr0_1 hc0_1
 have HR0_2 := Aside0.mk hr0_2
 have HC0_2 := Aside0.mk hc0_2
 clear hr0_2 hc0_2
 have HB := Aside0.mk (Below.refl w.heap.size w)
 have H : (if (l0_2.length : Int) = 0 then (some (([] : List Int), false)) else (if a0_0.toList = ([65, 115, 115, 101, 114, 116] : List UInt8) then (pentaglotref39_Path.j0 k a0_0 (a0_0.toList == ([65, 115, 115, 101, 114, 116] : List UInt8)) a0_0 l0_1 l0_2) else (if a0_0.toList = ([77, 117, 115, 116] : List UInt8) then (pentaglotref39_Path.j0 k a0_0 (a0_0.toList == ([77, 117, 115, 116] : List UInt8)) a0_0 l0_1 l0_2) else (if a0_0.toList = ([77, 117, 115, 116, 78, 111, 116] : List UInt8) then (pentaglotref39_Path.j0 k a0_0 (a0_0.toList == ([77, 117, 115, 116, 78, 111, 116] : List UInt8)) a0_0 l0_1 l0_2) else (pentaglotref39_Path.j0 k a0_0 (a0_0.toList == ([77, 97, 121] : List UInt8)) a0_0 l0_1 l0_2))))) = some (r1, r2) := h
 clear h
 by_cases c2 : (l0_2.length : Int) = 0
 ·rw [if_pos c2] at H
  have c2b0 : ((l0_2.length : Int) == 0) = true := beq_iff_eq.mpr c2
  have c2b1 : ((l0_2.length : Int) != 0) = false := bne_eq_false_iff_eq.mpr c2
  clear c2
  simp only [Option.some.injEq, Prod.mk.injEq] at H
  obtain ⟨rfl, rfl⟩ := H
  go_enter Try.func28, Try.ntmps28
  go_wp2_with (first | ((with_reducible refine gate_dst (N := 1) rfl ?_); refine box_event ?hg (N := 1) ?hd (cs := #[.string a0_0, .slice A0_1 l0_1.length c0_1, .slice A0_2 l0_2.length c0_2]) (t := 27) ?hr ?_; (case hd => rfl); (case hg => rfl); (case hr => first | (go_simp; done) | (go_simp; rfl)); intro gb272 hg w3 hbox hb; have n0_ := Aside0.mk (below_step (be_ HB) hb); have n1_ := Aside0.mk (hbox); have n2_ := Aside0.mk ((by rw [hg]; exact (below_size (be_ HB)) : w.heap.size ≤ gb272)); have n3_ := Aside0.mk ((by rw [hg]; exact (below_size (be_ HB)) : w.heap.size ≤ gb272)); clear HB; have HB := n0_; have BK272 := n1_; have GW272 := n2_; have GE272 := n3_; clear n0_ n1_ n2_ n3_; clear hb hbox hg; have hcz4_0 : w3.cell? ⟨gb272, 0, none⟩ = some (.string a0_0) := (blk_cell BK272.out 0).trans rfl; have hcz4_1 : w3.cell? ⟨gb272, 1, none⟩ = some (.slice A0_1 l0_1.length c0_1) := (blk_cell BK272.out 1).trans rfl; have hcz4_2 : w3.cell? ⟨gb272, 2, none⟩ = some (.slice A0_2 l0_2.length c0_2) := (blk_cell BK272.out 2).trans rfl; have hfz4_0 := blk_frozen BK272.out 0; have hfz4_1 := blk_frozen BK272.out 1; have hfz4_2 := blk_frozen BK272.out 2))
  go_ret2
  exact ⟨_, er_, by first | exact Kd.R_nil _ _ _ _ _ | exact Kd.N_nil _ _ _ _ _ | exact Kd.V_nil _ _ _ _ _ | exact Kd.Q_nil _ _ _ _ _ | exact Kd.S_nil _ _ _ _ _, be1_ HB GE272⟩
 ·rw [if_neg c2] at H
  have c2b0 : ((l0_2.length : Int) == 0) = false := beq_eq_false_iff_ne.mpr c2
  have c2b1 : ((l0_2.length : Int) != 0) = true := bne_iff_ne.mpr c2
  have c2b2 : ¬ (l0_2 = []) := fun h_ => c2 (by rw [h_]; rfl)
  have HC5 := Aside0.mk H
  clear H
  go_enter Try.func28, Try.ntmps28
  go_upto_if 12 with (first | ((with_reducible refine gate_dst (N := 1) rfl ?_); refine box_event ?hg (N := 1) ?hd (cs := #[.string a0_0, .slice A0_1 l0_1.length c0_1, .slice A0_2 l0_2.length c0_2]) (t := 27) ?hr ?_; (case hd => rfl); (case hg => rfl); (case hr => first | (go_simp; done) | (go_simp; rfl)); intro gb272 hg w6 hbox hb; have n0_ := Aside0.mk (below_step (be_ HB) hb); have n1_ := Aside0.mk (hbox); have n2_ := Aside0.mk ((by rw [hg]; exact (below_size (be_ HB)) : w.heap.size ≤ gb272)); have n3_ := Aside0.mk ((by rw [hg]; exact (below_size (be_ HB)) : w.heap.size ≤ gb272)); clear HB; have HB := n0_; have BK272 := n1_; have GW272 := n2_; have GE272 := n3_; clear n0_ n1_ n2_ n3_; clear hb hbox hg; have hcz7_0 : w6.cell? ⟨gb272, 0, none⟩ = some (.string a0_0) := (blk_cell BK272.out 0).trans rfl; have hcz7_1 : w6.cell? ⟨gb272, 1, none⟩ = some (.slice A0_1 l0_1.length c0_1) := (blk_cell BK272.out 1).trans rfl; have hcz7_2 : w6.cell? ⟨gb272, 2, none⟩ = some (.slice A0_2 l0_2.length c0_2) := (blk_cell BK272.out 2).trans rfl; have hfz7_0 := blk_frozen BK272.out 0; have hfz7_1 := blk_frozen BK272.out 1; have hfz7_2 := blk_frozen BK272.out 2))
  (try simp only [Act.put, List.setIfInBounds_toArray, List.set_cons_zero, List.set_cons_succ])
  go_cut [12] (fun v12 wc => ∃ (kq : Nat) (x12_4 : Bool), v12 = .bool x12_4 ∧ Aside0 (pentaglotref39_Path.j0 kq a0_0 x12_4 a0_0 l0_1 l0_2 = some (r1, r2)) ∧ Aside0 (kq ≤ k) ∧ Aside0 (wc.heap[gb272]? = some (.cells #[.string a0_0, (.slice A0_1 l0_1.length c0_1), (.slice A0_2 l0_2.length c0_2)] 27 (0, 0))) ∧ Aside0 (Below w.heap.size w wc))
  case first =>
   have H := HC5.out
   clear HC5
   by_cases c8 : a0_0.toList = ([65, 115, 115, 101, 114, 116] : List UInt8)
   ·rw [if_pos c8] at H
    have c8b0 : (a0_0.toList == ([65, 115, 115, 101, 114, 116] : List UInt8)) = true := beq_iff_eq.mpr c8
    have c8b1 : (a0_0.toList != ([65, 115, 115, 101, 114, 116] : List UInt8)) = false := bne_eq_false_iff_eq.mpr c8
    clear c8
    (first | rw [c8b0] | (simp only [i64_w, i32_w]; rw [c8b0]) | skip)
    have H' := Aside0.mk H
    clear H
    go_wp2
    go_meet
    case rel => exact ⟨_, ((a0_0.toList == ([65, 115, 115, 101, 114, 116] : List UInt8))), fi_, H', ⟨by first | omega | exact Nat.le_refl _⟩, ⟨bq_ BK272⟩, ⟨be1_ HB GE272⟩⟩
   ·rw [if_neg c8] at H
    have c8b0 : (a0_0.toList == ([65, 115, 115, 101, 114, 116] : List UInt8)) = false := beq_eq_false_iff_ne.mpr c8
    have c8b1 : (a0_0.toList != ([65, 115, 115, 101, 114, 116] : List UInt8)) = true := bne_iff_ne.mpr c8
    (first | rw [c8b0] | (simp only [i64_w, i32_w]; rw [c8b0]) | skip)
    by_cases c9 : a0_0.toList = ([77, 117, 115, 116] : List UInt8)
    ·rw [if_pos c9] at H
     have c9b0 : (a0_0.toList == ([77, 117, 115, 116] : List UInt8)) = true := beq_iff_eq.mpr c9
     have c9b1 : (a0_0.toList != ([77, 117, 115, 116] : List UInt8)) = false := bne_eq_false_iff_eq.mpr c9
     clear c9
     have H' := Aside0.mk H
     clear H
     go_wp2
     go_meet
     case rel => exact ⟨_, ((a0_0.toList == ([77, 117, 115, 116] : List UInt8))), fi_, H', ⟨by first | omega | exact Nat.le_refl _⟩, ⟨bq_ BK272⟩, ⟨be1_ HB GE272⟩⟩
    ·rw [if_neg c9] at H
     have c9b0 : (a0_0.toList == ([77, 117, 115, 116] : List UInt8)) = false := beq_eq_false_iff_ne.mpr c9
     have c9b1 : (a0_0.toList != ([77, 117, 115, 116] : List UInt8)) = true := bne_iff_ne.mpr c9
     by_cases c10 : a0_0.toList = ([77, 117, 115, 116, 78, 111, 116] : List UInt8)
     ·rw [if_pos c10] at H
      have c10b0 : (a0_0.toList == ([77, 117, 115, 116, 78, 111, 116] : List UInt8)) = true := beq_iff_eq.mpr c10
      have c10b1 : (a0_0.toList != ([77, 117, 115, 116, 78, 111, 116] : List UInt8)) = false := bne_eq_false_iff_eq.mpr c10
      clear c10
      have H' := Aside0.mk H
      clear H
      go_wp2
      go_meet
      case rel => exact ⟨_, ((a0_0.toList == ([77, 117, 115, 116, 78, 111, 116] : List UInt8))), fi_, H', ⟨by first | omega | exact Nat.le_refl _⟩, ⟨bq_ BK272⟩, ⟨be1_ HB GE272⟩⟩
     ·rw [if_neg c10] at H
      have c10b0 : (a0_0.toList == ([77, 117, 115, 116, 78, 111, 116] : List UInt8)) = false := beq_eq_false_iff_ne.mpr c10
      have c10b1 : (a0_0.toList != ([77, 117, 115, 116, 78, 111, 116] : List UInt8)) = true := bne_iff_ne.mpr c10
      have H' := Aside0.mk H
      clear H
      go_wp2
      go_meet
      case rel => exact ⟨_, ((a0_0.toList == ([77, 97, 121] : List UInt8))), fi_, H', ⟨by first | omega | exact Nat.le_refl _⟩, ⟨bq_ BK272⟩, ⟨be1_ HB GE272⟩⟩
  case rest =>
   clear HC5
   try clear c1
   try clear c2
   try clear c2b0
   try clear c2b1
   try clear c2b2
   try clear p2
   try clear c8
   try clear c8b0
   try clear c8b1
   try clear c9
   try clear c9b0
   try clear c9b1
   try clear c10
   try clear c10b0
   try clear c10b1
   try clear hcz4_0
   try clear hcz4_1
   try clear hcz4_2
   try clear hcz7_0
   try clear hcz7_1
   try clear hcz7_2
   try clear hfz4_0
   try clear hfz4_1
   try clear hfz4_2
   try clear hfz7_0
   try clear hfz7_1
   try clear hfz7_2
   obtain ⟨kq, x12_4, rfl, HA, HJ4, BK272, HB⟩ := hcut
   cases kq with
   | zero => exact absurd HA.out (by simp [pentaglotref39_Path.j0])
   | succ kj4 =>
    have H := HA.out
    clear HA
    simp only [pentaglotref39_Path.j0] at H
    by_cases c11 : x12_4 = true
    ·subst c11
     have H1 : (some ((([0] : List Int)), true)) = some (r1, r2) := by rw [if_pos rfl] at H; exact H
     clear H
     have H := H1
     clear H1
     obtain ⟨y273, hy273⟩ : ∃ y_ : List Int, y_ = (([0] : List Int)) := ⟨_, rfl⟩
     replace H : (some (y273, true)) = some (r1, r2) := by first | (rw [hy273]; with_reducible exact H) | (have H2_ := (Option.bind_some _ _).symm.trans H; rw [hy273]; with_reducible exact H2_) | (have H2_ := (Option.bind_some _ _).symm.trans H; with_reducible exact H2_) | with_reducible exact H | (rw [hy273]; exact H) | exact H
     have Ny273 := Aside0.mk hy273
     clear hy273
     simp only [Option.some.injEq, Prod.mk.injEq] at H
     obtain ⟨rfl, rfl⟩ := H
     go_wp2_with (first | ((with_reducible refine gate_dst (N := 17) rfl ?_); refine Kd.R_lit (Kd.int .i64) _ 3 ?hg (N := 17) ?hd (xs := ([0] : List Int)) (inner := [.int .i64 0]) (ok := fun _ => True) (okp := fun _ => True) ?hr ?hp (fun _ hk => hk) trivial (Below.refl _ _) (Nat.le_refl _) (by simp) ?_; (case hd => rfl); (case hg => rfl); (case hr => first | (go_simp; done) | (go_simp; rfl)); (case hp => exact (Reps.one (show Kd.M (Kd.int .i64) _ _ _ 0 [.int .i64 0] from rfl) (Reps.none _ _))); intro v274 w12 ho13 hb hg_ hnew_; clear hg_ hnew_; (first | rw [← Ny273.out] at ho13 | (simp only [Int.reduceToNat] at ho13; rw [← Ny273.out] at ho13)); have n0_ := Aside0.mk (Kd.R_lower ho13 (below_size (be1_ HB GE272))); have n1_ := Aside0.mk (blk_below (g := gb272) (o := .cells #[.string a0_0, .slice A0_1 l0_1.length c0_1, .slice A0_2 l0_2.length c0_2] 27 (0, 0)) (bq_ BK272) hb); have n2_ := Aside0.mk (below_step (be1_ HB GE272) hb); clear BK272; clear HB; have HO275 := n0_; have BK272 := n1_; have HB := n2_; clear n0_ n1_ n2_; clear hb ho13))
     go_ret2
     exact ⟨_, er_, by (with_reducible repeat (first | apply Kd.R_alloc | apply Kd.R_drewN | apply Kd.R_drew)); exact HO275.out, be1_ HB GE272⟩
    ·replace c11 := Bool.eq_false_iff.mpr c11
     subst c11
     have H1 : (if a0_0.toList = ([68, 117, 114, 105, 110, 103] : List UInt8) then (if 0 < (l0_2.length : Int) then ((pentaglotref39_Path.f kj4 ((rd_T27 l0_2 0).f0) ((rd_T27 l0_2 0).f1) ((rd_T27 l0_2 0).f2)).bind fun bt277 => ((some (([0] : List Int) : List Int)).bind fun y281 => (if y281.length + bt277.1.length < 17592186044416 then (some ((y281 ++ bt277.1), bt277.2)) else (none)))) else (none)) else (if a0_0.toList = ([83, 105, 110, 99, 101] : List UInt8) then (if 0 < (l0_2.length : Int) then ((pentaglotref39_Path.f kj4 ((rd_T27 l0_2 0).f0) ((rd_T27 l0_2 0).f1) ((rd_T27 l0_2 0).f2)).bind fun bt288 => ((some (([0] : List Int) : List Int)).bind fun y292 => (if y292.length + bt288.1.length < 17592186044416 then (some ((y292 ++ bt288.1), bt288.2)) else (none)))) else (none)) else (if a0_0.toList = ([85, 110, 116, 105, 108] : List UInt8) then (if 0 < (l0_2.length : Int) then ((pentaglotref39_Path.f kj4 ((rd_T27 l0_2 0).f0) ((rd_T27 l0_2 0).f1) ((rd_T27 l0_2 0).f2)).bind fun bt299 => ((some (([0] : List Int) : List Int)).bind fun y303 => (if y303.length + bt299.1.length < 17592186044416 then (some ((y303 ++ bt299.1), bt299.2)) else (none)))) else (none)) else (if a0_0.toList = ([80, 108, 101, 97, 115, 101] : List UInt8) then (if 0 < (l0_2.length : Int) then ((pentaglotref39_Path.f kj4 ((rd_T27 l0_2 0).f0) ((rd_T27 l0_2 0).f1) ((rd_T27 l0_2 0).f2)).bind fun bt310 => ((some (([0] : List Int) : List Int)).bind fun y314 => (if y314.length + bt310.1.length < 17592186044416 then (some ((y314 ++ bt310.1), bt310.2)) else (none)))) else (none)) else (if a0_0.toList = ([65, 108, 115, 111] : List UInt8) then (if 0 < (l0_2.length : Int) then ((pentaglotref39_Path.f kj4 ((rd_T27 l0_2 0).f0) ((rd_T27 l0_2 0).f1) ((rd_T27 l0_2 0).f2)).bind fun bt321 => ((some (([0] : List Int) : List Int)).bind fun y325 => (if y325.length + bt321.1.length < 17592186044416 then (some ((y325 ++ bt321.1), bt321.2)) else (none)))) else (none)) else (some (([] : List Int), false))))))) = some (r1, r2) := by rw [if_neg (show ¬ (false = true) by decide)] at H; exact H
     clear H
     have H := H1
     clear H1
     by_cases c14 : a0_0.toList = ([68, 117, 114, 105, 110, 103] : List UInt8)
     ·rw [if_pos c14] at H
      have c14b0 : (a0_0.toList == ([68, 117, 114, 105, 110, 103] : List UInt8)) = true := beq_iff_eq.mpr c14
      have c14b1 : (a0_0.toList != ([68, 117, 114, 105, 110, 103] : List UInt8)) = false := bne_eq_false_iff_eq.mpr c14
      clear c14
      by_cases c15 : 0 < (l0_2.length : Int)
      ·rw [if_pos c15] at H
       have c15b0 : decide (0 < (l0_2.length : Int)) = true := decide_eq_true c15
       have c15b1 : decide (0 < l0_2.length) = true := decide_eq_true (by omega)
       clear c15
       replace H := Option.bind_eq_some_iff.mp H
       obtain ⟨⟨t277, t280⟩, A160, H⟩ := H
       replace H : ((some (([0] : List Int) : List Int)).bind fun y281 => (if y281.length + t277.length < 17592186044416 then (some ((y281 ++ t277), t280)) else (none))) = some (r1, r2) := H
       have A16 := Aside0.mk A160
       clear A160
       obtain ⟨y281, hy281⟩ : ∃ y_ : List Int, y_ = (([0] : List Int)) := ⟨_, rfl⟩
       replace H : (if y281.length + t277.length < 17592186044416 then (some ((y281 ++ t277), t280)) else (none)) = some (r1, r2) := by first | (rw [hy281]; with_reducible exact H) | (have H2_ := (Option.bind_some _ _).symm.trans H; rw [hy281]; with_reducible exact H2_) | (have H2_ := (Option.bind_some _ _).symm.trans H; with_reducible exact H2_) | with_reducible exact H | (rw [hy281]; exact H) | exact H
       have Ny281 := Aside0.mk hy281
       clear hy281
       by_cases c17 : y281.length + t277.length < 17592186044416
       ·rw [if_pos c17] at H
        have LMc17 := Aside0.mk c17
        clear c17
        obtain ⟨y284, hy284⟩ : ∃ y_ : List Int, y_ = (y281 ++ t277) := ⟨_, rfl⟩
        replace H : (some (y284, t280)) = some (r1, r2) := by first | (rw [hy284]; with_reducible exact H) | (have H2_ := (Option.bind_some _ _).symm.trans H; rw [hy284]; with_reducible exact H2_) | (have H2_ := (Option.bind_some _ _).symm.trans H; with_reducible exact H2_) | with_reducible exact H | (rw [hy284]; exact H) | exact H
        have Ny284 := Aside0.mk hy284
        clear hy284
        simp only [Option.some.injEq, Prod.mk.injEq] at H
        obtain ⟨rfl, rfl⟩ := H
        have hcz18_0 : wc.cell? ⟨gb272, 0, none⟩ = some (.string a0_0) := (blk_cell BK272.out 0).trans rfl
        have hcz18_1 : wc.cell? ⟨gb272, 1, none⟩ = some (.slice A0_1 l0_1.length c0_1) := (blk_cell BK272.out 1).trans rfl
        have hcz18_2 : wc.cell? ⟨gb272, 2, none⟩ = some (.slice A0_2 l0_2.length c0_2) := (blk_cell BK272.out 2).trans rfl
        have hfz18_0 := blk_frozen BK272.out 0
        have hfz18_1 := blk_frozen BK272.out 1
        have hfz18_2 := blk_frozen BK272.out 2
        have p276 : 0 ≤ (0 : Int) := (by omega)
        have q276 : 0 < (l0_2.length : Int) := of_decide_eq_true (by first | (with_reducible assumption) | assumption)
        obtain ⟨ad276, A276_1, c276_1, A276_2, c276_2, e276, hx276_0, hx276_1, hx276_2, hl276_1, hi276_1, hl276_2, hi276_2⟩ := at_T27 HR0_2.out 0 p276 q276
        cases e276
        have qi276 : (0 < l0_2.length) = True := eq_true (by omega)
        (try rw [show ((0 : Int)).toNat = 0 from rfl] at hx276_0)
        (try rw [show 0 * 3 = 0 from rfl] at hx276_0)
        (try rw [Addr.add_zero'] at hx276_0)
        (try rw [show ((0 : Int)).toNat = 0 from rfl] at hx276_1)
        (try rw [show 0 * 3 = 0 from rfl] at hx276_1)
        (try rw [Addr.add_zero'] at hx276_1)
        (try rw [show ((0 : Int)).toNat = 0 from rfl] at hx276_2)
        (try rw [show 0 * 3 = 0 from rfl] at hx276_2)
        (try rw [Addr.add_zero'] at hx276_2)
        replace hx276_0 := (HB.out.cell (World.block_lt_of_cell? w _ hx276_0)).trans hx276_0
        replace hx276_1 := (HB.out.cell (World.block_lt_of_cell? w _ hx276_1)).trans hx276_1
        replace hx276_2 := (HB.out.cell (World.block_lt_of_cell? w _ hx276_2)).trans hx276_2
        have HR276_1 := Aside0.mk hi276_1
        have HC276_1 := Aside0.mk hl276_1
        clear hi276_1 hl276_1
        have HR276_2 := Aside0.mk hi276_2
        have HC276_2 := Aside0.mk hl276_2
        clear hi276_2 hl276_2
        replace p276 := eq_true p276
        replace q276 := eq_true q276
        go_wp2_with (first | ((with_reducible refine gate_callee (f := 28) rfl ?_); refine goesL_ (some 29) rfl rfl Try.func28 (by kernel_rfl) rfl #[.agg #[.string ((rd_T27 l0_2 0).f0), .slice A276_1 ((rd_T27 l0_2 0).f1).length c276_1, .slice A276_2 ((rd_T27 l0_2 0).f2).length c276_2]] rfl (by (try simp only [List.map_toArray, List.map_cons, List.map_nil]); first | done | rfl | (simp only [List.length_drop, List.length_take]; rfl)) ?_; (with_reducible refine (ih kj4 (by have := HJ4.out; omega) ((rd_T27 l0_2 0).f0) _ _ ((rd_T27 l0_2 0).f1) _ _ ((rd_T27 l0_2 0).f2) t277 t280 _ ?side1 ?side2 ?side3 ?side4 A16.out).mono ?_); (case side1 => exact cs_ (Kd.C_below HR276_1.out HB.out)); (case side2 => exact HC276_1.out); (case side3 => exact cs_ (Kd.C_below HR276_2.out HB.out)); (case side4 => exact HC276_2.out); rintro e w19 ⟨v278, rfl, ho0, hb⟩; refine ⟨_, rfl, ?_⟩; have n0_ := Aside0.mk (Kd.R_lower ho0 (below_size (be1_ HB GE272))); have n1_ := Aside0.mk (blk_below (g := gb272) (o := .cells #[.string a0_0, .slice A0_1 l0_1.length c0_1, .slice (some ad276) l0_2.length c0_2] 27 (0, 0)) (bq_ BK272) hb); have n2_ := Aside0.mk (below_step (be1_ HB GE272) hb); clear BK272; clear HB; have HO279 := n0_; have BK272 := n1_; have HB := n2_; clear n0_ n1_ n2_; (try clear hb); (try clear hb2); (try clear hk); (try clear hi); (try clear ho0)) | ((with_reducible refine gate_dst (N := 32) rfl ?_); refine Kd.R_lit (Kd.int .i64) _ 3 ?hg (N := 32) ?hd (xs := ([0] : List Int)) (inner := [.int .i64 0]) (ok := fun _ => True) (okp := fun _ => True) ?hr ?hp (fun _ hk => hk) trivial (Below.refl _ _) (Nat.le_refl _) (by simp) ?_; (case hd => rfl); (case hg => rfl); (case hr => first | (go_simp; done) | (go_simp; rfl)); (case hp => exact (Reps.one (show Kd.M (Kd.int .i64) _ _ _ 0 [.int .i64 0] from rfl) (Reps.none _ _))); intro v282 w20 ho21 hb hg_ hnew_; clear hg_ hnew_; (first | rw [← Ny281.out] at ho21 | (simp only [Int.reduceToNat] at ho21; rw [← Ny281.out] at ho21)); have n0_ := Aside0.mk (Kd.R_elder' (rq_ HO279) (Kd.R_base ho21) hb); have n1_ := Aside0.mk (Kd.R_lower (Kd.R_new' ho21 (Kd.R_lt (rq_ HO279))) (below_size (be1_ HB GE272))); have n2_ := Aside0.mk (blk_below (g := gb272) (o := .cells #[.string a0_0, .slice A0_1 l0_1.length c0_1, .slice (some ad276) l0_2.length c0_2] 27 (0, 0)) (bq_ BK272) hb); have n3_ := Aside0.mk (below_step (be1_ HB GE272) hb); clear HO279; clear BK272; clear HB; have HO279 := n0_; have HO283 := n1_; have BK272 := n2_; have HB := n3_; clear n0_ n1_ n2_ n3_; clear hb ho21; obtain ⟨Ao23, co23, eo23⟩ := Kd.R_slice HO279.out; subst eo23) | ((with_reducible refine gate_builtin (b := .append) (xs := #[.tmp 32, .tmp 33]) rfl ?_); at_builtin; refine Kd.R_append_rows (Kd.int .i64) (w0 := w) w.heap.size rfl (.tmp 32) (.tmp 33) 25 3 (.int .i64 0) 8 rfl Try.underlying25 info3 rfl (by decide) (by omega) v282 y281 t277 _ _ _ (fun k_ => some k_ ≠ (.slice Ao23 t277.length co23 : Value).ownBlock) (fun _ => False) rfl rfl ?aO ?aR (fun _ _ h => h) (fun _ h => h.elim) ?aF ?aB ?aS ?aL ?_; (case aR => repeat (first | exact (Kd.R_reads' HO279.out).2.2 | (with_reducible refine Kd.C_alloc ?_ _) | (with_reducible refine Kd.C_drewN ?_ _) | (with_reducible refine Kd.C_drew ?_))); (case aB => exact (be1_ HB GE272)); (case aF => exact (fun k_ hk => Kd.fresh' (Kd.R_lt (rq_ HO279)) k_ hk)); (case aO => exact (by (with_reducible repeat (first | apply Kd.R_alloc | apply Kd.R_drewN | apply Kd.R_drew)); exact Kd.R_mono HO283.out (fun _ hk => hk.2))); (case aS => exact (below_size (be1_ HB GE272))); (case aL => have := LMc17.out; omega); intro v285 w22 ho hb hg hat; rw [← Ny284.out] at ho; have n0_ := Aside0.mk (blk_grown (g := gb272) (o := .cells #[.string a0_0, .slice A0_1 l0_1.length c0_1, .slice (some ad276) l0_2.length c0_2] 27 (0, 0)) (bq_ BK272) hg (Kd.R_ne HO283.out BK272.out (by decide))); have n1_ := Aside0.mk (Kd.R_after (ok := (fun _ => True)) (rq_ HO279) hg hat); have n2_ := Aside0.mk (hb); have n3_ := Aside0.mk (ho); clear BK272; clear HO279; clear HB; clear HO283; have BK272 := n0_; have HO279 := n1_; have HB := n2_; have HO286 := n3_; clear n0_ n1_ n2_ n3_; clear ho hb hg hat))
        go_ret2
        exact ⟨_, er_, by (with_reducible repeat (first | apply Kd.R_alloc | apply Kd.R_drewN | apply Kd.R_drew)); exact Kd.R_mono HO286.out (fun _ hk => trivial), be1_ HB GE272⟩
       ·rw [if_neg c17] at H
        exact absurd H (by simp)
      ·rw [if_neg c15] at H
       exact absurd H (by simp)
     ·rw [if_neg c14] at H
      have c14b0 : (a0_0.toList == ([68, 117, 114, 105, 110, 103] : List UInt8)) = false := beq_eq_false_iff_ne.mpr c14
      have c14b1 : (a0_0.toList != ([68, 117, 114, 105, 110, 103] : List UInt8)) = true := bne_iff_ne.mpr c14
      by_cases c24 : a0_0.toList = ([83, 105, 110, 99, 101] : List UInt8)
      ·rw [if_pos c24] at H
       have c24b0 : (a0_0.toList == ([83, 105, 110, 99, 101] : List UInt8)) = true := beq_iff_eq.mpr c24
       have c24b1 : (a0_0.toList != ([83, 105, 110, 99, 101] : List UInt8)) = false := bne_eq_false_iff_eq.mpr c24
       clear c24
       by_cases c25 : 0 < (l0_2.length : Int)
       ·rw [if_pos c25] at H
        have c25b0 : decide (0 < (l0_2.length : Int)) = true := decide_eq_true c25
        have c25b1 : decide (0 < l0_2.length) = true := decide_eq_true (by omega)
        clear c25
        replace H := Option.bind_eq_some_iff.mp H
        obtain ⟨⟨t288, t291⟩, A260, H⟩ := H
        replace H : ((some (([0] : List Int) : List Int)).bind fun y292 => (if y292.length + t288.length < 17592186044416 then (some ((y292 ++ t288), t291)) else (none))) = some (r1, r2) := H
        have A26 := Aside0.mk A260
        clear A260
        obtain ⟨y292, hy292⟩ : ∃ y_ : List Int, y_ = (([0] : List Int)) := ⟨_, rfl⟩
        replace H : (if y292.length + t288.length < 17592186044416 then (some ((y292 ++ t288), t291)) else (none)) = some (r1, r2) := by first | (rw [hy292]; with_reducible exact H) | (have H2_ := (Option.bind_some _ _).symm.trans H; rw [hy292]; with_reducible exact H2_) | (have H2_ := (Option.bind_some _ _).symm.trans H; with_reducible exact H2_) | with_reducible exact H | (rw [hy292]; exact H) | exact H
        have Ny292 := Aside0.mk hy292
        clear hy292
        by_cases c27 : y292.length + t288.length < 17592186044416
        ·rw [if_pos c27] at H
         have LMc27 := Aside0.mk c27
         clear c27
         obtain ⟨y295, hy295⟩ : ∃ y_ : List Int, y_ = (y292 ++ t288) := ⟨_, rfl⟩
         replace H : (some (y295, t291)) = some (r1, r2) := by first | (rw [hy295]; with_reducible exact H) | (have H2_ := (Option.bind_some _ _).symm.trans H; rw [hy295]; with_reducible exact H2_) | (have H2_ := (Option.bind_some _ _).symm.trans H; with_reducible exact H2_) | with_reducible exact H | (rw [hy295]; exact H) | exact H
         have Ny295 := Aside0.mk hy295
         clear hy295
         simp only [Option.some.injEq, Prod.mk.injEq] at H
         obtain ⟨rfl, rfl⟩ := H
         have hcz28_0 : wc.cell? ⟨gb272, 0, none⟩ = some (.string a0_0) := (blk_cell BK272.out 0).trans rfl
         have hcz28_1 : wc.cell? ⟨gb272, 1, none⟩ = some (.slice A0_1 l0_1.length c0_1) := (blk_cell BK272.out 1).trans rfl
         have hcz28_2 : wc.cell? ⟨gb272, 2, none⟩ = some (.slice A0_2 l0_2.length c0_2) := (blk_cell BK272.out 2).trans rfl
         have hfz28_0 := blk_frozen BK272.out 0
         have hfz28_1 := blk_frozen BK272.out 1
         have hfz28_2 := blk_frozen BK272.out 2
         have p287 : 0 ≤ (0 : Int) := (by omega)
         have q287 : 0 < (l0_2.length : Int) := of_decide_eq_true (by first | (with_reducible assumption) | assumption)
         obtain ⟨ad287, A287_1, c287_1, A287_2, c287_2, e287, hx287_0, hx287_1, hx287_2, hl287_1, hi287_1, hl287_2, hi287_2⟩ := at_T27 HR0_2.out 0 p287 q287
         cases e287
         have qi287 : (0 < l0_2.length) = True := eq_true (by omega)
         (try rw [show ((0 : Int)).toNat = 0 from rfl] at hx287_0)
         (try rw [show 0 * 3 = 0 from rfl] at hx287_0)
         (try rw [Addr.add_zero'] at hx287_0)
         (try rw [show ((0 : Int)).toNat = 0 from rfl] at hx287_1)
         (try rw [show 0 * 3 = 0 from rfl] at hx287_1)
         (try rw [Addr.add_zero'] at hx287_1)
         (try rw [show ((0 : Int)).toNat = 0 from rfl] at hx287_2)
         (try rw [show 0 * 3 = 0 from rfl] at hx287_2)
         (try rw [Addr.add_zero'] at hx287_2)
         replace hx287_0 := (HB.out.cell (World.block_lt_of_cell? w _ hx287_0)).trans hx287_0
         replace hx287_1 := (HB.out.cell (World.block_lt_of_cell? w _ hx287_1)).trans hx287_1
         replace hx287_2 := (HB.out.cell (World.block_lt_of_cell? w _ hx287_2)).trans hx287_2
         have HR287_1 := Aside0.mk hi287_1
         have HC287_1 := Aside0.mk hl287_1
         clear hi287_1 hl287_1
         have HR287_2 := Aside0.mk hi287_2
         have HC287_2 := Aside0.mk hl287_2
         clear hi287_2 hl287_2
         replace p287 := eq_true p287
         replace q287 := eq_true q287
         go_wp2_with (first | ((with_reducible refine gate_callee (f := 28) rfl ?_); refine goesL_ (some 29) rfl rfl Try.func28 (by kernel_rfl) rfl #[.agg #[.string ((rd_T27 l0_2 0).f0), .slice A287_1 ((rd_T27 l0_2 0).f1).length c287_1, .slice A287_2 ((rd_T27 l0_2 0).f2).length c287_2]] rfl (by (try simp only [List.map_toArray, List.map_cons, List.map_nil]); first | done | rfl | (simp only [List.length_drop, List.length_take]; rfl)) ?_; (with_reducible refine (ih kj4 (by have := HJ4.out; omega) ((rd_T27 l0_2 0).f0) _ _ ((rd_T27 l0_2 0).f1) _ _ ((rd_T27 l0_2 0).f2) t288 t291 _ ?side1 ?side2 ?side3 ?side4 A26.out).mono ?_); (case side1 => exact cs_ (Kd.C_below HR287_1.out HB.out)); (case side2 => exact HC287_1.out); (case side3 => exact cs_ (Kd.C_below HR287_2.out HB.out)); (case side4 => exact HC287_2.out); rintro e w29 ⟨v289, rfl, ho0, hb⟩; refine ⟨_, rfl, ?_⟩; have n0_ := Aside0.mk (Kd.R_lower ho0 (below_size (be1_ HB GE272))); have n1_ := Aside0.mk (blk_below (g := gb272) (o := .cells #[.string a0_0, .slice A0_1 l0_1.length c0_1, .slice (some ad287) l0_2.length c0_2] 27 (0, 0)) (bq_ BK272) hb); have n2_ := Aside0.mk (below_step (be1_ HB GE272) hb); clear BK272; clear HB; have HO290 := n0_; have BK272 := n1_; have HB := n2_; clear n0_ n1_ n2_; (try clear hb); (try clear hb2); (try clear hk); (try clear hi); (try clear ho0)) | ((with_reducible refine gate_dst (N := 32) rfl ?_); refine Kd.R_lit (Kd.int .i64) _ 3 ?hg (N := 32) ?hd (xs := ([0] : List Int)) (inner := [.int .i64 0]) (ok := fun _ => True) (okp := fun _ => True) ?hr ?hp (fun _ hk => hk) trivial (Below.refl _ _) (Nat.le_refl _) (by simp) ?_; (case hd => rfl); (case hg => rfl); (case hr => first | (go_simp; done) | (go_simp; rfl)); (case hp => exact (Reps.one (show Kd.M (Kd.int .i64) _ _ _ 0 [.int .i64 0] from rfl) (Reps.none _ _))); intro v293 w30 ho31 hb hg_ hnew_; clear hg_ hnew_; (first | rw [← Ny292.out] at ho31 | (simp only [Int.reduceToNat] at ho31; rw [← Ny292.out] at ho31)); have n0_ := Aside0.mk (Kd.R_elder' (rq_ HO290) (Kd.R_base ho31) hb); have n1_ := Aside0.mk (Kd.R_lower (Kd.R_new' ho31 (Kd.R_lt (rq_ HO290))) (below_size (be1_ HB GE272))); have n2_ := Aside0.mk (blk_below (g := gb272) (o := .cells #[.string a0_0, .slice A0_1 l0_1.length c0_1, .slice (some ad287) l0_2.length c0_2] 27 (0, 0)) (bq_ BK272) hb); have n3_ := Aside0.mk (below_step (be1_ HB GE272) hb); clear HO290; clear BK272; clear HB; have HO290 := n0_; have HO294 := n1_; have BK272 := n2_; have HB := n3_; clear n0_ n1_ n2_ n3_; clear hb ho31; obtain ⟨Ao33, co33, eo33⟩ := Kd.R_slice HO290.out; subst eo33) | ((with_reducible refine gate_builtin (b := .append) (xs := #[.tmp 32, .tmp 33]) rfl ?_); at_builtin; refine Kd.R_append_rows (Kd.int .i64) (w0 := w) w.heap.size rfl (.tmp 32) (.tmp 33) 25 3 (.int .i64 0) 8 rfl Try.underlying25 info3 rfl (by decide) (by omega) v293 y292 t288 _ _ _ (fun k_ => some k_ ≠ (.slice Ao33 t288.length co33 : Value).ownBlock) (fun _ => False) rfl rfl ?aO ?aR (fun _ _ h => h) (fun _ h => h.elim) ?aF ?aB ?aS ?aL ?_; (case aR => repeat (first | exact (Kd.R_reads' HO290.out).2.2 | (with_reducible refine Kd.C_alloc ?_ _) | (with_reducible refine Kd.C_drewN ?_ _) | (with_reducible refine Kd.C_drew ?_))); (case aB => exact (be1_ HB GE272)); (case aF => exact (fun k_ hk => Kd.fresh' (Kd.R_lt (rq_ HO290)) k_ hk)); (case aO => exact (by (with_reducible repeat (first | apply Kd.R_alloc | apply Kd.R_drewN | apply Kd.R_drew)); exact Kd.R_mono HO294.out (fun _ hk => hk.2))); (case aS => exact (below_size (be1_ HB GE272))); (case aL => have := LMc27.out; omega); intro v296 w32 ho hb hg hat; rw [← Ny295.out] at ho; have n0_ := Aside0.mk (blk_grown (g := gb272) (o := .cells #[.string a0_0, .slice A0_1 l0_1.length c0_1, .slice (some ad287) l0_2.length c0_2] 27 (0, 0)) (bq_ BK272) hg (Kd.R_ne HO294.out BK272.out (by decide))); have n1_ := Aside0.mk (Kd.R_after (ok := (fun _ => True)) (rq_ HO290) hg hat); have n2_ := Aside0.mk (hb); have n3_ := Aside0.mk (ho); clear BK272; clear HO290; clear HB; clear HO294; have BK272 := n0_; have HO290 := n1_; have HB := n2_; have HO297 := n3_; clear n0_ n1_ n2_ n3_; clear ho hb hg hat))
         go_ret2
         exact ⟨_, er_, by (with_reducible repeat (first | apply Kd.R_alloc | apply Kd.R_drewN | apply Kd.R_drew)); exact Kd.R_mono HO297.out (fun _ hk => trivial), be1_ HB GE272⟩
        ·rw [if_neg c27] at H
         exact absurd H (by simp)
       ·rw [if_neg c25] at H
        exact absurd H (by simp)
      ·rw [if_neg c24] at H
       have c24b0 : (a0_0.toList == ([83, 105, 110, 99, 101] : List UInt8)) = false := beq_eq_false_iff_ne.mpr c24
       have c24b1 : (a0_0.toList != ([83, 105, 110, 99, 101] : List UInt8)) = true := bne_iff_ne.mpr c24
       by_cases c34 : a0_0.toList = ([85, 110, 116, 105, 108] : List UInt8)
       ·rw [if_pos c34] at H
        have c34b0 : (a0_0.toList == ([85, 110, 116, 105, 108] : List UInt8)) = true := beq_iff_eq.mpr c34
        have c34b1 : (a0_0.toList != ([85, 110, 116, 105, 108] : List UInt8)) = false := bne_eq_false_iff_eq.mpr c34
        clear c34
        by_cases c35 : 0 < (l0_2.length : Int)
        ·rw [if_pos c35] at H
         have c35b0 : decide (0 < (l0_2.length : Int)) = true := decide_eq_true c35
         have c35b1 : decide (0 < l0_2.length) = true := decide_eq_true (by omega)
         clear c35
         replace H := Option.bind_eq_some_iff.mp H
         obtain ⟨⟨t299, t302⟩, A360, H⟩ := H
         replace H : ((some (([0] : List Int) : List Int)).bind fun y303 => (if y303.length + t299.length < 17592186044416 then (some ((y303 ++ t299), t302)) else (none))) = some (r1, r2) := H
         have A36 := Aside0.mk A360
         clear A360
         obtain ⟨y303, hy303⟩ : ∃ y_ : List Int, y_ = (([0] : List Int)) := ⟨_, rfl⟩
         replace H : (if y303.length + t299.length < 17592186044416 then (some ((y303 ++ t299), t302)) else (none)) = some (r1, r2) := by first | (rw [hy303]; with_reducible exact H) | (have H2_ := (Option.bind_some _ _).symm.trans H; rw [hy303]; with_reducible exact H2_) | (have H2_ := (Option.bind_some _ _).symm.trans H; with_reducible exact H2_) | with_reducible exact H | (rw [hy303]; exact H) | exact H
         have Ny303 := Aside0.mk hy303
         clear hy303
         by_cases c37 : y303.length + t299.length < 17592186044416
         ·rw [if_pos c37] at H
          have LMc37 := Aside0.mk c37
          clear c37
          obtain ⟨y306, hy306⟩ : ∃ y_ : List Int, y_ = (y303 ++ t299) := ⟨_, rfl⟩
          replace H : (some (y306, t302)) = some (r1, r2) := by first | (rw [hy306]; with_reducible exact H) | (have H2_ := (Option.bind_some _ _).symm.trans H; rw [hy306]; with_reducible exact H2_) | (have H2_ := (Option.bind_some _ _).symm.trans H; with_reducible exact H2_) | with_reducible exact H | (rw [hy306]; exact H) | exact H
          have Ny306 := Aside0.mk hy306
          clear hy306
          simp only [Option.some.injEq, Prod.mk.injEq] at H
          obtain ⟨rfl, rfl⟩ := H
          have hcz38_0 : wc.cell? ⟨gb272, 0, none⟩ = some (.string a0_0) := (blk_cell BK272.out 0).trans rfl
          have hcz38_1 : wc.cell? ⟨gb272, 1, none⟩ = some (.slice A0_1 l0_1.length c0_1) := (blk_cell BK272.out 1).trans rfl
          have hcz38_2 : wc.cell? ⟨gb272, 2, none⟩ = some (.slice A0_2 l0_2.length c0_2) := (blk_cell BK272.out 2).trans rfl
          have hfz38_0 := blk_frozen BK272.out 0
          have hfz38_1 := blk_frozen BK272.out 1
          have hfz38_2 := blk_frozen BK272.out 2
          have p298 : 0 ≤ (0 : Int) := (by omega)
          have q298 : 0 < (l0_2.length : Int) := of_decide_eq_true (by first | (with_reducible assumption) | assumption)
          obtain ⟨ad298, A298_1, c298_1, A298_2, c298_2, e298, hx298_0, hx298_1, hx298_2, hl298_1, hi298_1, hl298_2, hi298_2⟩ := at_T27 HR0_2.out 0 p298 q298
          cases e298
          have qi298 : (0 < l0_2.length) = True := eq_true (by omega)
          (try rw [show ((0 : Int)).toNat = 0 from rfl] at hx298_0)
          (try rw [show 0 * 3 = 0 from rfl] at hx298_0)
          (try rw [Addr.add_zero'] at hx298_0)
          (try rw [show ((0 : Int)).toNat = 0 from rfl] at hx298_1)
          (try rw [show 0 * 3 = 0 from rfl] at hx298_1)
          (try rw [Addr.add_zero'] at hx298_1)
          (try rw [show ((0 : Int)).toNat = 0 from rfl] at hx298_2)
          (try rw [show 0 * 3 = 0 from rfl] at hx298_2)
          (try rw [Addr.add_zero'] at hx298_2)
          replace hx298_0 := (HB.out.cell (World.block_lt_of_cell? w _ hx298_0)).trans hx298_0
          replace hx298_1 := (HB.out.cell (World.block_lt_of_cell? w _ hx298_1)).trans hx298_1
          replace hx298_2 := (HB.out.cell (World.block_lt_of_cell? w _ hx298_2)).trans hx298_2
          have HR298_1 := Aside0.mk hi298_1
          have HC298_1 := Aside0.mk hl298_1
          clear hi298_1 hl298_1
          have HR298_2 := Aside0.mk hi298_2
          have HC298_2 := Aside0.mk hl298_2
          clear hi298_2 hl298_2
          replace p298 := eq_true p298
          replace q298 := eq_true q298
          go_wp2_with (first | ((with_reducible refine gate_callee (f := 28) rfl ?_); refine goesL_ (some 29) rfl rfl Try.func28 (by kernel_rfl) rfl #[.agg #[.string ((rd_T27 l0_2 0).f0), .slice A298_1 ((rd_T27 l0_2 0).f1).length c298_1, .slice A298_2 ((rd_T27 l0_2 0).f2).length c298_2]] rfl (by (try simp only [List.map_toArray, List.map_cons, List.map_nil]); first | done | rfl | (simp only [List.length_drop, List.length_take]; rfl)) ?_; (with_reducible refine (ih kj4 (by have := HJ4.out; omega) ((rd_T27 l0_2 0).f0) _ _ ((rd_T27 l0_2 0).f1) _ _ ((rd_T27 l0_2 0).f2) t299 t302 _ ?side1 ?side2 ?side3 ?side4 A36.out).mono ?_); (case side1 => exact cs_ (Kd.C_below HR298_1.out HB.out)); (case side2 => exact HC298_1.out); (case side3 => exact cs_ (Kd.C_below HR298_2.out HB.out)); (case side4 => exact HC298_2.out); rintro e w39 ⟨v300, rfl, ho0, hb⟩; refine ⟨_, rfl, ?_⟩; have n0_ := Aside0.mk (Kd.R_lower ho0 (below_size (be1_ HB GE272))); have n1_ := Aside0.mk (blk_below (g := gb272) (o := .cells #[.string a0_0, .slice A0_1 l0_1.length c0_1, .slice (some ad298) l0_2.length c0_2] 27 (0, 0)) (bq_ BK272) hb); have n2_ := Aside0.mk (below_step (be1_ HB GE272) hb); clear BK272; clear HB; have HO301 := n0_; have BK272 := n1_; have HB := n2_; clear n0_ n1_ n2_; (try clear hb); (try clear hb2); (try clear hk); (try clear hi); (try clear ho0)) | ((with_reducible refine gate_dst (N := 32) rfl ?_); refine Kd.R_lit (Kd.int .i64) _ 3 ?hg (N := 32) ?hd (xs := ([0] : List Int)) (inner := [.int .i64 0]) (ok := fun _ => True) (okp := fun _ => True) ?hr ?hp (fun _ hk => hk) trivial (Below.refl _ _) (Nat.le_refl _) (by simp) ?_; (case hd => rfl); (case hg => rfl); (case hr => first | (go_simp; done) | (go_simp; rfl)); (case hp => exact (Reps.one (show Kd.M (Kd.int .i64) _ _ _ 0 [.int .i64 0] from rfl) (Reps.none _ _))); intro v304 w40 ho41 hb hg_ hnew_; clear hg_ hnew_; (first | rw [← Ny303.out] at ho41 | (simp only [Int.reduceToNat] at ho41; rw [← Ny303.out] at ho41)); have n0_ := Aside0.mk (Kd.R_elder' (rq_ HO301) (Kd.R_base ho41) hb); have n1_ := Aside0.mk (Kd.R_lower (Kd.R_new' ho41 (Kd.R_lt (rq_ HO301))) (below_size (be1_ HB GE272))); have n2_ := Aside0.mk (blk_below (g := gb272) (o := .cells #[.string a0_0, .slice A0_1 l0_1.length c0_1, .slice (some ad298) l0_2.length c0_2] 27 (0, 0)) (bq_ BK272) hb); have n3_ := Aside0.mk (below_step (be1_ HB GE272) hb); clear HO301; clear BK272; clear HB; have HO301 := n0_; have HO305 := n1_; have BK272 := n2_; have HB := n3_; clear n0_ n1_ n2_ n3_; clear hb ho41; obtain ⟨Ao43, co43, eo43⟩ := Kd.R_slice HO301.out; subst eo43) | ((with_reducible refine gate_builtin (b := .append) (xs := #[.tmp 32, .tmp 33]) rfl ?_); at_builtin; refine Kd.R_append_rows (Kd.int .i64) (w0 := w) w.heap.size rfl (.tmp 32) (.tmp 33) 25 3 (.int .i64 0) 8 rfl Try.underlying25 info3 rfl (by decide) (by omega) v304 y303 t299 _ _ _ (fun k_ => some k_ ≠ (.slice Ao43 t299.length co43 : Value).ownBlock) (fun _ => False) rfl rfl ?aO ?aR (fun _ _ h => h) (fun _ h => h.elim) ?aF ?aB ?aS ?aL ?_; (case aR => repeat (first | exact (Kd.R_reads' HO301.out).2.2 | (with_reducible refine Kd.C_alloc ?_ _) | (with_reducible refine Kd.C_drewN ?_ _) | (with_reducible refine Kd.C_drew ?_))); (case aB => exact (be1_ HB GE272)); (case aF => exact (fun k_ hk => Kd.fresh' (Kd.R_lt (rq_ HO301)) k_ hk)); (case aO => exact (by (with_reducible repeat (first | apply Kd.R_alloc | apply Kd.R_drewN | apply Kd.R_drew)); exact Kd.R_mono HO305.out (fun _ hk => hk.2))); (case aS => exact (below_size (be1_ HB GE272))); (case aL => have := LMc37.out; omega); intro v307 w42 ho hb hg hat; rw [← Ny306.out] at ho; have n0_ := Aside0.mk (blk_grown (g := gb272) (o := .cells #[.string a0_0, .slice A0_1 l0_1.length c0_1, .slice (some ad298) l0_2.length c0_2] 27 (0, 0)) (bq_ BK272) hg (Kd.R_ne HO305.out BK272.out (by decide))); have n1_ := Aside0.mk (Kd.R_after (ok := (fun _ => True)) (rq_ HO301) hg hat); have n2_ := Aside0.mk (hb); have n3_ := Aside0.mk (ho); clear BK272; clear HO301; clear HB; clear HO305; have BK272 := n0_; have HO301 := n1_; have HB := n2_; have HO308 := n3_; clear n0_ n1_ n2_ n3_; clear ho hb hg hat))
          go_ret2
          exact ⟨_, er_, by (with_reducible repeat (first | apply Kd.R_alloc | apply Kd.R_drewN | apply Kd.R_drew)); exact Kd.R_mono HO308.out (fun _ hk => trivial), be1_ HB GE272⟩
         ·rw [if_neg c37] at H
          exact absurd H (by simp)
        ·rw [if_neg c35] at H
         exact absurd H (by simp)
       ·rw [if_neg c34] at H
        have c34b0 : (a0_0.toList == ([85, 110, 116, 105, 108] : List UInt8)) = false := beq_eq_false_iff_ne.mpr c34
        have c34b1 : (a0_0.toList != ([85, 110, 116, 105, 108] : List UInt8)) = true := bne_iff_ne.mpr c34
        by_cases c44 : a0_0.toList = ([80, 108, 101, 97, 115, 101] : List UInt8)
        ·rw [if_pos c44] at H
         have c44b0 : (a0_0.toList == ([80, 108, 101, 97, 115, 101] : List UInt8)) = true := beq_iff_eq.mpr c44
         have c44b1 : (a0_0.toList != ([80, 108, 101, 97, 115, 101] : List UInt8)) = false := bne_eq_false_iff_eq.mpr c44
         clear c44
         by_cases c45 : 0 < (l0_2.length : Int)
         ·rw [if_pos c45] at H
          have c45b0 : decide (0 < (l0_2.length : Int)) = true := decide_eq_true c45
          have c45b1 : decide (0 < l0_2.length) = true := decide_eq_true (by omega)
          clear c45
          replace H := Option.bind_eq_some_iff.mp H
          obtain ⟨⟨t310, t313⟩, A460, H⟩ := H
          replace H : ((some (([0] : List Int) : List Int)).bind fun y314 => (if y314.length + t310.length < 17592186044416 then (some ((y314 ++ t310), t313)) else (none))) = some (r1, r2) := H
          have A46 := Aside0.mk A460
          clear A460
          obtain ⟨y314, hy314⟩ : ∃ y_ : List Int, y_ = (([0] : List Int)) := ⟨_, rfl⟩
          replace H : (if y314.length + t310.length < 17592186044416 then (some ((y314 ++ t310), t313)) else (none)) = some (r1, r2) := by first | (rw [hy314]; with_reducible exact H) | (have H2_ := (Option.bind_some _ _).symm.trans H; rw [hy314]; with_reducible exact H2_) | (have H2_ := (Option.bind_some _ _).symm.trans H; with_reducible exact H2_) | with_reducible exact H | (rw [hy314]; exact H) | exact H
          have Ny314 := Aside0.mk hy314
          clear hy314
          by_cases c47 : y314.length + t310.length < 17592186044416
          ·rw [if_pos c47] at H
           have LMc47 := Aside0.mk c47
           clear c47
           obtain ⟨y317, hy317⟩ : ∃ y_ : List Int, y_ = (y314 ++ t310) := ⟨_, rfl⟩
           replace H : (some (y317, t313)) = some (r1, r2) := by first | (rw [hy317]; with_reducible exact H) | (have H2_ := (Option.bind_some _ _).symm.trans H; rw [hy317]; with_reducible exact H2_) | (have H2_ := (Option.bind_some _ _).symm.trans H; with_reducible exact H2_) | with_reducible exact H | (rw [hy317]; exact H) | exact H
           have Ny317 := Aside0.mk hy317
           clear hy317
           simp only [Option.some.injEq, Prod.mk.injEq] at H
           obtain ⟨rfl, rfl⟩ := H
           have hcz48_0 : wc.cell? ⟨gb272, 0, none⟩ = some (.string a0_0) := (blk_cell BK272.out 0).trans rfl
           have hcz48_1 : wc.cell? ⟨gb272, 1, none⟩ = some (.slice A0_1 l0_1.length c0_1) := (blk_cell BK272.out 1).trans rfl
           have hcz48_2 : wc.cell? ⟨gb272, 2, none⟩ = some (.slice A0_2 l0_2.length c0_2) := (blk_cell BK272.out 2).trans rfl
           have hfz48_0 := blk_frozen BK272.out 0
           have hfz48_1 := blk_frozen BK272.out 1
           have hfz48_2 := blk_frozen BK272.out 2
           have p309 : 0 ≤ (0 : Int) := (by omega)
           have q309 : 0 < (l0_2.length : Int) := of_decide_eq_true (by first | (with_reducible assumption) | assumption)
           obtain ⟨ad309, A309_1, c309_1, A309_2, c309_2, e309, hx309_0, hx309_1, hx309_2, hl309_1, hi309_1, hl309_2, hi309_2⟩ := at_T27 HR0_2.out 0 p309 q309
           cases e309
           have qi309 : (0 < l0_2.length) = True := eq_true (by omega)
           (try rw [show ((0 : Int)).toNat = 0 from rfl] at hx309_0)
           (try rw [show 0 * 3 = 0 from rfl] at hx309_0)
           (try rw [Addr.add_zero'] at hx309_0)
           (try rw [show ((0 : Int)).toNat = 0 from rfl] at hx309_1)
           (try rw [show 0 * 3 = 0 from rfl] at hx309_1)
           (try rw [Addr.add_zero'] at hx309_1)
           (try rw [show ((0 : Int)).toNat = 0 from rfl] at hx309_2)
           (try rw [show 0 * 3 = 0 from rfl] at hx309_2)
           (try rw [Addr.add_zero'] at hx309_2)
           replace hx309_0 := (HB.out.cell (World.block_lt_of_cell? w _ hx309_0)).trans hx309_0
           replace hx309_1 := (HB.out.cell (World.block_lt_of_cell? w _ hx309_1)).trans hx309_1
           replace hx309_2 := (HB.out.cell (World.block_lt_of_cell? w _ hx309_2)).trans hx309_2
           have HR309_1 := Aside0.mk hi309_1
           have HC309_1 := Aside0.mk hl309_1
           clear hi309_1 hl309_1
           have HR309_2 := Aside0.mk hi309_2
           have HC309_2 := Aside0.mk hl309_2
           clear hi309_2 hl309_2
           replace p309 := eq_true p309
           replace q309 := eq_true q309
           go_wp2_with (first | ((with_reducible refine gate_callee (f := 28) rfl ?_); refine goesL_ (some 29) rfl rfl Try.func28 (by kernel_rfl) rfl #[.agg #[.string ((rd_T27 l0_2 0).f0), .slice A309_1 ((rd_T27 l0_2 0).f1).length c309_1, .slice A309_2 ((rd_T27 l0_2 0).f2).length c309_2]] rfl (by (try simp only [List.map_toArray, List.map_cons, List.map_nil]); first | done | rfl | (simp only [List.length_drop, List.length_take]; rfl)) ?_; (with_reducible refine (ih kj4 (by have := HJ4.out; omega) ((rd_T27 l0_2 0).f0) _ _ ((rd_T27 l0_2 0).f1) _ _ ((rd_T27 l0_2 0).f2) t310 t313 _ ?side1 ?side2 ?side3 ?side4 A46.out).mono ?_); (case side1 => exact cs_ (Kd.C_below HR309_1.out HB.out)); (case side2 => exact HC309_1.out); (case side3 => exact cs_ (Kd.C_below HR309_2.out HB.out)); (case side4 => exact HC309_2.out); rintro e w49 ⟨v311, rfl, ho0, hb⟩; refine ⟨_, rfl, ?_⟩; have n0_ := Aside0.mk (Kd.R_lower ho0 (below_size (be1_ HB GE272))); have n1_ := Aside0.mk (blk_below (g := gb272) (o := .cells #[.string a0_0, .slice A0_1 l0_1.length c0_1, .slice (some ad309) l0_2.length c0_2] 27 (0, 0)) (bq_ BK272) hb); have n2_ := Aside0.mk (below_step (be1_ HB GE272) hb); clear BK272; clear HB; have HO312 := n0_; have BK272 := n1_; have HB := n2_; clear n0_ n1_ n2_; (try clear hb); (try clear hb2); (try clear hk); (try clear hi); (try clear ho0)) | ((with_reducible refine gate_dst (N := 32) rfl ?_); refine Kd.R_lit (Kd.int .i64) _ 3 ?hg (N := 32) ?hd (xs := ([0] : List Int)) (inner := [.int .i64 0]) (ok := fun _ => True) (okp := fun _ => True) ?hr ?hp (fun _ hk => hk) trivial (Below.refl _ _) (Nat.le_refl _) (by simp) ?_; (case hd => rfl); (case hg => rfl); (case hr => first | (go_simp; done) | (go_simp; rfl)); (case hp => exact (Reps.one (show Kd.M (Kd.int .i64) _ _ _ 0 [.int .i64 0] from rfl) (Reps.none _ _))); intro v315 w50 ho51 hb hg_ hnew_; clear hg_ hnew_; (first | rw [← Ny314.out] at ho51 | (simp only [Int.reduceToNat] at ho51; rw [← Ny314.out] at ho51)); have n0_ := Aside0.mk (Kd.R_elder' (rq_ HO312) (Kd.R_base ho51) hb); have n1_ := Aside0.mk (Kd.R_lower (Kd.R_new' ho51 (Kd.R_lt (rq_ HO312))) (below_size (be1_ HB GE272))); have n2_ := Aside0.mk (blk_below (g := gb272) (o := .cells #[.string a0_0, .slice A0_1 l0_1.length c0_1, .slice (some ad309) l0_2.length c0_2] 27 (0, 0)) (bq_ BK272) hb); have n3_ := Aside0.mk (below_step (be1_ HB GE272) hb); clear HO312; clear BK272; clear HB; have HO312 := n0_; have HO316 := n1_; have BK272 := n2_; have HB := n3_; clear n0_ n1_ n2_ n3_; clear hb ho51; obtain ⟨Ao53, co53, eo53⟩ := Kd.R_slice HO312.out; subst eo53) | ((with_reducible refine gate_builtin (b := .append) (xs := #[.tmp 32, .tmp 33]) rfl ?_); at_builtin; refine Kd.R_append_rows (Kd.int .i64) (w0 := w) w.heap.size rfl (.tmp 32) (.tmp 33) 25 3 (.int .i64 0) 8 rfl Try.underlying25 info3 rfl (by decide) (by omega) v315 y314 t310 _ _ _ (fun k_ => some k_ ≠ (.slice Ao53 t310.length co53 : Value).ownBlock) (fun _ => False) rfl rfl ?aO ?aR (fun _ _ h => h) (fun _ h => h.elim) ?aF ?aB ?aS ?aL ?_; (case aR => repeat (first | exact (Kd.R_reads' HO312.out).2.2 | (with_reducible refine Kd.C_alloc ?_ _) | (with_reducible refine Kd.C_drewN ?_ _) | (with_reducible refine Kd.C_drew ?_))); (case aB => exact (be1_ HB GE272)); (case aF => exact (fun k_ hk => Kd.fresh' (Kd.R_lt (rq_ HO312)) k_ hk)); (case aO => exact (by (with_reducible repeat (first | apply Kd.R_alloc | apply Kd.R_drewN | apply Kd.R_drew)); exact Kd.R_mono HO316.out (fun _ hk => hk.2))); (case aS => exact (below_size (be1_ HB GE272))); (case aL => have := LMc47.out; omega); intro v318 w52 ho hb hg hat; rw [← Ny317.out] at ho; have n0_ := Aside0.mk (blk_grown (g := gb272) (o := .cells #[.string a0_0, .slice A0_1 l0_1.length c0_1, .slice (some ad309) l0_2.length c0_2] 27 (0, 0)) (bq_ BK272) hg (Kd.R_ne HO316.out BK272.out (by decide))); have n1_ := Aside0.mk (Kd.R_after (ok := (fun _ => True)) (rq_ HO312) hg hat); have n2_ := Aside0.mk (hb); have n3_ := Aside0.mk (ho); clear BK272; clear HO312; clear HB; clear HO316; have BK272 := n0_; have HO312 := n1_; have HB := n2_; have HO319 := n3_; clear n0_ n1_ n2_ n3_; clear ho hb hg hat))
           go_ret2
           exact ⟨_, er_, by (with_reducible repeat (first | apply Kd.R_alloc | apply Kd.R_drewN | apply Kd.R_drew)); exact Kd.R_mono HO319.out (fun _ hk => trivial), be1_ HB GE272⟩
          ·rw [if_neg c47] at H
           exact absurd H (by simp)
         ·rw [if_neg c45] at H
          exact absurd H (by simp)
        ·rw [if_neg c44] at H
         have c44b0 : (a0_0.toList == ([80, 108, 101, 97, 115, 101] : List UInt8)) = false := beq_eq_false_iff_ne.mpr c44
         have c44b1 : (a0_0.toList != ([80, 108, 101, 97, 115, 101] : List UInt8)) = true := bne_iff_ne.mpr c44
         by_cases c54 : a0_0.toList = ([65, 108, 115, 111] : List UInt8)
         ·rw [if_pos c54] at H
          have c54b0 : (a0_0.toList == ([65, 108, 115, 111] : List UInt8)) = true := beq_iff_eq.mpr c54
          have c54b1 : (a0_0.toList != ([65, 108, 115, 111] : List UInt8)) = false := bne_eq_false_iff_eq.mpr c54
          clear c54
          by_cases c55 : 0 < (l0_2.length : Int)
          ·rw [if_pos c55] at H
           have c55b0 : decide (0 < (l0_2.length : Int)) = true := decide_eq_true c55
           have c55b1 : decide (0 < l0_2.length) = true := decide_eq_true (by omega)
           clear c55
           replace H := Option.bind_eq_some_iff.mp H
           obtain ⟨⟨t321, t324⟩, A560, H⟩ := H
           replace H : ((some (([0] : List Int) : List Int)).bind fun y325 => (if y325.length + t321.length < 17592186044416 then (some ((y325 ++ t321), t324)) else (none))) = some (r1, r2) := H
           have A56 := Aside0.mk A560
           clear A560
           obtain ⟨y325, hy325⟩ : ∃ y_ : List Int, y_ = (([0] : List Int)) := ⟨_, rfl⟩
           replace H : (if y325.length + t321.length < 17592186044416 then (some ((y325 ++ t321), t324)) else (none)) = some (r1, r2) := by first | (rw [hy325]; with_reducible exact H) | (have H2_ := (Option.bind_some _ _).symm.trans H; rw [hy325]; with_reducible exact H2_) | (have H2_ := (Option.bind_some _ _).symm.trans H; with_reducible exact H2_) | with_reducible exact H | (rw [hy325]; exact H) | exact H
           have Ny325 := Aside0.mk hy325
           clear hy325
           by_cases c57 : y325.length + t321.length < 17592186044416
           ·rw [if_pos c57] at H
            have LMc57 := Aside0.mk c57
            clear c57
            obtain ⟨y328, hy328⟩ : ∃ y_ : List Int, y_ = (y325 ++ t321) := ⟨_, rfl⟩
            replace H : (some (y328, t324)) = some (r1, r2) := by first | (rw [hy328]; with_reducible exact H) | (have H2_ := (Option.bind_some _ _).symm.trans H; rw [hy328]; with_reducible exact H2_) | (have H2_ := (Option.bind_some _ _).symm.trans H; with_reducible exact H2_) | with_reducible exact H | (rw [hy328]; exact H) | exact H
            have Ny328 := Aside0.mk hy328
            clear hy328
            simp only [Option.some.injEq, Prod.mk.injEq] at H
            obtain ⟨rfl, rfl⟩ := H
            have hcz58_0 : wc.cell? ⟨gb272, 0, none⟩ = some (.string a0_0) := (blk_cell BK272.out 0).trans rfl
            have hcz58_1 : wc.cell? ⟨gb272, 1, none⟩ = some (.slice A0_1 l0_1.length c0_1) := (blk_cell BK272.out 1).trans rfl
            have hcz58_2 : wc.cell? ⟨gb272, 2, none⟩ = some (.slice A0_2 l0_2.length c0_2) := (blk_cell BK272.out 2).trans rfl
            have hfz58_0 := blk_frozen BK272.out 0
            have hfz58_1 := blk_frozen BK272.out 1
            have hfz58_2 := blk_frozen BK272.out 2
            have p320 : 0 ≤ (0 : Int) := (by omega)
            have q320 : 0 < (l0_2.length : Int) := of_decide_eq_true (by first | (with_reducible assumption) | assumption)
            obtain ⟨ad320, A320_1, c320_1, A320_2, c320_2, e320, hx320_0, hx320_1, hx320_2, hl320_1, hi320_1, hl320_2, hi320_2⟩ := at_T27 HR0_2.out 0 p320 q320
            cases e320
            have qi320 : (0 < l0_2.length) = True := eq_true (by omega)
            (try rw [show ((0 : Int)).toNat = 0 from rfl] at hx320_0)
            (try rw [show 0 * 3 = 0 from rfl] at hx320_0)
            (try rw [Addr.add_zero'] at hx320_0)
            (try rw [show ((0 : Int)).toNat = 0 from rfl] at hx320_1)
            (try rw [show 0 * 3 = 0 from rfl] at hx320_1)
            (try rw [Addr.add_zero'] at hx320_1)
            (try rw [show ((0 : Int)).toNat = 0 from rfl] at hx320_2)
            (try rw [show 0 * 3 = 0 from rfl] at hx320_2)
            (try rw [Addr.add_zero'] at hx320_2)
            replace hx320_0 := (HB.out.cell (World.block_lt_of_cell? w _ hx320_0)).trans hx320_0
            replace hx320_1 := (HB.out.cell (World.block_lt_of_cell? w _ hx320_1)).trans hx320_1
            replace hx320_2 := (HB.out.cell (World.block_lt_of_cell? w _ hx320_2)).trans hx320_2
            have HR320_1 := Aside0.mk hi320_1
            have HC320_1 := Aside0.mk hl320_1
            clear hi320_1 hl320_1
            have HR320_2 := Aside0.mk hi320_2
            have HC320_2 := Aside0.mk hl320_2
            clear hi320_2 hl320_2
            replace p320 := eq_true p320
            replace q320 := eq_true q320
            go_wp2_with (first | ((with_reducible refine gate_callee (f := 28) rfl ?_); refine goesL_ (some 29) rfl rfl Try.func28 (by kernel_rfl) rfl #[.agg #[.string ((rd_T27 l0_2 0).f0), .slice A320_1 ((rd_T27 l0_2 0).f1).length c320_1, .slice A320_2 ((rd_T27 l0_2 0).f2).length c320_2]] rfl (by (try simp only [List.map_toArray, List.map_cons, List.map_nil]); first | done | rfl | (simp only [List.length_drop, List.length_take]; rfl)) ?_; (with_reducible refine (ih kj4 (by have := HJ4.out; omega) ((rd_T27 l0_2 0).f0) _ _ ((rd_T27 l0_2 0).f1) _ _ ((rd_T27 l0_2 0).f2) t321 t324 _ ?side1 ?side2 ?side3 ?side4 A56.out).mono ?_); (case side1 => exact cs_ (Kd.C_below HR320_1.out HB.out)); (case side2 => exact HC320_1.out); (case side3 => exact cs_ (Kd.C_below HR320_2.out HB.out)); (case side4 => exact HC320_2.out); rintro e w59 ⟨v322, rfl, ho0, hb⟩; refine ⟨_, rfl, ?_⟩; have n0_ := Aside0.mk (Kd.R_lower ho0 (below_size (be1_ HB GE272))); have n1_ := Aside0.mk (blk_below (g := gb272) (o := .cells #[.string a0_0, .slice A0_1 l0_1.length c0_1, .slice (some ad320) l0_2.length c0_2] 27 (0, 0)) (bq_ BK272) hb); have n2_ := Aside0.mk (below_step (be1_ HB GE272) hb); clear BK272; clear HB; have HO323 := n0_; have BK272 := n1_; have HB := n2_; clear n0_ n1_ n2_; (try clear hb); (try clear hb2); (try clear hk); (try clear hi); (try clear ho0)) | ((with_reducible refine gate_dst (N := 32) rfl ?_); refine Kd.R_lit (Kd.int .i64) _ 3 ?hg (N := 32) ?hd (xs := ([0] : List Int)) (inner := [.int .i64 0]) (ok := fun _ => True) (okp := fun _ => True) ?hr ?hp (fun _ hk => hk) trivial (Below.refl _ _) (Nat.le_refl _) (by simp) ?_; (case hd => rfl); (case hg => rfl); (case hr => first | (go_simp; done) | (go_simp; rfl)); (case hp => exact (Reps.one (show Kd.M (Kd.int .i64) _ _ _ 0 [.int .i64 0] from rfl) (Reps.none _ _))); intro v326 w60 ho61 hb hg_ hnew_; clear hg_ hnew_; (first | rw [← Ny325.out] at ho61 | (simp only [Int.reduceToNat] at ho61; rw [← Ny325.out] at ho61)); have n0_ := Aside0.mk (Kd.R_elder' (rq_ HO323) (Kd.R_base ho61) hb); have n1_ := Aside0.mk (Kd.R_lower (Kd.R_new' ho61 (Kd.R_lt (rq_ HO323))) (below_size (be1_ HB GE272))); have n2_ := Aside0.mk (blk_below (g := gb272) (o := .cells #[.string a0_0, .slice A0_1 l0_1.length c0_1, .slice (some ad320) l0_2.length c0_2] 27 (0, 0)) (bq_ BK272) hb); have n3_ := Aside0.mk (below_step (be1_ HB GE272) hb); clear HO323; clear BK272; clear HB; have HO323 := n0_; have HO327 := n1_; have BK272 := n2_; have HB := n3_; clear n0_ n1_ n2_ n3_; clear hb ho61; obtain ⟨Ao63, co63, eo63⟩ := Kd.R_slice HO323.out; subst eo63) | ((with_reducible refine gate_builtin (b := .append) (xs := #[.tmp 32, .tmp 33]) rfl ?_); at_builtin; refine Kd.R_append_rows (Kd.int .i64) (w0 := w) w.heap.size rfl (.tmp 32) (.tmp 33) 25 3 (.int .i64 0) 8 rfl Try.underlying25 info3 rfl (by decide) (by omega) v326 y325 t321 _ _ _ (fun k_ => some k_ ≠ (.slice Ao63 t321.length co63 : Value).ownBlock) (fun _ => False) rfl rfl ?aO ?aR (fun _ _ h => h) (fun _ h => h.elim) ?aF ?aB ?aS ?aL ?_; (case aR => repeat (first | exact (Kd.R_reads' HO323.out).2.2 | (with_reducible refine Kd.C_alloc ?_ _) | (with_reducible refine Kd.C_drewN ?_ _) | (with_reducible refine Kd.C_drew ?_))); (case aB => exact (be1_ HB GE272)); (case aF => exact (fun k_ hk => Kd.fresh' (Kd.R_lt (rq_ HO323)) k_ hk)); (case aO => exact (by (with_reducible repeat (first | apply Kd.R_alloc | apply Kd.R_drewN | apply Kd.R_drew)); exact Kd.R_mono HO327.out (fun _ hk => hk.2))); (case aS => exact (below_size (be1_ HB GE272))); (case aL => have := LMc57.out; omega); intro v329 w62 ho hb hg hat; rw [← Ny328.out] at ho; have n0_ := Aside0.mk (blk_grown (g := gb272) (o := .cells #[.string a0_0, .slice A0_1 l0_1.length c0_1, .slice (some ad320) l0_2.length c0_2] 27 (0, 0)) (bq_ BK272) hg (Kd.R_ne HO327.out BK272.out (by decide))); have n1_ := Aside0.mk (Kd.R_after (ok := (fun _ => True)) (rq_ HO323) hg hat); have n2_ := Aside0.mk (hb); have n3_ := Aside0.mk (ho); clear BK272; clear HO323; clear HB; clear HO327; have BK272 := n0_; have HO323 := n1_; have HB := n2_; have HO330 := n3_; clear n0_ n1_ n2_ n3_; clear ho hb hg hat))
            go_ret2
            exact ⟨_, er_, by (with_reducible repeat (first | apply Kd.R_alloc | apply Kd.R_drewN | apply Kd.R_drew)); exact Kd.R_mono HO330.out (fun _ hk => trivial), be1_ HB GE272⟩
           ·rw [if_neg c57] at H
            exact absurd H (by simp)
          ·rw [if_neg c55] at H
           exact absurd H (by simp)
         ·rw [if_neg c54] at H
          have c54b0 : (a0_0.toList == ([65, 108, 115, 111] : List UInt8)) = false := beq_eq_false_iff_ne.mpr c54
          have c54b1 : (a0_0.toList != ([65, 108, 115, 111] : List UInt8)) = true := bne_iff_ne.mpr c54
          simp only [Option.some.injEq, Prod.mk.injEq] at H
          obtain ⟨rfl, rfl⟩ := H
          go_wp2
          go_ret2
          exact ⟨_, er_, by first | exact Kd.R_nil _ _ _ _ _ | exact Kd.N_nil _ _ _ _ _ | exact Kd.V_nil _ _ _ _ _ | exact Kd.Q_nil _ _ _ _ _ | exact Kd.S_nil _ _ _ _ _, be1_ HB GE272⟩

end Go.Proofs.Ytfampmajmbediaa.P
