-- Written by the session's own program wip/tools/xprint.py out of the translation, with the kit's print.py on a scratch copy; functions given by hand stand among them.
import Derived.Test.YtflknolnclnhfaaPx0
import Derived.Test.YtflknolnclnhfaaPx9
namespace Go.Proofs.Ytflknolnclnhfaa.P
open Go.RowKit Go.Proofs.YtflknolnclnhfaaW.PrintWords Go.Proofs.YtflknolnclnhfaaW.PrintLast Go.Proofs.YtflknolnclnhfaaW.PrintMore
attribute [local go_sem] max2_int min2_int max_two min_two max_three min_three max_four min_four   -- for this text's walks alone
set_option linter.unusedVariables false
set_option linter.unusedSimpArgs false

/-! ### pentaglotref28_First: function 43 -/
mutual
def pentaglotref28_First.l0 : Nat → List Int → List Bool → Int → Int → Int → List (S52) → Int → Option (Int)
  | 0, _, _, _, _, _, _, _ => none
  | k + 1, x5, x6, x7, x8, x261000, x261001, x261002 => if x8 ≥ 0 then (if 0 ≤ x8 then (if x8 < (x6.length : Int) then (if rdOf false x6 x8 = true then (if x8 < (x5.length : Int) then (pentaglotref28_First.j1 k x5 x6 x7 x8 ((rd x5 x8) != 2) x261000 x261001 x261002) else (none)) else (pentaglotref28_First.j1 k x5 x6 x7 x8 true x261000 x261001 x261002)) else (none)) else (none)) else (some x7)
def pentaglotref28_First.j1 : Nat → List Int → List Bool → Int → Int → Bool → Int → List (S52) → Int → Option (Int)
  | 0, _, _, _, _, _, _, _, _ => none
  | k + 1, x5, x6, x7, x8, x40, x261000, x261001, x261002 => if x40 = true then (pentaglotref28_First.l0 k x5 x6 x7 (wrap64 (x8 - 1)) x261000 x261001 x261002) else (if 0 ≤ x8 then (if x8 < (x261001.length : Int) then (if ((rd_T52 x261001 x8).f0) = 3 then (if x7 < 0 then (pentaglotref28_First.j2 k x5 x6 x7 x8 true x261000 x261001 x261002 ((rd_T52 x261001 x8).f0) ((rd_T52 x261001 x8).f1) ((rd_T52 x261001 x8).f2)) else (pentaglotref28_First.j2 k x5 x6 x7 x8 (decide (((rd_T52 x261001 x8).f1) < x7)) x261000 x261001 x261002 ((rd_T52 x261001 x8).f0) ((rd_T52 x261001 x8).f1) ((rd_T52 x261001 x8).f2))) else (pentaglotref28_First.j2 k x5 x6 x7 x8 false x261000 x261001 x261002 ((rd_T52 x261001 x8).f0) ((rd_T52 x261001 x8).f1) ((rd_T52 x261001 x8).f2))) else (none)) else (none))
def pentaglotref28_First.j2 : Nat → List Int → List Bool → Int → Int → Bool → Int → List (S52) → Int → Int → Int → List Int → Option (Int)
  | 0, _, _, _, _, _, _, _, _, _, _, _ => none
  | k + 1, x5, x6, x7, x8, x58, x261000, x261001, x261002, x272000, x272001, x272002 => if x58 = true then (pentaglotref28_First.j3 k x5 x6 x272001 x8 x261000 x261001 x261002 x272000 x272001 x272002) else (pentaglotref28_First.j3 k x5 x6 x7 x8 x261000 x261001 x261002 x272000 x272001 x272002)
def pentaglotref28_First.j3 : Nat → List Int → List Bool → Int → Int → Int → List (S52) → Int → Int → Int → List Int → Option (Int)
  | 0, _, _, _, _, _, _, _, _, _, _ => none
  | k + 1, x5, x6, x7, x8, x261000, x261001, x261002, x272000, x272001, x272002 => pentaglotref28_First.l1 k x5 x6 x7 x8 x272002 (x272002.length : Int) 0 x261000 x261001 x261002
def pentaglotref28_First.l1 : Nat → List Int → List Bool → Int → Int → List Int → Int → Int → Int → List (S52) → Int → Option (Int)
  | 0, _, _, _, _, _, _, _, _, _, _ => none
  | k + 1, x5, x6, x7, x8, x62, x63, x64, x261000, x261001, x261002 => if x64 < x63 then (if 0 ≤ x64 then (if x64 < (x62.length : Int) then (if 0 ≤ (rd x62 x64) then (if (rd x62 x64) < (x6.length : Int) then (pentaglotref28_First.l1 k x5 (x6.set ((rd x62 x64) : Int).toNat true) x7 x8 x62 x63 (wrap64 (x64 + 1)) x261000 x261001 x261002) else (none)) else (none)) else (none)) else (none)) else (pentaglotref28_First.l0 k x5 x6 x7 (wrap64 (x8 - 1)) x261000 x261001 x261002)
end
def pentaglotref28_First.f (k : Nat) (a0_0 : Int) (l0_1 : List (S52)) (a0_2 : Int) (l1 : List Int) : Option (Int) := (pentaglotref28_Values.f k a0_0 l0_1 a0_2 l1).bind fun t261 => (if 0 ≤ (l0_1.length : Int) then (if ((l0_1.length : Int) : Int).toNat ≤ 281474976710656 then ((some (List.replicate ((l0_1.length : Int) : Int).toNat false : List Bool)).bind fun y264 => (if 0 ≤ a0_2 then (if a0_2 < (y264.length : Int) then (pentaglotref28_First.l0 k t261 (y264.set (a0_2 : Int).toNat true) (-1) a0_2 a0_0 l0_1 a0_2) else (none)) else (none))) else (none)) else (none))
theorem pentaglotref28_First.mono_l : ∀ k, (∀ y0 y1 y2 y3 y4 y5 y6, LeO (pentaglotref28_First.l0 k y0 y1 y2 y3 y4 y5 y6) (pentaglotref28_First.l0 (k + 1) y0 y1 y2 y3 y4 y5 y6)) ∧ (∀ y0 y1 y2 y3 y4 y5 y6 y7, LeO (pentaglotref28_First.j1 k y0 y1 y2 y3 y4 y5 y6 y7) (pentaglotref28_First.j1 (k + 1) y0 y1 y2 y3 y4 y5 y6 y7)) ∧ (∀ y0 y1 y2 y3 y4 y5 y6 y7 y8 y9 y10, LeO (pentaglotref28_First.j2 k y0 y1 y2 y3 y4 y5 y6 y7 y8 y9 y10) (pentaglotref28_First.j2 (k + 1) y0 y1 y2 y3 y4 y5 y6 y7 y8 y9 y10)) ∧ (∀ y0 y1 y2 y3 y4 y5 y6 y7 y8 y9, LeO (pentaglotref28_First.j3 k y0 y1 y2 y3 y4 y5 y6 y7 y8 y9) (pentaglotref28_First.j3 (k + 1) y0 y1 y2 y3 y4 y5 y6 y7 y8 y9)) ∧ (∀ y0 y1 y2 y3 y4 y5 y6 y7 y8 y9, LeO (pentaglotref28_First.l1 k y0 y1 y2 y3 y4 y5 y6 y7 y8 y9) (pentaglotref28_First.l1 (k + 1) y0 y1 y2 y3 y4 y5 y6 y7 y8 y9))
  | 0 => ⟨fun _ _ _ _ _ _ _ r h => by simp [pentaglotref28_First.l0] at h, fun _ _ _ _ _ _ _ _ r h => by simp [pentaglotref28_First.j1] at h, fun _ _ _ _ _ _ _ _ _ _ _ r h => by simp [pentaglotref28_First.j2] at h, fun _ _ _ _ _ _ _ _ _ _ r h => by simp [pentaglotref28_First.j3] at h, fun _ _ _ _ _ _ _ _ _ _ r h => by simp [pentaglotref28_First.l1] at h⟩
  | k + 1 => by
    obtain ⟨ih0, ih1, ih2, ih3, ih4⟩ := pentaglotref28_First.mono_l k
    refine ⟨?_, ?_, ?_, ?_, ?_⟩
    · intro y0 y1 y2 y3 y4 y5 y6
      unfold pentaglotref28_First.l0
      repeat' first
      | (with_reducible exact ih0 _ _ _ _ _ _ _)
      | (with_reducible exact ih1 _ _ _ _ _ _ _ _)
      | (with_reducible exact ih2 _ _ _ _ _ _ _ _ _ _ _)
      | (with_reducible exact ih3 _ _ _ _ _ _ _ _ _ _)
      | (with_reducible exact ih4 _ _ _ _ _ _ _ _ _ _)
      | (with_reducible exact pentaglotref28_Values.mono _ _ _ _ _)
      | (with_reducible exact LeO.refl _)
      | (with_reducible exact LeO.none _)
      | (with_reducible refine LeO.ite ?_ ?_)
      | (with_reducible refine LeO.bind ?_ (fun _ => ?_))
      | exact ih0 _ _ _ _ _ _ _
      | exact ih1 _ _ _ _ _ _ _ _
      | exact ih2 _ _ _ _ _ _ _ _ _ _ _
      | exact ih3 _ _ _ _ _ _ _ _ _ _
      | exact ih4 _ _ _ _ _ _ _ _ _ _
      | exact pentaglotref28_Values.mono _ _ _ _ _
      | exact LeO.none _
      | refine LeO.ite ?_ ?_
      | refine LeO.bind ?_ (fun _ => ?_)
    · intro y0 y1 y2 y3 y4 y5 y6 y7
      unfold pentaglotref28_First.j1
      repeat' first
      | (with_reducible exact ih0 _ _ _ _ _ _ _)
      | (with_reducible exact ih1 _ _ _ _ _ _ _ _)
      | (with_reducible exact ih2 _ _ _ _ _ _ _ _ _ _ _)
      | (with_reducible exact ih3 _ _ _ _ _ _ _ _ _ _)
      | (with_reducible exact ih4 _ _ _ _ _ _ _ _ _ _)
      | (with_reducible exact pentaglotref28_Values.mono _ _ _ _ _)
      | (with_reducible exact LeO.refl _)
      | (with_reducible exact LeO.none _)
      | (with_reducible refine LeO.ite ?_ ?_)
      | (with_reducible refine LeO.bind ?_ (fun _ => ?_))
      | exact ih0 _ _ _ _ _ _ _
      | exact ih1 _ _ _ _ _ _ _ _
      | exact ih2 _ _ _ _ _ _ _ _ _ _ _
      | exact ih3 _ _ _ _ _ _ _ _ _ _
      | exact ih4 _ _ _ _ _ _ _ _ _ _
      | exact pentaglotref28_Values.mono _ _ _ _ _
      | exact LeO.none _
      | refine LeO.ite ?_ ?_
      | refine LeO.bind ?_ (fun _ => ?_)
    · intro y0 y1 y2 y3 y4 y5 y6 y7 y8 y9 y10
      unfold pentaglotref28_First.j2
      repeat' first
      | (with_reducible exact ih0 _ _ _ _ _ _ _)
      | (with_reducible exact ih1 _ _ _ _ _ _ _ _)
      | (with_reducible exact ih2 _ _ _ _ _ _ _ _ _ _ _)
      | (with_reducible exact ih3 _ _ _ _ _ _ _ _ _ _)
      | (with_reducible exact ih4 _ _ _ _ _ _ _ _ _ _)
      | (with_reducible exact pentaglotref28_Values.mono _ _ _ _ _)
      | (with_reducible exact LeO.refl _)
      | (with_reducible exact LeO.none _)
      | (with_reducible refine LeO.ite ?_ ?_)
      | (with_reducible refine LeO.bind ?_ (fun _ => ?_))
      | exact ih0 _ _ _ _ _ _ _
      | exact ih1 _ _ _ _ _ _ _ _
      | exact ih2 _ _ _ _ _ _ _ _ _ _ _
      | exact ih3 _ _ _ _ _ _ _ _ _ _
      | exact ih4 _ _ _ _ _ _ _ _ _ _
      | exact pentaglotref28_Values.mono _ _ _ _ _
      | exact LeO.none _
      | refine LeO.ite ?_ ?_
      | refine LeO.bind ?_ (fun _ => ?_)
    · intro y0 y1 y2 y3 y4 y5 y6 y7 y8 y9
      unfold pentaglotref28_First.j3
      repeat' first
      | (with_reducible exact ih0 _ _ _ _ _ _ _)
      | (with_reducible exact ih1 _ _ _ _ _ _ _ _)
      | (with_reducible exact ih2 _ _ _ _ _ _ _ _ _ _ _)
      | (with_reducible exact ih3 _ _ _ _ _ _ _ _ _ _)
      | (with_reducible exact ih4 _ _ _ _ _ _ _ _ _ _)
      | (with_reducible exact pentaglotref28_Values.mono _ _ _ _ _)
      | (with_reducible exact LeO.refl _)
      | (with_reducible exact LeO.none _)
      | (with_reducible refine LeO.ite ?_ ?_)
      | (with_reducible refine LeO.bind ?_ (fun _ => ?_))
      | exact ih0 _ _ _ _ _ _ _
      | exact ih1 _ _ _ _ _ _ _ _
      | exact ih2 _ _ _ _ _ _ _ _ _ _ _
      | exact ih3 _ _ _ _ _ _ _ _ _ _
      | exact ih4 _ _ _ _ _ _ _ _ _ _
      | exact pentaglotref28_Values.mono _ _ _ _ _
      | exact LeO.none _
      | refine LeO.ite ?_ ?_
      | refine LeO.bind ?_ (fun _ => ?_)
    · intro y0 y1 y2 y3 y4 y5 y6 y7 y8 y9
      unfold pentaglotref28_First.l1
      repeat' first
      | (with_reducible exact ih0 _ _ _ _ _ _ _)
      | (with_reducible exact ih1 _ _ _ _ _ _ _ _)
      | (with_reducible exact ih2 _ _ _ _ _ _ _ _ _ _ _)
      | (with_reducible exact ih3 _ _ _ _ _ _ _ _ _ _)
      | (with_reducible exact ih4 _ _ _ _ _ _ _ _ _ _)
      | (with_reducible exact pentaglotref28_Values.mono _ _ _ _ _)
      | (with_reducible exact LeO.refl _)
      | (with_reducible exact LeO.none _)
      | (with_reducible refine LeO.ite ?_ ?_)
      | (with_reducible refine LeO.bind ?_ (fun _ => ?_))
      | exact ih0 _ _ _ _ _ _ _
      | exact ih1 _ _ _ _ _ _ _ _
      | exact ih2 _ _ _ _ _ _ _ _ _ _ _
      | exact ih3 _ _ _ _ _ _ _ _ _ _
      | exact ih4 _ _ _ _ _ _ _ _ _ _
      | exact pentaglotref28_Values.mono _ _ _ _ _
      | exact LeO.none _
      | refine LeO.ite ?_ ?_
      | refine LeO.bind ?_ (fun _ => ?_)
theorem pentaglotref28_First.mono : ∀ a0 a1 a2 a3 k, LeO (pentaglotref28_First.f k a0 a1 a2 a3) (pentaglotref28_First.f (k + 1) a0 a1 a2 a3) := by
  intro a0 a1 a2 a3 k
  obtain ⟨ih0, ih1, ih2, ih3, ih4⟩ := pentaglotref28_First.mono_l k
  unfold pentaglotref28_First.f
  repeat' first
      | (with_reducible exact ih0 _ _ _ _ _ _ _)
      | (with_reducible exact ih1 _ _ _ _ _ _ _ _)
      | (with_reducible exact ih2 _ _ _ _ _ _ _ _ _ _ _)
      | (with_reducible exact ih3 _ _ _ _ _ _ _ _ _ _)
      | (with_reducible exact ih4 _ _ _ _ _ _ _ _ _ _)
      | (with_reducible exact pentaglotref28_Values.mono _ _ _ _ _)
      | (with_reducible exact LeO.refl _)
      | (with_reducible exact LeO.none _)
      | (with_reducible refine LeO.ite ?_ ?_)
      | (with_reducible refine LeO.bind ?_ (fun _ => ?_))
      | exact ih0 _ _ _ _ _ _ _
      | exact ih1 _ _ _ _ _ _ _ _
      | exact ih2 _ _ _ _ _ _ _ _ _ _ _
      | exact ih3 _ _ _ _ _ _ _ _ _ _
      | exact ih4 _ _ _ _ _ _ _ _ _ _
      | exact pentaglotref28_Values.mono _ _ _ _ _
      | exact LeO.none _
      | refine LeO.ite ?_ ?_
      | refine LeO.bind ?_ (fun _ => ?_)
set_option maxHeartbeats 8000000 in
set_option maxRecDepth 100000 in
theorem pentaglotref28_First.calls (k : Nat) (a0_0 : Int) (A0_1 : Option Addr) (c0_1 : Nat) (l0_1 : List (S52)) (a0_2 : Int) (A1 : Option Addr) (c1 : Nat) (l1 : List Int) (r : Int) (w : World) (hr0_1 : Kd.C k52 w A0_1 l0_1.length l0_1) (hc0_1 : l0_1.length ≤ c0_1) (hr1 : Kd.C (Kd.int .i64) w A1 l1.length l1) (hc1 : l1.length ≤ c1) (h : pentaglotref28_First.f k a0_0 l0_1 a0_2 l1 = some r) :
    Calls Try.prog 43 #[.agg #[.int .i64 a0_0, .slice A0_1 l0_1.length c0_1, .int .i64 a0_2], .slice A1 l1.length c1] w fun e w' => e = .returned (.int .i64 r) ∧ Below w.heap.size w w' := by
  have hu24 := Try.underlying24
  have hu52 := Try.underlying52
  have HR0_1 := Aside0.mk hr0_1
  have HC0_1 := Aside0.mk hc0_1
  clear hr0_1 hc0_1
  have HR1 := Aside0.mk hr1
  have HC1 := Aside0.mk hc1
  clear hr1 hc1
  have HB := Aside0.mk (Below.refl w.heap.size w)
  have H : ((pentaglotref28_Values.f k a0_0 l0_1 a0_2 l1).bind fun t261 => (if 0 ≤ (l0_1.length : Int) then (if ((l0_1.length : Int) : Int).toNat ≤ 281474976710656 then ((some (List.replicate ((l0_1.length : Int) : Int).toNat false : List Bool)).bind fun y264 => (if 0 ≤ a0_2 then (if a0_2 < (y264.length : Int) then (pentaglotref28_First.l0 k t261 (y264.set (a0_2 : Int).toNat true) (-1) a0_2 a0_0 l0_1 a0_2) else (none)) else (none))) else (none)) else (none))) = some r := h
  clear h
  replace H := Option.bind_eq_some_iff.mp H
  obtain ⟨t261, A30, H⟩ := H
  replace H : (if 0 ≤ (l0_1.length : Int) then (if ((l0_1.length : Int) : Int).toNat ≤ 281474976710656 then ((some (List.replicate ((l0_1.length : Int) : Int).toNat false : List Bool)).bind fun y264 => (if 0 ≤ a0_2 then (if a0_2 < (y264.length : Int) then (pentaglotref28_First.l0 k t261 (y264.set (a0_2 : Int).toNat true) (-1) a0_2 a0_0 l0_1 a0_2) else (none)) else (none))) else (none)) else (none)) = some r := H
  have A3 := Aside0.mk A30
  clear A30
  by_cases c4 : 0 ≤ (l0_1.length : Int)
  · rw [if_pos c4] at H
    have c4b0 := eq_true c4
    have c4b1 : decide (0 ≤ (l0_1.length : Int)) = true := decide_eq_true c4
    clear c4
    by_cases c5 : ((l0_1.length : Int) : Int).toNat ≤ 281474976710656
    · rw [if_pos c5] at H
      have c5b0 := eq_true c5
      have c5b1 : decide (((l0_1.length : Int) : Int).toNat ≤ 281474976710656) = true := decide_eq_true c5
      clear c5
      obtain ⟨y264, hy264⟩ : ∃ y_ : List Bool, y_ = (List.replicate ((l0_1.length : Int) : Int).toNat false) := ⟨_, rfl⟩
      replace H : (if 0 ≤ a0_2 then (if a0_2 < (y264.length : Int) then (pentaglotref28_First.l0 k t261 (y264.set (a0_2 : Int).toNat true) (-1) a0_2 a0_0 l0_1 a0_2) else (none)) else (none)) = some r := by first | (rw [hy264]; with_reducible exact H) | (have H2_ := (Option.bind_some _ _).symm.trans H; rw [hy264]; with_reducible exact H2_) | (have H2_ := (Option.bind_some _ _).symm.trans H; with_reducible exact H2_) | with_reducible exact H | (rw [hy264]; exact H) | exact H
      have Ny264 := Aside0.mk hy264
      clear hy264
      by_cases c6 : 0 ≤ a0_2
      · rw [if_pos c6] at H
        have c6b0 : decide (0 ≤ a0_2) = true := decide_eq_true c6
        clear c6
        by_cases c7 : a0_2 < (y264.length : Int)
        · rw [if_pos c7] at H
          have c7b0 : decide (a0_2 < (y264.length : Int)) = true := decide_eq_true c7
          clear c7
          obtain ⟨y267, hy267⟩ : ∃ y_ : List Bool, y_ = (y264.set (a0_2 : Int).toNat true) := ⟨_, rfl⟩
          replace H : (pentaglotref28_First.l0 k t261 y267 (-1) a0_2 a0_0 l0_1 a0_2) = some r := by first | (rw [hy267]; with_reducible exact H) | (have H2_ := (Option.bind_some _ _).symm.trans H; rw [hy267]; with_reducible exact H2_) | (have H2_ := (Option.bind_some _ _).symm.trans H; with_reducible exact H2_) | with_reducible exact H | (rw [hy267]; exact H) | exact H
          have Ny267 := Aside0.mk hy267
          clear hy267
          have H' := Aside0.mk H
          clear H
          go_enter Try.func43, Try.ntmps43
          go_wp2_with (first | ((with_reducible refine gate_dst (N := 2) rfl ?_); refine box_event ?hg (N := 2) ?hd (cs := #[.int .i64 a0_0, .slice A0_1 l0_1.length c0_1, .int .i64 a0_2]) (t := 24) ?hr ?_; (case hd => rfl); (case hg => rfl); (case hr => first | (go_simp; done) | (go_simp; rfl)); intro gb260 hg w9 hbox hb; have n0_ := Aside0.mk (below_step (by repeat (first | (with_reducible first | exact HB.out | apply below_alloc | apply pw_below_drewN | apply below_drew1) | exact HB.out)) hb); have n1_ := Aside0.mk (hbox); have n2_ := Aside0.mk ((by rw [hg]; exact (below_size (by repeat (first | (with_reducible first | exact HB.out | apply below_alloc | apply pw_below_drewN | apply below_drew1) | exact HB.out))) : w.heap.size ≤ gb260)); have n3_ := Aside0.mk ((by rw [hg]; exact (below_size (by repeat (first | (with_reducible first | exact HB.out | apply below_alloc | apply pw_below_drewN | apply below_drew1) | exact HB.out))) : w.heap.size ≤ gb260)); clear HB; have HB := n0_; have BK260 := n1_; have GW260 := n2_; have GE260 := n3_; clear n0_ n1_ n2_ n3_; clear hb hbox hg; have hcz10_0 : w9.cell? ⟨gb260, 0, none⟩ = some (.int .i64 a0_0) := (blk_cell BK260.out 0).trans rfl; have hcz10_1 : w9.cell? ⟨gb260, 1, none⟩ = some (.slice A0_1 l0_1.length c0_1) := (blk_cell BK260.out 1).trans rfl; have hcz10_2 : w9.cell? ⟨gb260, 2, none⟩ = some (.int .i64 a0_2) := (blk_cell BK260.out 2).trans rfl; have hfz10_0 := blk_frozen BK260.out 0; have hfz10_1 := blk_frozen BK260.out 1; have hfz10_2 := blk_frozen BK260.out 2) | ((with_reducible refine gate_callee (f := 36) rfl ?_); refine goesL_ (some 14) rfl rfl Try.func36 (by kernel_rfl) rfl #[.agg #[.int .i64 a0_0, .slice A0_1 l0_1.length c0_1, .int .i64 a0_2], .slice A1 l1.length c1] rfl (by (try simp only [List.map_toArray, List.map_cons, List.map_nil]); first | done | rfl | (simp only [List.length_drop, List.length_take]; rfl)) ?_; (with_reducible refine (pentaglotref28_Values.calls k a0_0 _ _ l0_1 a0_2 _ _ l1 t261 _ ?side1 ?side2 ?side3 ?side4 A3.out).mono ?_); (case side1 => repeat (first | exact (Kd.C_below HR0_1.out HB.out) | (with_reducible refine Kd.C_alloc ?_ _) | (with_reducible refine Kd.C_drewN ?_ _) | (with_reducible refine Kd.C_drew ?_))); (case side2 => exact HC0_1.out); (case side3 => repeat (first | exact (Kd.C_below HR1.out HB.out) | (with_reducible refine Kd.C_alloc ?_ _) | (with_reducible refine Kd.C_drewN ?_ _) | (with_reducible refine Kd.C_drew ?_))); (case side4 => exact HC1.out); rintro e w11 ⟨v262, rfl, ho0, hb⟩; refine ⟨_, rfl, ?_⟩; have n0_ := Aside0.mk (Kd.R_lower ho0 (below_size (by repeat (first | (with_reducible first | exact HB.out | apply below_alloc | apply pw_below_drewN | apply below_drew1 | refine below_set ?_ GE260.out) | exact HB.out)))); have n1_ := Aside0.mk (blk_below (g := gb260) (o := .cells #[.int .i64 a0_0, .slice A0_1 l0_1.length c0_1, .int .i64 a0_2] 24 (0, 0)) (by (with_reducible repeat (first | refine blk_drewN ?_ _ | refine blk_drew ?_ | refine blk_alloc ?_ _)); exact BK260.out) hb); have n2_ := Aside0.mk (below_step (by repeat (first | (with_reducible first | exact HB.out | apply below_alloc | apply pw_below_drewN | apply below_drew1 | refine below_set ?_ GE260.out) | exact HB.out)) hb); clear BK260; clear HB; have HO263 := n0_; have BK260 := n1_; have HB := n2_; clear n0_ n1_ n2_; (try clear hb); (try clear hb2); (try clear hk); (try clear hi); (try clear ho0); have hcz12_0 : w11.cell? ⟨gb260, 0, none⟩ = some (.int .i64 a0_0) := (blk_cell BK260.out 0).trans rfl; have hcz12_1 : w11.cell? ⟨gb260, 1, none⟩ = some (.slice A0_1 l0_1.length c0_1) := (blk_cell BK260.out 1).trans rfl; have hcz12_2 : w11.cell? ⟨gb260, 2, none⟩ = some (.int .i64 a0_2) := (blk_cell BK260.out 2).trans rfl; have hfz12_0 := blk_frozen BK260.out 0; have hfz12_1 := blk_frozen BK260.out 1; have hfz12_2 := blk_frozen BK260.out 2) | ((with_reducible refine gate_dst (N := 18) rfl ?_); refine Kd.R_make Kd.bool _ 4 rfl (N := 18) rfl 25 _ _ rfl (l0_1.length : Int) rfl rfl Try.underlying25 (.bool false) 1 info4 rfl (by decide) (by omega) false (ok := fun _ => True) (okp := fun _ => True) rfl (fun _ hk => hk) trivial (of_decide_eq_true (by first | (with_reducible assumption) | assumption)) (Nat.le_trans (Nat.mul_le_mul_right _ (of_decide_eq_true (by first | (with_reducible assumption) | assumption) : (l0_1.length : Int).toNat ≤ 281474976710656)) (by omega)) (Below.refl _ _) (Nat.le_refl _) ?_; intro v265 w13 ho14 hb hg_ hnew_; clear hg_ hnew_; (first | rw [← Ny264.out] at ho14 | (simp only [Int.reduceToNat] at ho14; rw [← Ny264.out] at ho14)); have n0_ := Aside0.mk (Kd.R_below (by (with_reducible repeat (first | apply Kd.R_alloc | apply Kd.R_drewN | apply Kd.R_drew)); exact HO263.out) hb); have n1_ := Aside0.mk (Kd.R_lower ho14 (below_size (by repeat (first | (with_reducible first | exact HB.out | apply below_alloc | apply pw_below_drewN | apply below_drew1 | refine below_set ?_ GE260.out) | exact HB.out)))); have n2_ := Aside0.mk (blk_below (g := gb260) (o := .cells #[.int .i64 a0_0, .slice A0_1 l0_1.length c0_1, .int .i64 a0_2] 24 (0, 0)) (by (with_reducible repeat (first | refine blk_drewN ?_ _ | refine blk_drew ?_ | refine blk_alloc ?_ _)); exact BK260.out) hb); have n3_ := Aside0.mk (below_step (by repeat (first | (with_reducible first | exact HB.out | apply below_alloc | apply pw_below_drewN | apply below_drew1 | refine below_set ?_ GE260.out) | exact HB.out)) hb); clear HO263; clear BK260; clear HB; have HO263 := n0_; have HO266 := n1_; have BK260 := n2_; have HB := n3_; clear n0_ n1_ n2_ n3_; clear hb ho14; have hcz15_0 : w13.cell? ⟨gb260, 0, none⟩ = some (.int .i64 a0_0) := (blk_cell BK260.out 0).trans rfl; have hcz15_1 : w13.cell? ⟨gb260, 1, none⟩ = some (.slice A0_1 l0_1.length c0_1) := (blk_cell BK260.out 1).trans rfl; have hcz15_2 : w13.cell? ⟨gb260, 2, none⟩ = some (.int .i64 a0_2) := (blk_cell BK260.out 2).trans rfl; have hfz15_0 := blk_frozen BK260.out 0; have hfz15_1 := blk_frozen BK260.out 1; have hfz15_2 := blk_frozen BK260.out 2; have p8 : 0 ≤ (a0_2 : Int) := of_decide_eq_true (by first | (with_reducible assumption) | assumption); have q8 : (a0_2 : Int) < ((y264.length : Int) : Int) := of_decide_eq_true (by first | (with_reducible assumption) | assumption); obtain ⟨go8, co8, eo8, gb8, gl8, cl8, HG8⟩ := Kd.R_form HO266.out (by omega); (first | cases eo8 | (injection eo8 with ea_ en_ ec_; (first | subst ea_ | (injection ea_ with ea_; subst ea_)); subst ec_; clear en_)); have GB8 := Aside0.mk gb8; have GG8 := Aside0.mk HG8; clear gb8 gl8 HG8; obtain ⟨hx8_0, hf8_0⟩ := Kd.R_celln false HO266.out (a0_2 : Int) p8 q8; replace p8 := eq_true p8; replace q8 := eq_true q8; obtain ⟨hy16_, hz16_⟩ := Kd.R_celln false HO266.out (a0_2 : Int) (of_decide_eq_true (by first | (with_reducible assumption) | assumption)) (of_decide_eq_true (by first | (with_reducible assumption) | assumption)); have HP16 := Kd.R_putg HO266.out (a0_2 : Int) true) | ((with_reducible refine gate_store (t := 4) (p := 22) rfl ?_); refine store_event (t := 4) (p := 22) (v := ?vo_w17) (w1 := (w13.setCell ⟨go8, (a0_2 : Int).toNat, none⟩ (.bool true))) ?hg ?ho ?hn ?hr ?_; (case ho => rfl); (case hg => rfl); (case hn => rfl); (case hr => first | (go_simp; done) | (go_simp; rfl)); intro w17 hw; have hg : w13.grownBy w17 (some go8) := (by rw [hw]; exact HP16.2); have hp_ : Kd.R Kd.bool 4 w17 w.heap.size (fun _ => True) (.slice (some ⟨go8, 0, none⟩) y264.length co8) y267 := (by rw [hw, Ny267.out]; exact HP16.1); clear HP16; have n0_ := Aside0.mk (blk_grown (g := gb260) (o := .cells #[.int .i64 a0_0, .slice A0_1 l0_1.length c0_1, .int .i64 a0_2] 24 (0, 0)) (by (with_reducible repeat (first | refine blk_drewN ?_ _ | refine blk_drew ?_ | refine blk_alloc ?_ _)); exact BK260.out) hg (Kd.R_ne HO266.out BK260.out (by decide))); have n1_ := Aside0.mk (Kd.R_over' (v := (.slice (some ⟨go8, 0, none⟩) y264.length co8)) (by (with_reducible repeat (first | apply Kd.R_alloc | apply Kd.R_drewN | apply Kd.R_drew)); exact HO263.out) (Kd.R_typed HO266.out) (by decide) hg); have n2_ := Aside0.mk (hp_); have n3_ := Aside0.mk ((by rw [hw]; exact below_set (HB.out) GB8.out : Below w.heap.size w w17)); clear BK260; clear HO263; clear HO266; clear HB; have BK260 := n0_; have HO263 := n1_; have HO266 := n2_; have HB := n3_; clear n0_ n1_ n2_ n3_; clear hg hw hp_; have hcz18_0 : w17.cell? ⟨gb260, 0, none⟩ = some (.int .i64 a0_0) := (blk_cell BK260.out 0).trans rfl; have hcz18_1 : w17.cell? ⟨gb260, 1, none⟩ = some (.slice A0_1 l0_1.length c0_1) := (blk_cell BK260.out 1).trans rfl; have hcz18_2 : w17.cell? ⟨gb260, 2, none⟩ = some (.int .i64 a0_2) := (blk_cell BK260.out 2).trans rfl; have hfz18_0 := blk_frozen BK260.out 0; have hfz18_1 := blk_frozen BK260.out 1; have hfz18_2 := blk_frozen BK260.out 2))
          go_loopg [7, 8] k (fun kq v7 v8 w' => ∃ (x6_1 : List Bool) (x7_1 : Int) (x8_1 : Int), v7 = .int .i64 x7_1 ∧ v8 = .int .i64 x8_1 ∧ Aside0 (pentaglotref28_First.l0 kq t261 x6_1 x7_1 x8_1 a0_0 l0_1 a0_2 = some r) ∧ Aside0 (kq ≤ k) ∧ Aside0 (Kd.R (Kd.int .i64) 3 w' w.heap.size (fun _ => True) v262 t261) ∧ Aside0 (Kd.R Kd.bool 4 w' w.heap.size (fun _ => True) (.slice (some ⟨go8, 0, none⟩) y264.length co8) x6_1) ∧ Aside0 (w'.heap[gb260]? = some (.cells #[.int .i64 a0_0, (.slice A0_1 l0_1.length c0_1), .int .i64 a0_2] 24 (0, 0))) ∧ Aside0 (Below w.heap.size w w'))
          case atStart => exact ⟨(y267), ((-1)), (a0_2), (by first | rfl | (simp; done) | (simp [*]; done)), (by first | rfl | (simp; done) | (simp [*]; done)), H', ⟨Nat.le_refl _⟩, ⟨by (with_reducible repeat (first | apply Kd.R_alloc | apply Kd.R_drewN | apply Kd.R_drew)); exact HO263.out⟩, ⟨by (with_reducible repeat (first | apply Kd.R_alloc | apply Kd.R_drewN | apply Kd.R_drew)); exact HO266.out⟩, ⟨by (with_reducible repeat (first | refine blk_drewN ?_ _ | refine blk_drew ?_ | refine blk_alloc ?_ _)); exact BK260.out⟩, ⟨by repeat (first | (with_reducible first | exact HB.out | apply below_alloc | apply pw_below_drewN | apply below_drew1 | refine below_set ?_ GE260.out) | exact HB.out)⟩⟩
          case round =>
            clear H'
            try clear c1
            try clear p2
            try clear c3
            try clear c4
            try clear c4b0
            try clear c4b1
            try clear c5
            try clear c5b0
            try clear c5b1
            try clear c6
            try clear c6b0
            try clear c7
            try clear c7b0
            try clear p8
            try clear q8
            try clear hx8
            try clear hf8
            try clear hcz10_0
            try clear hcz10_1
            try clear hcz10_2
            try clear hcz12_0
            try clear hcz12_1
            try clear hcz12_2
            try clear hcz15_0
            try clear hcz15_1
            try clear hcz15_2
            try clear hcz18_0
            try clear hcz18_1
            try clear hcz18_2
            try clear hfz10_0
            try clear hfz10_1
            try clear hfz10_2
            try clear hfz12_0
            try clear hfz12_1
            try clear hfz12_2
            try clear hfz15_0
            try clear hfz15_1
            try clear hfz15_2
            try clear hfz18_0
            try clear hfz18_1
            try clear hfz18_2
            try clear hx8_0
            try clear p8
            try clear q8
            obtain ⟨x6_1, x7_1, x8_1, rfl, rfl, HA, HK1, HO_5, HO_6, BK260, HB⟩ := hrel
            have hl6_1 := (Kd.R_reads' HO_6.out).1
            rw [hl6_1] at HO_6
            (try simp only [hl6_1])
            (try simp only [hl6_1] at BK260)
            (try simp only [hl6_1] at HO_5)
            cases gk with
            | zero => exact absurd HA.out (by simp [pentaglotref28_First.l0])
            | succ k1 =>
              have H := HA.out
              clear HA
              simp only [pentaglotref28_First.l0] at H
              by_cases c19 : x8_1 ≥ 0
              · rw [if_pos c19] at H
                have c19b0 : decide (0 ≤ x8_1) = true := decide_eq_true c19
                clear c19
                have HC20 := Aside0.mk H
                clear H
                go_upto_region 8 with (fail)
                go_cut [40] (fun v40 wc => ∃ (kq : Nat) (x40_19 : Bool), v40 = .bool x40_19 ∧ Aside0 (pentaglotref28_First.j1 kq t261 x6_1 x7_1 x8_1 x40_19 a0_0 l0_1 a0_2 = some r) ∧ Aside0 (kq ≤ k1) ∧ Aside0 (Kd.R (Kd.int .i64) 3 wc w.heap.size (fun _ => True) v262 t261) ∧ Aside0 (Kd.R Kd.bool 4 wc w.heap.size (fun _ => True) (.slice (some ⟨go8, 0, none⟩) x6_1.length co8) x6_1) ∧ Aside0 (wc.heap[gb260]? = some (.cells #[.int .i64 a0_0, (.slice A0_1 l0_1.length c0_1), .int .i64 a0_2] 24 (0, 0))) ∧ Aside0 (Below w.heap.size w wc))
                case first =>
                  have H := HC20.out
                  clear HC20
                  by_cases c21 : 0 ≤ x8_1
                  · rw [if_pos c21] at H
                    have c21b0 : decide (0 ≤ x8_1) = true := decide_eq_true c21
                    clear c21
                    (first | rw [c21b0] | (simp only [i64_w, i32_w]; rw [c21b0]) | skip)
                    by_cases c22 : x8_1 < (x6_1.length : Int)
                    · rw [if_pos c22] at H
                      have c22b0 : decide (x8_1 < (x6_1.length : Int)) = true := decide_eq_true c22
                      clear c22
                      obtain ⟨bq23, hbq23⟩ : ∃ b_ : Bool, b_ = (rdOf false x6_1 x8_1) := ⟨_, rfl⟩
                      replace H : (if bq23 = true then (if x8_1 < (t261.length : Int) then (pentaglotref28_First.j1 k1 t261 x6_1 x7_1 x8_1 ((rd t261 x8_1) != 2) a0_0 l0_1 a0_2) else (none)) else (pentaglotref28_First.j1 k1 t261 x6_1 x7_1 x8_1 true a0_0 l0_1 a0_2)) = some r := by rw [← hbq23] at H; exact H
                      have Nbq23 := Aside0.mk hbq23
                      clear hbq23
                      by_cases c24 : bq23 = true
                      · subst c24
                        have H1 : (if x8_1 < (t261.length : Int) then (pentaglotref28_First.j1 k1 t261 x6_1 x7_1 x8_1 ((rd t261 x8_1) != 2) a0_0 l0_1 a0_2) else (none)) = some r := by rw [if_pos rfl] at H; exact H
                        clear H
                        have H := H1
                        clear H1
                        by_cases c25 : x8_1 < (t261.length : Int)
                        · rw [if_pos c25] at H
                          have c25b0 : decide (x8_1 < (t261.length : Int)) = true := decide_eq_true c25
                          clear c25
                          have H' := Aside0.mk H
                          clear H
                          have p268 : 0 ≤ (x8_1 : Int) := of_decide_eq_true (by first | (with_reducible assumption) | assumption)
                          have q268 : x8_1 < (x6_1.length : Int) := of_decide_eq_true (by first | (with_reducible assumption) | assumption)
                          obtain ⟨ad268, e268, hx268_0⟩ := Kd.at_bool (Kd.R_reads' HO_6.out).2.2 x8_1 p268 q268
                          (try rw [← Nbq23.out] at hx268_0)
                          obtain rfl : (⟨go8, 0, none⟩ : Addr) = ad268 := (by injection e268)
                          (first | simp only [add_plain] at hx268_0 | simp only [add_at] at hx268_0 | simp only [Addr.add, Nat.zero_add] at hx268_0 | skip)
                          replace p268 := eq_true p268
                          replace q268 := eq_true q268
                          obtain ⟨Ao26, co26, eo26⟩ := Kd.R_slice HO_5.out
                          subst eo26
                          have p269 : 0 ≤ (x8_1 : Int) := of_decide_eq_true (by first | (with_reducible assumption) | assumption)
                          have q269 : x8_1 < (t261.length : Int) := of_decide_eq_true (by first | (with_reducible assumption) | assumption)
                          obtain ⟨ad269, e269, hx269_0⟩ := Kd.at_int (Kd.R_reads' HO_5.out).2.2 x8_1 p269 q269
                          cases e269
                          replace p269 := eq_true p269
                          replace q269 := eq_true q269
                          go_wp2
                          go_meet
                          case rel => exact ⟨_, (((rd t261 x8_1) != 2)), (by first | rfl | (simp; done) | (simp [*]; done)), H', ⟨by have := HK1.out; first | omega | exact Nat.le_refl _⟩, ⟨by (try simp only [hl6_1]); (with_reducible repeat (first | apply Kd.R_alloc | apply Kd.R_drewN | apply Kd.R_drew)); exact HO_5.out⟩, ⟨by (try simp only [hl6_1]); (with_reducible repeat (first | apply Kd.R_alloc | apply Kd.R_drewN | apply Kd.R_drew)); exact HO_6.out⟩, ⟨by (try simp only [hl6_1]); (with_reducible repeat (first | refine blk_drewN ?_ _ | refine blk_drew ?_ | refine blk_alloc ?_ _)); exact BK260.out⟩, ⟨by repeat (first | (with_reducible first | exact HB.out | apply below_alloc | apply pw_below_drewN | apply below_drew1 | refine below_set ?_ GE260.out) | exact HB.out)⟩⟩
                        · rw [if_neg c25] at H
                          exact absurd H (by simp)
                      · replace c24 := Bool.eq_false_iff.mpr c24
                        subst c24
                        have H1 : (pentaglotref28_First.j1 k1 t261 x6_1 x7_1 x8_1 true a0_0 l0_1 a0_2) = some r := by rw [if_neg (show ¬ (false = true) by decide)] at H; exact H
                        clear H
                        have H := H1
                        clear H1
                        have H' := Aside0.mk H
                        clear H
                        have p268 : 0 ≤ (x8_1 : Int) := of_decide_eq_true (by first | (with_reducible assumption) | assumption)
                        have q268 : x8_1 < (x6_1.length : Int) := of_decide_eq_true (by first | (with_reducible assumption) | assumption)
                        obtain ⟨ad268, e268, hx268_0⟩ := Kd.at_bool (Kd.R_reads' HO_6.out).2.2 x8_1 p268 q268
                        (try rw [← Nbq23.out] at hx268_0)
                        obtain rfl : (⟨go8, 0, none⟩ : Addr) = ad268 := (by injection e268)
                        (first | simp only [add_plain] at hx268_0 | simp only [add_at] at hx268_0 | simp only [Addr.add, Nat.zero_add] at hx268_0 | skip)
                        replace p268 := eq_true p268
                        replace q268 := eq_true q268
                        go_wp2
                        go_meet
                        case rel => exact ⟨_, (true), (by first | rfl | (simp; done) | (simp [*]; done)), H', ⟨by have := HK1.out; first | omega | exact Nat.le_refl _⟩, ⟨by (try simp only [hl6_1]); (with_reducible repeat (first | apply Kd.R_alloc | apply Kd.R_drewN | apply Kd.R_drew)); exact HO_5.out⟩, ⟨by (try simp only [hl6_1]); (with_reducible repeat (first | apply Kd.R_alloc | apply Kd.R_drewN | apply Kd.R_drew)); exact HO_6.out⟩, ⟨by (try simp only [hl6_1]); (with_reducible repeat (first | refine blk_drewN ?_ _ | refine blk_drew ?_ | refine blk_alloc ?_ _)); exact BK260.out⟩, ⟨by repeat (first | (with_reducible first | exact HB.out | apply below_alloc | apply pw_below_drewN | apply below_drew1 | refine below_set ?_ GE260.out) | exact HB.out)⟩⟩
                    · rw [if_neg c22] at H
                      exact absurd H (by simp)
                  · rw [if_neg c21] at H
                    exact absurd H (by simp)
                case rest =>
                  clear HC20
                  try clear c1
                  try clear c2
                  try clear p2
                  try clear q2
                  try clear hx2
                  try clear c3
                  try clear c4
                  try clear c4b0
                  try clear c4b1
                  try clear c5
                  try clear c5b0
                  try clear c5b1
                  try clear c6
                  try clear c6b0
                  try clear c7
                  try clear c7b0
                  try clear p8
                  try clear q8
                  try clear hx8
                  try clear hf8
                  try clear c19
                  try clear c19b0
                  try clear c21
                  try clear c21b0
                  try clear c22
                  try clear c22b0
                  try clear q23
                  try clear c24
                  try clear c25
                  try clear c25b0
                  try clear p26
                  try clear q26
                  try clear hx26
                  try clear hcz10_0
                  try clear hcz10_1
                  try clear hcz10_2
                  try clear hcz12_0
                  try clear hcz12_1
                  try clear hcz12_2
                  try clear hcz15_0
                  try clear hcz15_1
                  try clear hcz15_2
                  try clear hcz18_0
                  try clear hcz18_1
                  try clear hcz18_2
                  try clear hfz10_0
                  try clear hfz10_1
                  try clear hfz10_2
                  try clear hfz12_0
                  try clear hfz12_1
                  try clear hfz12_2
                  try clear hfz15_0
                  try clear hfz15_1
                  try clear hfz15_2
                  try clear hfz18_0
                  try clear hfz18_1
                  try clear hfz18_2
                  try clear hx268_0
                  try clear hx269_0
                  try clear hx8_0
                  try clear p2
                  try clear p268
                  try clear p269
                  try clear p8
                  try clear q268
                  try clear q269
                  try clear q8
                  obtain ⟨kq, x40_19, rfl, HA, HJ19, HO_5, HO_6, BK260, HB⟩ := hcut
                  cases kq with
                  | zero => exact absurd HA.out (by simp [pentaglotref28_First.j1])
                  | succ kj19 =>
                    have H := HA.out
                    clear HA
                    simp only [pentaglotref28_First.j1] at H
                    by_cases c27 : x40_19 = true
                    · subst c27
                      have H1 : (pentaglotref28_First.l0 kj19 t261 x6_1 x7_1 (wrap64 (x8_1 - 1)) a0_0 l0_1 a0_2) = some r := by rw [if_pos rfl] at H; exact H
                      clear H
                      have H := H1
                      clear H1
                      have H' := Aside0.mk H
                      clear H
                      go_wp2
                      (try simp only [← hl6_1])
                      go_roundg kj19
                      case measure => have := HK1.out; have := HJ19.out; omega
                      case rel => exact ⟨(x6_1), (x7_1), (wrap64 (x8_1 - 1)), (by first | rfl | (simp; done) | (simp [*]; done)), (by first | rfl | (simp; done) | (simp [*]; done)), H', ⟨by have := HK1.out; have := HJ19.out; omega⟩, ⟨by (try simp only [hl6_1]); (with_reducible repeat (first | apply Kd.R_alloc | apply Kd.R_drewN | apply Kd.R_drew)); exact HO_5.out⟩, ⟨by (try simp only [hl6_1]); (with_reducible repeat (first | apply Kd.R_alloc | apply Kd.R_drewN | apply Kd.R_drew)); exact HO_6.out⟩, ⟨by (try simp only [hl6_1]); (with_reducible repeat (first | refine blk_drewN ?_ _ | refine blk_drew ?_ | refine blk_alloc ?_ _)); exact BK260.out⟩, ⟨by repeat (first | (with_reducible first | exact HB.out | apply below_alloc | apply pw_below_drewN | apply below_drew1 | refine below_set ?_ GE260.out) | exact HB.out)⟩⟩
                    · replace c27 := Bool.eq_false_iff.mpr c27
                      subst c27
                      have H1 : (if 0 ≤ x8_1 then (if x8_1 < (l0_1.length : Int) then (if ((rd_T52 l0_1 x8_1).f0) = 3 then (if x7_1 < 0 then (pentaglotref28_First.j2 kj19 t261 x6_1 x7_1 x8_1 true a0_0 l0_1 a0_2 ((rd_T52 l0_1 x8_1).f0) ((rd_T52 l0_1 x8_1).f1) ((rd_T52 l0_1 x8_1).f2)) else (pentaglotref28_First.j2 kj19 t261 x6_1 x7_1 x8_1 (decide (((rd_T52 l0_1 x8_1).f1) < x7_1)) a0_0 l0_1 a0_2 ((rd_T52 l0_1 x8_1).f0) ((rd_T52 l0_1 x8_1).f1) ((rd_T52 l0_1 x8_1).f2))) else (pentaglotref28_First.j2 kj19 t261 x6_1 x7_1 x8_1 false a0_0 l0_1 a0_2 ((rd_T52 l0_1 x8_1).f0) ((rd_T52 l0_1 x8_1).f1) ((rd_T52 l0_1 x8_1).f2))) else (none)) else (none)) = some r := by rw [if_neg (show ¬ (false = true) by decide)] at H; exact H
                      clear H
                      have H := H1
                      clear H1
                      by_cases c28 : 0 ≤ x8_1
                      · rw [if_pos c28] at H
                        have c28b0 : decide (0 ≤ x8_1) = true := decide_eq_true c28
                        clear c28
                        by_cases c29 : x8_1 < (l0_1.length : Int)
                        · rw [if_pos c29] at H
                          have c29b0 : decide (x8_1 < (l0_1.length : Int)) = true := decide_eq_true c29
                          clear c29
                          have HC30 := Aside0.mk H
                          clear H
                          have hcz31_0 : wc.cell? ⟨gb260, 0, none⟩ = some (.int .i64 a0_0) := (blk_cell BK260.out 0).trans rfl
                          have hcz31_1 : wc.cell? ⟨gb260, 1, none⟩ = some (.slice A0_1 l0_1.length c0_1) := (blk_cell BK260.out 1).trans rfl
                          have hcz31_2 : wc.cell? ⟨gb260, 2, none⟩ = some (.int .i64 a0_2) := (blk_cell BK260.out 2).trans rfl
                          have hfz31_0 := blk_frozen BK260.out 0
                          have hfz31_1 := blk_frozen BK260.out 1
                          have hfz31_2 := blk_frozen BK260.out 2
                          have p270 : 0 ≤ (x8_1 : Int) := of_decide_eq_true (by first | (with_reducible assumption) | assumption)
                          have q270 : x8_1 < (l0_1.length : Int) := of_decide_eq_true (by first | (with_reducible assumption) | assumption)
                          obtain ⟨ad270, A270_2, c270_2, e270, hx270_0, hx270_1, hx270_2, hl270_2, hi270_2⟩ := at_T52 HR0_1.out x8_1 p270 q270
                          cases e270
                          replace hx270_0 := (HB.out.cell (World.block_lt_of_cell? w _ hx270_0)).trans hx270_0
                          replace hx270_1 := (HB.out.cell (World.block_lt_of_cell? w _ hx270_1)).trans hx270_1
                          replace hx270_2 := (HB.out.cell (World.block_lt_of_cell? w _ hx270_2)).trans hx270_2
                          have HR270_2 := Aside0.mk hi270_2
                          have HC270_2 := Aside0.mk hl270_2
                          clear hi270_2 hl270_2
                          replace p270 := eq_true p270
                          replace q270 := eq_true q270
                          go_upto_region 10 with (first | ((with_reducible refine gate_dst (N := 9) rfl ?_); refine box_event ?hg (N := 9) ?hd (cs := #[.int .i64 0, .int .i64 0, .slice none 0 0]) (t := 52) ?hr ?_; (case hd => rfl); (case hg => rfl); (case hr => first | (go_simp; done) | (go_simp; rfl)); intro gb271 hg w32 hbox hb; have n0_ := Aside0.mk (Kd.R_below (by (with_reducible repeat (first | apply Kd.R_alloc | apply Kd.R_drewN | apply Kd.R_drew)); exact HO_5.out) hb); have n1_ := Aside0.mk (Kd.R_below (by (with_reducible repeat (first | apply Kd.R_alloc | apply Kd.R_drewN | apply Kd.R_drew)); exact HO_6.out) hb); have n2_ := Aside0.mk (blk_below (g := gb260) (o := .cells #[.int .i64 a0_0, .slice (some ad270) l0_1.length c0_1, .int .i64 a0_2] 24 (0, 0)) (by (with_reducible repeat (first | refine blk_drewN ?_ _ | refine blk_drew ?_ | refine blk_alloc ?_ _)); exact BK260.out) hb); have n3_ := Aside0.mk (below_step (by repeat (first | (with_reducible first | exact HB.out | apply below_alloc | apply pw_below_drewN | apply below_drew1 | refine below_set ?_ GE260.out) | exact HB.out)) hb); have n4_ := Aside0.mk (hbox); have n5_ := Aside0.mk ((by rw [hg]; exact (below_size (by repeat (first | (with_reducible first | exact HB.out | apply below_alloc | apply pw_below_drewN | apply below_drew1 | refine below_set ?_ GE260.out) | exact HB.out))) : w.heap.size ≤ gb271)); have n6_ := Aside0.mk ((by rw [hg]; exact (below_size (by repeat (first | (with_reducible first | exact HB.out | apply below_alloc | apply pw_below_drewN | apply below_drew1 | refine below_set ?_ GE260.out) | exact HB.out))) : w.heap.size ≤ gb271)); have n7_ := Aside0.mk ((by rw [hg]; exact Nat.ne_of_lt (blk_lt (g := gb260) (o := .cells #[.int .i64 a0_0, .slice (some ad270) l0_1.length c0_1, .int .i64 a0_2] 24 (0, 0)) (by (with_reducible repeat (first | refine blk_drewN ?_ _ | refine blk_drew ?_ | refine blk_alloc ?_ _)); exact BK260.out)) : gb260 ≠ gb271)); have n8_ := Aside0.mk ((by rw [hg]; exact Nat.ne_of_gt (blk_lt (g := gb260) (o := .cells #[.int .i64 a0_0, .slice (some ad270) l0_1.length c0_1, .int .i64 a0_2] 24 (0, 0)) (by (with_reducible repeat (first | refine blk_drewN ?_ _ | refine blk_drew ?_ | refine blk_alloc ?_ _)); exact BK260.out)) : gb271 ≠ gb260)); clear HO_5; clear HO_6; clear BK260; clear HB; have HO_5 := n0_; have HO_6 := n1_; have BK260 := n2_; have HB := n3_; have BK271 := n4_; have GW271 := n5_; have GE271 := n6_; have NB260_271 := n7_; have NB271_260 := n8_; clear n0_ n1_ n2_ n3_ n4_ n5_ n6_ n7_ n8_; clear hb hbox hg; have hnb33 := NB271_260.out; have hnc33 := NB260_271.out; have hcz34_0 : w32.cell? ⟨gb271, 0, none⟩ = some (.int .i64 0) := (blk_cell BK271.out 0).trans rfl; have hcz34_1 : w32.cell? ⟨gb271, 1, none⟩ = some (.int .i64 0) := (blk_cell BK271.out 1).trans rfl; have hcz34_2 : w32.cell? ⟨gb271, 2, none⟩ = some (.slice none 0 0) := (blk_cell BK271.out 2).trans rfl; have hfz34_0 := blk_frozen BK271.out 0; have hfz34_1 := blk_frozen BK271.out 1; have hfz34_2 := blk_frozen BK271.out 2))
                          (try simp only [Act.put, List.setIfInBounds_toArray, List.set_cons_zero, List.set_cons_succ])
                          go_cut [58] (fun v58 wc => ∃ (kq : Nat) (x58_29 : Bool), v58 = .bool x58_29 ∧ Aside0 (pentaglotref28_First.j2 kq t261 x6_1 x7_1 x8_1 x58_29 a0_0 l0_1 a0_2 ((rd_T52 l0_1 x8_1).f0) ((rd_T52 l0_1 x8_1).f1) ((rd_T52 l0_1 x8_1).f2) = some r) ∧ Aside0 (kq ≤ kj19) ∧ Aside0 (Kd.R (Kd.int .i64) 3 wc w.heap.size (fun _ => True) v262 t261) ∧ Aside0 (Kd.R Kd.bool 4 wc w.heap.size (fun _ => True) (.slice (some ⟨go8, 0, none⟩) x6_1.length co8) x6_1) ∧ Aside0 (wc.heap[gb260]? = some (.cells #[.int .i64 a0_0, (.slice (some ad270) l0_1.length c0_1), .int .i64 a0_2] 24 (0, 0))) ∧ Aside0 (wc.heap[gb271]? = some (.cells #[.int .i64 ((rd_T52 l0_1 x8_1).f0), .int .i64 ((rd_T52 l0_1 x8_1).f1), (.slice A270_2 ((rd_T52 l0_1 x8_1).f2).length c270_2)] 52 (0, 0))) ∧ Aside0 (Below w.heap.size w wc))
                          case first =>
                            have H := HC30.out
                            clear HC30
                            by_cases c35 : ((rd_T52 l0_1 x8_1).f0) = 3
                            · rw [if_pos c35] at H
                              have c35b0 : (((rd_T52 l0_1 x8_1).f0) == 3) = true := beq_iff_eq.mpr c35
                              have c35b1 : (((rd_T52 l0_1 x8_1).f0) != 3) = false := bne_eq_false_iff_eq.mpr c35
                              clear c35
                              (first | rw [c35b0] | (simp only [i64_w, i32_w]; rw [c35b0]) | skip)
                              by_cases c36 : x7_1 < 0
                              · rw [if_pos c36] at H
                                have c36b0 : decide (x7_1 < 0) = true := decide_eq_true c36
                                clear c36
                                have H' := Aside0.mk H
                                clear H
                                have hnb37 := NB271_260.out
                                have hnc37 := NB260_271.out
                                have hcz38_0 : w32.cell? ⟨gb271, 0, none⟩ = some (.int .i64 0) := (blk_cell BK271.out 0).trans rfl
                                have hcz38_1 : w32.cell? ⟨gb271, 1, none⟩ = some (.int .i64 0) := (blk_cell BK271.out 1).trans rfl
                                have hcz38_2 : w32.cell? ⟨gb271, 2, none⟩ = some (.slice none 0 0) := (blk_cell BK271.out 2).trans rfl
                                have hfz38_0 := blk_frozen BK271.out 0
                                have hfz38_1 := blk_frozen BK271.out 1
                                have hfz38_2 := blk_frozen BK271.out 2
                                go_wp2
                                go_meet
                                case rel => exact ⟨_, (true), (by first | rfl | (simp; done) | (simp [*]; done)), H', ⟨by have := HK1.out; have := HJ19.out; first | omega | exact Nat.le_refl _⟩, ⟨by (try simp only [hl6_1]); (with_reducible repeat (first | apply Kd.R_alloc | apply Kd.R_drewN | apply Kd.R_drew)); exact Kd.R_mono (Kd.R_far (p := ⟨gb271, 2, none⟩) (Kd.R_far (p := ⟨gb271, 1, none⟩) (Kd.R_far (p := ⟨gb271, 0, none⟩) (Kd.R_types HO_5.out BK271.out (by decide)) (fun _ hk => hk.2) (.int .i64 ((rd_T52 l0_1 x8_1).f0))) (fun _ hk => hk.2) (.int .i64 ((rd_T52 l0_1 x8_1).f1))) (fun _ hk => hk.2) (.slice A270_2 ((rd_T52 l0_1 x8_1).f2).length c270_2)) (fun _ hk => trivial)⟩, ⟨by (try simp only [hl6_1]); (with_reducible repeat (first | apply Kd.R_alloc | apply Kd.R_drewN | apply Kd.R_drew)); exact Kd.R_mono (Kd.R_far (p := ⟨gb271, 2, none⟩) (Kd.R_far (p := ⟨gb271, 1, none⟩) (Kd.R_far (p := ⟨gb271, 0, none⟩) (Kd.R_types HO_6.out BK271.out (by decide)) (fun _ hk => hk.2) (.int .i64 ((rd_T52 l0_1 x8_1).f0))) (fun _ hk => hk.2) (.int .i64 ((rd_T52 l0_1 x8_1).f1))) (fun _ hk => hk.2) (.slice A270_2 ((rd_T52 l0_1 x8_1).f2).length c270_2)) (fun _ hk => trivial)⟩, ⟨by (try simp only [hl6_1]); (with_reducible repeat (first | refine blk_drewN ?_ _ | refine blk_drew ?_ | refine blk_alloc ?_ _)); refine blk_far ?_ NB260_271.out _; (with_reducible repeat (first | refine blk_drewN ?_ _ | refine blk_drew ?_ | refine blk_alloc ?_ _)); refine blk_far ?_ NB260_271.out _; (with_reducible repeat (first | refine blk_drewN ?_ _ | refine blk_drew ?_ | refine blk_alloc ?_ _)); refine blk_far ?_ NB260_271.out _; (with_reducible repeat (first | refine blk_drewN ?_ _ | refine blk_drew ?_ | refine blk_alloc ?_ _)); exact BK260.out⟩, ⟨by (try simp only [hl6_1]); (with_reducible repeat (first | refine blk_drewN ?_ _ | refine blk_drew ?_ | refine blk_alloc ?_ _)); refine blk_put (cs := #[.int .i64 ((rd_T52 l0_1 x8_1).f0), .int .i64 ((rd_T52 l0_1 x8_1).f1), .slice none 0 0]) ?_ 2 _ rfl; (with_reducible repeat (first | refine blk_drewN ?_ _ | refine blk_drew ?_ | refine blk_alloc ?_ _)); refine blk_put (cs := #[.int .i64 ((rd_T52 l0_1 x8_1).f0), .int .i64 0, .slice none 0 0]) ?_ 1 _ rfl; (with_reducible repeat (first | refine blk_drewN ?_ _ | refine blk_drew ?_ | refine blk_alloc ?_ _)); refine blk_put (cs := #[.int .i64 0, .int .i64 0, .slice none 0 0]) ?_ 0 _ rfl; (with_reducible repeat (first | refine blk_drewN ?_ _ | refine blk_drew ?_ | refine blk_alloc ?_ _)); exact BK271.out⟩, ⟨by repeat (first | (with_reducible first | exact HB.out | apply below_alloc | apply pw_below_drewN | apply below_drew1 | refine below_set ?_ GE260.out | refine below_set ?_ GE271.out) | exact HB.out)⟩⟩
                              · rw [if_neg c36] at H
                                have c36b0 : decide (x7_1 < 0) = false := decide_eq_false c36
                                clear c36
                                have H' := Aside0.mk H
                                clear H
                                have hnb39 := NB271_260.out
                                have hnc39 := NB260_271.out
                                have hcz40_0 : w32.cell? ⟨gb271, 0, none⟩ = some (.int .i64 0) := (blk_cell BK271.out 0).trans rfl
                                have hcz40_1 : w32.cell? ⟨gb271, 1, none⟩ = some (.int .i64 0) := (blk_cell BK271.out 1).trans rfl
                                have hcz40_2 : w32.cell? ⟨gb271, 2, none⟩ = some (.slice none 0 0) := (blk_cell BK271.out 2).trans rfl
                                have hfz40_0 := blk_frozen BK271.out 0
                                have hfz40_1 := blk_frozen BK271.out 1
                                have hfz40_2 := blk_frozen BK271.out 2
                                go_wp2
                                go_meet
                                case rel => exact ⟨_, (decide (((rd_T52 l0_1 x8_1).f1) < x7_1)), (by first | rfl | (simp; done) | (simp [*]; done)), H', ⟨by have := HK1.out; have := HJ19.out; first | omega | exact Nat.le_refl _⟩, ⟨by (try simp only [hl6_1]); (with_reducible repeat (first | apply Kd.R_alloc | apply Kd.R_drewN | apply Kd.R_drew)); exact Kd.R_mono (Kd.R_far (p := ⟨gb271, 2, none⟩) (Kd.R_far (p := ⟨gb271, 1, none⟩) (Kd.R_far (p := ⟨gb271, 0, none⟩) (Kd.R_types HO_5.out BK271.out (by decide)) (fun _ hk => hk.2) (.int .i64 ((rd_T52 l0_1 x8_1).f0))) (fun _ hk => hk.2) (.int .i64 ((rd_T52 l0_1 x8_1).f1))) (fun _ hk => hk.2) (.slice A270_2 ((rd_T52 l0_1 x8_1).f2).length c270_2)) (fun _ hk => trivial)⟩, ⟨by (try simp only [hl6_1]); (with_reducible repeat (first | apply Kd.R_alloc | apply Kd.R_drewN | apply Kd.R_drew)); exact Kd.R_mono (Kd.R_far (p := ⟨gb271, 2, none⟩) (Kd.R_far (p := ⟨gb271, 1, none⟩) (Kd.R_far (p := ⟨gb271, 0, none⟩) (Kd.R_types HO_6.out BK271.out (by decide)) (fun _ hk => hk.2) (.int .i64 ((rd_T52 l0_1 x8_1).f0))) (fun _ hk => hk.2) (.int .i64 ((rd_T52 l0_1 x8_1).f1))) (fun _ hk => hk.2) (.slice A270_2 ((rd_T52 l0_1 x8_1).f2).length c270_2)) (fun _ hk => trivial)⟩, ⟨by (try simp only [hl6_1]); (with_reducible repeat (first | refine blk_drewN ?_ _ | refine blk_drew ?_ | refine blk_alloc ?_ _)); refine blk_far ?_ NB260_271.out _; (with_reducible repeat (first | refine blk_drewN ?_ _ | refine blk_drew ?_ | refine blk_alloc ?_ _)); refine blk_far ?_ NB260_271.out _; (with_reducible repeat (first | refine blk_drewN ?_ _ | refine blk_drew ?_ | refine blk_alloc ?_ _)); refine blk_far ?_ NB260_271.out _; (with_reducible repeat (first | refine blk_drewN ?_ _ | refine blk_drew ?_ | refine blk_alloc ?_ _)); exact BK260.out⟩, ⟨by (try simp only [hl6_1]); (with_reducible repeat (first | refine blk_drewN ?_ _ | refine blk_drew ?_ | refine blk_alloc ?_ _)); refine blk_put (cs := #[.int .i64 ((rd_T52 l0_1 x8_1).f0), .int .i64 ((rd_T52 l0_1 x8_1).f1), .slice none 0 0]) ?_ 2 _ rfl; (with_reducible repeat (first | refine blk_drewN ?_ _ | refine blk_drew ?_ | refine blk_alloc ?_ _)); refine blk_put (cs := #[.int .i64 ((rd_T52 l0_1 x8_1).f0), .int .i64 0, .slice none 0 0]) ?_ 1 _ rfl; (with_reducible repeat (first | refine blk_drewN ?_ _ | refine blk_drew ?_ | refine blk_alloc ?_ _)); refine blk_put (cs := #[.int .i64 0, .int .i64 0, .slice none 0 0]) ?_ 0 _ rfl; (with_reducible repeat (first | refine blk_drewN ?_ _ | refine blk_drew ?_ | refine blk_alloc ?_ _)); exact BK271.out⟩, ⟨by repeat (first | (with_reducible first | exact HB.out | apply below_alloc | apply pw_below_drewN | apply below_drew1 | refine below_set ?_ GE260.out | refine below_set ?_ GE271.out) | exact HB.out)⟩⟩
                            · rw [if_neg c35] at H
                              have c35b0 : (((rd_T52 l0_1 x8_1).f0) == 3) = false := beq_eq_false_iff_ne.mpr c35
                              have c35b1 : (((rd_T52 l0_1 x8_1).f0) != 3) = true := bne_iff_ne.mpr c35
                              (first | rw [c35b0] | (simp only [i64_w, i32_w]; rw [c35b0]) | skip)
                              have H' := Aside0.mk H
                              clear H
                              have hnb41 := NB271_260.out
                              have hnc41 := NB260_271.out
                              have hcz42_0 : w32.cell? ⟨gb271, 0, none⟩ = some (.int .i64 0) := (blk_cell BK271.out 0).trans rfl
                              have hcz42_1 : w32.cell? ⟨gb271, 1, none⟩ = some (.int .i64 0) := (blk_cell BK271.out 1).trans rfl
                              have hcz42_2 : w32.cell? ⟨gb271, 2, none⟩ = some (.slice none 0 0) := (blk_cell BK271.out 2).trans rfl
                              have hfz42_0 := blk_frozen BK271.out 0
                              have hfz42_1 := blk_frozen BK271.out 1
                              have hfz42_2 := blk_frozen BK271.out 2
                              go_wp2
                              go_meet
                              case rel => exact ⟨_, (false), (by first | rfl | (simp; done) | (simp [*]; done)), H', ⟨by have := HK1.out; have := HJ19.out; first | omega | exact Nat.le_refl _⟩, ⟨by (try simp only [hl6_1]); (with_reducible repeat (first | apply Kd.R_alloc | apply Kd.R_drewN | apply Kd.R_drew)); exact Kd.R_mono (Kd.R_far (p := ⟨gb271, 2, none⟩) (Kd.R_far (p := ⟨gb271, 1, none⟩) (Kd.R_far (p := ⟨gb271, 0, none⟩) (Kd.R_types HO_5.out BK271.out (by decide)) (fun _ hk => hk.2) (.int .i64 ((rd_T52 l0_1 x8_1).f0))) (fun _ hk => hk.2) (.int .i64 ((rd_T52 l0_1 x8_1).f1))) (fun _ hk => hk.2) (.slice A270_2 ((rd_T52 l0_1 x8_1).f2).length c270_2)) (fun _ hk => trivial)⟩, ⟨by (try simp only [hl6_1]); (with_reducible repeat (first | apply Kd.R_alloc | apply Kd.R_drewN | apply Kd.R_drew)); exact Kd.R_mono (Kd.R_far (p := ⟨gb271, 2, none⟩) (Kd.R_far (p := ⟨gb271, 1, none⟩) (Kd.R_far (p := ⟨gb271, 0, none⟩) (Kd.R_types HO_6.out BK271.out (by decide)) (fun _ hk => hk.2) (.int .i64 ((rd_T52 l0_1 x8_1).f0))) (fun _ hk => hk.2) (.int .i64 ((rd_T52 l0_1 x8_1).f1))) (fun _ hk => hk.2) (.slice A270_2 ((rd_T52 l0_1 x8_1).f2).length c270_2)) (fun _ hk => trivial)⟩, ⟨by (try simp only [hl6_1]); (with_reducible repeat (first | refine blk_drewN ?_ _ | refine blk_drew ?_ | refine blk_alloc ?_ _)); refine blk_far ?_ NB260_271.out _; (with_reducible repeat (first | refine blk_drewN ?_ _ | refine blk_drew ?_ | refine blk_alloc ?_ _)); refine blk_far ?_ NB260_271.out _; (with_reducible repeat (first | refine blk_drewN ?_ _ | refine blk_drew ?_ | refine blk_alloc ?_ _)); refine blk_far ?_ NB260_271.out _; (with_reducible repeat (first | refine blk_drewN ?_ _ | refine blk_drew ?_ | refine blk_alloc ?_ _)); exact BK260.out⟩, ⟨by (try simp only [hl6_1]); (with_reducible repeat (first | refine blk_drewN ?_ _ | refine blk_drew ?_ | refine blk_alloc ?_ _)); refine blk_put (cs := #[.int .i64 ((rd_T52 l0_1 x8_1).f0), .int .i64 ((rd_T52 l0_1 x8_1).f1), .slice none 0 0]) ?_ 2 _ rfl; (with_reducible repeat (first | refine blk_drewN ?_ _ | refine blk_drew ?_ | refine blk_alloc ?_ _)); refine blk_put (cs := #[.int .i64 ((rd_T52 l0_1 x8_1).f0), .int .i64 0, .slice none 0 0]) ?_ 1 _ rfl; (with_reducible repeat (first | refine blk_drewN ?_ _ | refine blk_drew ?_ | refine blk_alloc ?_ _)); refine blk_put (cs := #[.int .i64 0, .int .i64 0, .slice none 0 0]) ?_ 0 _ rfl; (with_reducible repeat (first | refine blk_drewN ?_ _ | refine blk_drew ?_ | refine blk_alloc ?_ _)); exact BK271.out⟩, ⟨by repeat (first | (with_reducible first | exact HB.out | apply below_alloc | apply pw_below_drewN | apply below_drew1 | refine below_set ?_ GE260.out | refine below_set ?_ GE271.out) | exact HB.out)⟩⟩
                          case rest =>
                            clear HC30
                            try clear c1
                            try clear c2
                            try clear p2
                            try clear q2
                            try clear hx2
                            try clear c3
                            try clear c4
                            try clear c4b0
                            try clear c4b1
                            try clear c5
                            try clear c5b0
                            try clear c5b1
                            try clear c6
                            try clear c6b0
                            try clear p6
                            try clear c7
                            try clear c7b0
                            try clear p8
                            try clear q8
                            try clear hx8
                            try clear hf8
                            try clear c19
                            try clear c19b0
                            try clear c21
                            try clear c21b0
                            try clear c22
                            try clear c22b0
                            try clear q23
                            try clear c24
                            try clear c25
                            try clear c25b0
                            try clear p26
                            try clear q26
                            try clear hx26
                            try clear c27
                            try clear p27
                            try clear q27
                            try clear hx27
                            try clear c28
                            try clear c28b0
                            try clear c29
                            try clear c29b0
                            try clear c33
                            try clear c35
                            try clear c35b0
                            try clear c35b1
                            try clear c36
                            try clear c36b0
                            try clear c37
                            try clear c39
                            try clear c41
                            try clear hcz10_0
                            try clear hcz10_1
                            try clear hcz10_2
                            try clear hcz12_0
                            try clear hcz12_1
                            try clear hcz12_2
                            try clear hcz15_0
                            try clear hcz15_1
                            try clear hcz15_2
                            try clear hcz18_0
                            try clear hcz18_1
                            try clear hcz18_2
                            try clear hcz31_0
                            try clear hcz31_1
                            try clear hcz31_2
                            try clear hcz34_0
                            try clear hcz34_1
                            try clear hcz34_2
                            try clear hcz38_0
                            try clear hcz38_1
                            try clear hcz38_2
                            try clear hcz40_0
                            try clear hcz40_1
                            try clear hcz40_2
                            try clear hcz42_0
                            try clear hcz42_1
                            try clear hcz42_2
                            try clear hfz10_0
                            try clear hfz10_1
                            try clear hfz10_2
                            try clear hfz12_0
                            try clear hfz12_1
                            try clear hfz12_2
                            try clear hfz15_0
                            try clear hfz15_1
                            try clear hfz15_2
                            try clear hfz18_0
                            try clear hfz18_1
                            try clear hfz18_2
                            try clear hfz31_0
                            try clear hfz31_1
                            try clear hfz31_2
                            try clear hfz34_0
                            try clear hfz34_1
                            try clear hfz34_2
                            try clear hfz38_0
                            try clear hfz38_1
                            try clear hfz38_2
                            try clear hfz40_0
                            try clear hfz40_1
                            try clear hfz40_2
                            try clear hfz42_0
                            try clear hfz42_1
                            try clear hfz42_2
                            try clear hx268_0
                            try clear hx269_0
                            try clear hx270_0
                            try clear hx270_1
                            try clear hx270_2
                            try clear hx8_0
                            try clear p2
                            try clear p26
                            try clear p268
                            try clear p269
                            try clear p270
                            try clear p8
                            try clear q2
                            try clear q23
                            try clear q26
                            try clear q268
                            try clear q269
                            try clear q270
                            try clear q8
                            obtain ⟨kq, x58_29, rfl, HA, HJ29, HO_5, HO_6, BK260, BK271, HB⟩ := hcut
                            cases kq with
                            | zero => exact absurd HA.out (by simp [pentaglotref28_First.j2])
                            | succ kj29 =>
                              have H := HA.out
                              clear HA
                              simp only [pentaglotref28_First.j2] at H
                              have HC43 := Aside0.mk H
                              clear H
                              go_upto_if 58 with (fail)
                              go_cut [7] (fun v7 wc => ∃ (kq : Nat) (x7_42 : Int), v7 = .int .i64 x7_42 ∧ Aside0 (pentaglotref28_First.j3 kq t261 x6_1 x7_42 x8_1 a0_0 l0_1 a0_2 ((rd_T52 l0_1 x8_1).f0) ((rd_T52 l0_1 x8_1).f1) ((rd_T52 l0_1 x8_1).f2) = some r) ∧ Aside0 (kq ≤ kj29) ∧ Aside0 (Kd.R (Kd.int .i64) 3 wc w.heap.size (fun _ => True) v262 t261) ∧ Aside0 (Kd.R Kd.bool 4 wc w.heap.size (fun _ => True) (.slice (some ⟨go8, 0, none⟩) x6_1.length co8) x6_1) ∧ Aside0 (wc.heap[gb260]? = some (.cells #[.int .i64 a0_0, (.slice (some ad270) l0_1.length c0_1), .int .i64 a0_2] 24 (0, 0))) ∧ Aside0 (wc.heap[gb271]? = some (.cells #[.int .i64 ((rd_T52 l0_1 x8_1).f0), .int .i64 ((rd_T52 l0_1 x8_1).f1), (.slice A270_2 ((rd_T52 l0_1 x8_1).f2).length c270_2)] 52 (0, 0))) ∧ Aside0 (Below w.heap.size w wc))
                              case first =>
                                have H := HC43.out
                                clear HC43
                                by_cases c44 : x58_29 = true
                                · subst c44
                                  have H1 : (pentaglotref28_First.j3 kj29 t261 x6_1 ((rd_T52 l0_1 x8_1).f1) x8_1 a0_0 l0_1 a0_2 ((rd_T52 l0_1 x8_1).f0) ((rd_T52 l0_1 x8_1).f1) ((rd_T52 l0_1 x8_1).f2)) = some r := by rw [if_pos rfl] at H; exact H
                                  clear H
                                  have H := H1
                                  clear H1
                                  have H' := Aside0.mk H
                                  clear H
                                  have hnb45 := NB271_260.out
                                  have hnc45 := NB260_271.out
                                  have hcz46_0 : wc.cell? ⟨gb271, 0, none⟩ = some (.int .i64 ((rd_T52 l0_1 x8_1).f0)) := (blk_cell BK271.out 0).trans rfl
                                  have hcz46_1 : wc.cell? ⟨gb271, 1, none⟩ = some (.int .i64 ((rd_T52 l0_1 x8_1).f1)) := (blk_cell BK271.out 1).trans rfl
                                  have hcz46_2 : wc.cell? ⟨gb271, 2, none⟩ = some (.slice A270_2 ((rd_T52 l0_1 x8_1).f2).length c270_2) := (blk_cell BK271.out 2).trans rfl
                                  have hfz46_0 := blk_frozen BK271.out 0
                                  have hfz46_1 := blk_frozen BK271.out 1
                                  have hfz46_2 := blk_frozen BK271.out 2
                                  go_wp2
                                  go_meet
                                  case rel => exact ⟨_, (((rd_T52 l0_1 x8_1).f1)), (by first | rfl | (simp; done) | (simp [*]; done)), H', ⟨by have := HK1.out; have := HJ19.out; have := HJ29.out; first | omega | exact Nat.le_refl _⟩, ⟨by (try simp only [hl6_1]); (with_reducible repeat (first | apply Kd.R_alloc | apply Kd.R_drewN | apply Kd.R_drew)); exact HO_5.out⟩, ⟨by (try simp only [hl6_1]); (with_reducible repeat (first | apply Kd.R_alloc | apply Kd.R_drewN | apply Kd.R_drew)); exact HO_6.out⟩, ⟨by (try simp only [hl6_1]); (with_reducible repeat (first | refine blk_drewN ?_ _ | refine blk_drew ?_ | refine blk_alloc ?_ _)); exact BK260.out⟩, ⟨by (try simp only [hl6_1]); (with_reducible repeat (first | refine blk_drewN ?_ _ | refine blk_drew ?_ | refine blk_alloc ?_ _)); exact BK271.out⟩, ⟨by repeat (first | (with_reducible first | exact HB.out | apply below_alloc | apply pw_below_drewN | apply below_drew1 | refine below_set ?_ GE260.out | refine below_set ?_ GE271.out) | exact HB.out)⟩⟩
                                · replace c44 := Bool.eq_false_iff.mpr c44
                                  subst c44
                                  have H1 : (pentaglotref28_First.j3 kj29 t261 x6_1 x7_1 x8_1 a0_0 l0_1 a0_2 ((rd_T52 l0_1 x8_1).f0) ((rd_T52 l0_1 x8_1).f1) ((rd_T52 l0_1 x8_1).f2)) = some r := by rw [if_neg (show ¬ (false = true) by decide)] at H; exact H
                                  clear H
                                  have H := H1
                                  clear H1
                                  have H' := Aside0.mk H
                                  clear H
                                  go_wp2
                                  go_meet
                                  case rel => exact ⟨_, (x7_1), (by first | rfl | (simp; done) | (simp [*]; done)), H', ⟨by have := HK1.out; have := HJ19.out; have := HJ29.out; first | omega | exact Nat.le_refl _⟩, ⟨by (try simp only [hl6_1]); (with_reducible repeat (first | apply Kd.R_alloc | apply Kd.R_drewN | apply Kd.R_drew)); exact HO_5.out⟩, ⟨by (try simp only [hl6_1]); (with_reducible repeat (first | apply Kd.R_alloc | apply Kd.R_drewN | apply Kd.R_drew)); exact HO_6.out⟩, ⟨by (try simp only [hl6_1]); (with_reducible repeat (first | refine blk_drewN ?_ _ | refine blk_drew ?_ | refine blk_alloc ?_ _)); exact BK260.out⟩, ⟨by (try simp only [hl6_1]); (with_reducible repeat (first | refine blk_drewN ?_ _ | refine blk_drew ?_ | refine blk_alloc ?_ _)); exact BK271.out⟩, ⟨by repeat (first | (with_reducible first | exact HB.out | apply below_alloc | apply pw_below_drewN | apply below_drew1 | refine below_set ?_ GE260.out | refine below_set ?_ GE271.out) | exact HB.out)⟩⟩
                              case rest =>
                                clear HC43
                                try clear c1
                                try clear c2
                                try clear p2
                                try clear q2
                                try clear hx2
                                try clear c3
                                try clear c4
                                try clear c4b0
                                try clear c4b1
                                try clear c5
                                try clear c5b0
                                try clear c5b1
                                try clear c6
                                try clear c6b0
                                try clear p6
                                try clear c7
                                try clear c7b0
                                try clear p8
                                try clear q8
                                try clear hx8
                                try clear hf8
                                try clear c19
                                try clear c19b0
                                try clear c21
                                try clear c21b0
                                try clear c22
                                try clear c22b0
                                try clear q23
                                try clear c24
                                try clear c25
                                try clear c25b0
                                try clear p26
                                try clear q26
                                try clear hx26
                                try clear c27
                                try clear p27
                                try clear q27
                                try clear hx27
                                try clear c28
                                try clear c28b0
                                try clear c29
                                try clear c29b0
                                try clear c33
                                try clear c35
                                try clear c35b0
                                try clear c35b1
                                try clear c36
                                try clear c36b0
                                try clear c37
                                try clear c39
                                try clear c41
                                try clear c43
                                try clear c44
                                try clear c45
                                try clear hcz10_0
                                try clear hcz10_1
                                try clear hcz10_2
                                try clear hcz12_0
                                try clear hcz12_1
                                try clear hcz12_2
                                try clear hcz15_0
                                try clear hcz15_1
                                try clear hcz15_2
                                try clear hcz18_0
                                try clear hcz18_1
                                try clear hcz18_2
                                try clear hcz31_0
                                try clear hcz31_1
                                try clear hcz31_2
                                try clear hcz34_0
                                try clear hcz34_1
                                try clear hcz34_2
                                try clear hcz38_0
                                try clear hcz38_1
                                try clear hcz38_2
                                try clear hcz40_0
                                try clear hcz40_1
                                try clear hcz40_2
                                try clear hcz42_0
                                try clear hcz42_1
                                try clear hcz42_2
                                try clear hcz46_0
                                try clear hcz46_1
                                try clear hcz46_2
                                try clear hfz10_0
                                try clear hfz10_1
                                try clear hfz10_2
                                try clear hfz12_0
                                try clear hfz12_1
                                try clear hfz12_2
                                try clear hfz15_0
                                try clear hfz15_1
                                try clear hfz15_2
                                try clear hfz18_0
                                try clear hfz18_1
                                try clear hfz18_2
                                try clear hfz31_0
                                try clear hfz31_1
                                try clear hfz31_2
                                try clear hfz34_0
                                try clear hfz34_1
                                try clear hfz34_2
                                try clear hfz38_0
                                try clear hfz38_1
                                try clear hfz38_2
                                try clear hfz40_0
                                try clear hfz40_1
                                try clear hfz40_2
                                try clear hfz42_0
                                try clear hfz42_1
                                try clear hfz42_2
                                try clear hfz46_0
                                try clear hfz46_1
                                try clear hfz46_2
                                try clear hx268_0
                                try clear hx269_0
                                try clear hx270_0
                                try clear hx270_1
                                try clear hx270_2
                                try clear hx8_0
                                try clear p2
                                try clear p26
                                try clear p268
                                try clear p269
                                try clear p27
                                try clear p270
                                try clear p6
                                try clear p8
                                try clear q2
                                try clear q23
                                try clear q26
                                try clear q268
                                try clear q269
                                try clear q27
                                try clear q270
                                try clear q8
                                obtain ⟨kq, x7_42, rfl, HA, HJ42, HO_5, HO_6, BK260, BK271, HB⟩ := hcut
                                cases kq with
                                | zero => exact absurd HA.out (by simp [pentaglotref28_First.j3])
                                | succ kj42 =>
                                  have H := HA.out
                                  clear HA
                                  simp only [pentaglotref28_First.j3] at H
                                  have H' := Aside0.mk H
                                  clear H
                                  have hnb47 := NB271_260.out
                                  have hnc47 := NB260_271.out
                                  have hcz48_0 : wc.cell? ⟨gb271, 0, none⟩ = some (.int .i64 ((rd_T52 l0_1 x8_1).f0)) := (blk_cell BK271.out 0).trans rfl
                                  have hcz48_1 : wc.cell? ⟨gb271, 1, none⟩ = some (.int .i64 ((rd_T52 l0_1 x8_1).f1)) := (blk_cell BK271.out 1).trans rfl
                                  have hcz48_2 : wc.cell? ⟨gb271, 2, none⟩ = some (.slice A270_2 ((rd_T52 l0_1 x8_1).f2).length c270_2) := (blk_cell BK271.out 2).trans rfl
                                  have hfz48_0 := blk_frozen BK271.out 0
                                  have hfz48_1 := blk_frozen BK271.out 1
                                  have hfz48_2 := blk_frozen BK271.out 2
                                  go_wp2
                                  go_loopg [64] kj42 (fun kq v64 w' => ∃ (x6_5 : List Bool) (x64_5 : Int), v64 = .int .i64 x64_5 ∧ Aside0 (pentaglotref28_First.l1 kq t261 x6_5 x7_42 x8_1 ((rd_T52 l0_1 x8_1).f2) (((rd_T52 l0_1 x8_1).f2).length : Int) x64_5 a0_0 l0_1 a0_2 = some r) ∧ Aside0 (kq ≤ kj42) ∧ Aside0 (Kd.R (Kd.int .i64) 3 w' w.heap.size (fun _ => True) v262 t261) ∧ Aside0 (Kd.R Kd.bool 4 w' w.heap.size (fun _ => True) (.slice (some ⟨go8, 0, none⟩) x6_1.length co8) x6_5) ∧ Aside0 (w'.heap[gb260]? = some (.cells #[.int .i64 a0_0, (.slice (some ad270) l0_1.length c0_1), .int .i64 a0_2] 24 (0, 0))) ∧ Aside0 (w'.heap[gb271]? = some (.cells #[.int .i64 ((rd_T52 l0_1 x8_1).f0), .int .i64 ((rd_T52 l0_1 x8_1).f1), (.slice A270_2 ((rd_T52 l0_1 x8_1).f2).length c270_2)] 52 (0, 0))) ∧ Aside0 (Below w.heap.size w w'))
                                  case atStart => exact ⟨(x6_1), (0), (by first | rfl | (simp; done) | (simp [*]; done)), H', ⟨Nat.le_refl _⟩, ⟨by (try simp only [hl6_1]); (with_reducible repeat (first | apply Kd.R_alloc | apply Kd.R_drewN | apply Kd.R_drew)); exact HO_5.out⟩, ⟨by (try simp only [hl6_1]); (with_reducible repeat (first | apply Kd.R_alloc | apply Kd.R_drewN | apply Kd.R_drew)); exact HO_6.out⟩, ⟨by (try simp only [hl6_1]); (with_reducible repeat (first | refine blk_drewN ?_ _ | refine blk_drew ?_ | refine blk_alloc ?_ _)); exact BK260.out⟩, ⟨by (try simp only [hl6_1]); (with_reducible repeat (first | refine blk_drewN ?_ _ | refine blk_drew ?_ | refine blk_alloc ?_ _)); exact BK271.out⟩, ⟨by repeat (first | (with_reducible first | exact HB.out | apply below_alloc | apply pw_below_drewN | apply below_drew1 | refine below_set ?_ GE260.out | refine below_set ?_ GE271.out) | exact HB.out)⟩⟩
                                  case round =>
                                    clear H'
                                    try clear c1
                                    try clear c2
                                    try clear p2
                                    try clear q2
                                    try clear hx2
                                    try clear c3
                                    try clear c4
                                    try clear c4b0
                                    try clear c4b1
                                    try clear c5
                                    try clear c5b0
                                    try clear c5b1
                                    try clear c6
                                    try clear c6b0
                                    try clear p6
                                    try clear c7
                                    try clear c7b0
                                    try clear p8
                                    try clear q8
                                    try clear hx8
                                    try clear hf8
                                    try clear c19
                                    try clear c19b0
                                    try clear c21
                                    try clear c21b0
                                    try clear c22
                                    try clear c22b0
                                    try clear q23
                                    try clear c24
                                    try clear c25
                                    try clear c25b0
                                    try clear p26
                                    try clear q26
                                    try clear hx26
                                    try clear c27
                                    try clear p27
                                    try clear q27
                                    try clear hx27
                                    try clear c28
                                    try clear c28b0
                                    try clear c29
                                    try clear c29b0
                                    try clear c33
                                    try clear c35
                                    try clear c35b0
                                    try clear c35b1
                                    try clear c36
                                    try clear c36b0
                                    try clear c37
                                    try clear c39
                                    try clear c41
                                    try clear c43
                                    try clear c44
                                    try clear c45
                                    try clear c47
                                    try clear hcz10_0
                                    try clear hcz10_1
                                    try clear hcz10_2
                                    try clear hcz12_0
                                    try clear hcz12_1
                                    try clear hcz12_2
                                    try clear hcz15_0
                                    try clear hcz15_1
                                    try clear hcz15_2
                                    try clear hcz18_0
                                    try clear hcz18_1
                                    try clear hcz18_2
                                    try clear hcz31_0
                                    try clear hcz31_1
                                    try clear hcz31_2
                                    try clear hcz34_0
                                    try clear hcz34_1
                                    try clear hcz34_2
                                    try clear hcz38_0
                                    try clear hcz38_1
                                    try clear hcz38_2
                                    try clear hcz40_0
                                    try clear hcz40_1
                                    try clear hcz40_2
                                    try clear hcz42_0
                                    try clear hcz42_1
                                    try clear hcz42_2
                                    try clear hcz46_0
                                    try clear hcz46_1
                                    try clear hcz46_2
                                    try clear hcz48_0
                                    try clear hcz48_1
                                    try clear hcz48_2
                                    try clear hfz10_0
                                    try clear hfz10_1
                                    try clear hfz10_2
                                    try clear hfz12_0
                                    try clear hfz12_1
                                    try clear hfz12_2
                                    try clear hfz15_0
                                    try clear hfz15_1
                                    try clear hfz15_2
                                    try clear hfz18_0
                                    try clear hfz18_1
                                    try clear hfz18_2
                                    try clear hfz31_0
                                    try clear hfz31_1
                                    try clear hfz31_2
                                    try clear hfz34_0
                                    try clear hfz34_1
                                    try clear hfz34_2
                                    try clear hfz38_0
                                    try clear hfz38_1
                                    try clear hfz38_2
                                    try clear hfz40_0
                                    try clear hfz40_1
                                    try clear hfz40_2
                                    try clear hfz42_0
                                    try clear hfz42_1
                                    try clear hfz42_2
                                    try clear hfz46_0
                                    try clear hfz46_1
                                    try clear hfz46_2
                                    try clear hfz48_0
                                    try clear hfz48_1
                                    try clear hfz48_2
                                    try clear hx268_0
                                    try clear hx269_0
                                    try clear hx270_0
                                    try clear hx270_1
                                    try clear hx270_2
                                    try clear hx8_0
                                    try clear p2
                                    try clear p26
                                    try clear p268
                                    try clear p269
                                    try clear p27
                                    try clear p270
                                    try clear p6
                                    try clear p8
                                    try clear q2
                                    try clear q23
                                    try clear q26
                                    try clear q268
                                    try clear q269
                                    try clear q27
                                    try clear q270
                                    try clear q8
                                    obtain ⟨x6_5, x64_5, rfl, HA, HK5, HO_5, HO_6, BK260, BK271, HB⟩ := hrel
                                    have hl6_5 := (Kd.R_reads' HO_6.out).1
                                    rw [hl6_5] at HO_6
                                    (try simp only [hl6_5])
                                    (try simp only [hl6_5] at BK260)
                                    (try simp only [hl6_5] at BK271)
                                    (try simp only [hl6_5] at HO_5)
                                    cases gk with
                                    | zero => exact absurd HA.out (by simp [pentaglotref28_First.l1])
                                    | succ k5 =>
                                      have H := HA.out
                                      clear HA
                                      simp only [pentaglotref28_First.l1] at H
                                      by_cases c49 : x64_5 < (((rd_T52 l0_1 x8_1).f2).length : Int)
                                      · rw [if_pos c49] at H
                                        have c49b0 : decide (x64_5 < (((rd_T52 l0_1 x8_1).f2).length : Int)) = true := decide_eq_true c49
                                        clear c49
                                        by_cases c50 : 0 ≤ x64_5
                                        · rw [if_pos c50] at H
                                          have c50b0 : decide (0 ≤ x64_5) = true := decide_eq_true c50
                                          clear c50
                                          by_cases c51 : x64_5 < (((rd_T52 l0_1 x8_1).f2).length : Int)
                                          · rw [if_pos c51] at H
                                            have c51b0 : decide (x64_5 < (((rd_T52 l0_1 x8_1).f2).length : Int)) = true := decide_eq_true c51
                                            clear c51
                                            by_cases c52 : 0 ≤ (rd ((rd_T52 l0_1 x8_1).f2) x64_5)
                                            · rw [if_pos c52] at H
                                              have c52b0 : decide (0 ≤ (rd ((rd_T52 l0_1 x8_1).f2) x64_5)) = true := decide_eq_true c52
                                              clear c52
                                              by_cases c53 : (rd ((rd_T52 l0_1 x8_1).f2) x64_5) < (x6_5.length : Int)
                                              · rw [if_pos c53] at H
                                                have c53b0 : decide ((rd ((rd_T52 l0_1 x8_1).f2) x64_5) < (x6_5.length : Int)) = true := decide_eq_true c53
                                                clear c53
                                                obtain ⟨y273, hy273⟩ : ∃ y_ : List Bool, y_ = (x6_5.set ((rd ((rd_T52 l0_1 x8_1).f2) x64_5) : Int).toNat true) := ⟨_, rfl⟩
                                                replace H : (pentaglotref28_First.l1 k5 t261 y273 x7_42 x8_1 ((rd_T52 l0_1 x8_1).f2) (((rd_T52 l0_1 x8_1).f2).length : Int) (wrap64 (x64_5 + 1)) a0_0 l0_1 a0_2) = some r := by first | (rw [hy273]; with_reducible exact H) | (have H2_ := (Option.bind_some _ _).symm.trans H; rw [hy273]; with_reducible exact H2_) | (have H2_ := (Option.bind_some _ _).symm.trans H; with_reducible exact H2_) | with_reducible exact H | (rw [hy273]; exact H) | exact H
                                                have Ny273 := Aside0.mk hy273
                                                clear hy273
                                                have H' := Aside0.mk H
                                                clear H
                                                have p272 : 0 ≤ (x64_5 : Int) := of_decide_eq_true (by first | (with_reducible assumption) | assumption)
                                                have q272 : x64_5 < (((rd_T52 l0_1 x8_1).f2).length : Int) := of_decide_eq_true (by first | (with_reducible assumption) | assumption)
                                                obtain ⟨ad272, e272, hx272_0⟩ := Kd.at_int HR270_2.out x64_5 p272 q272
                                                cases e272
                                                replace hx272_0 := (HB.out.cell (World.block_lt_of_cell? w _ hx272_0)).trans hx272_0
                                                replace p272 := eq_true p272
                                                replace q272 := eq_true q272
                                                have p54 : 0 ≤ ((rd ((rd_T52 l0_1 x8_1).f2) x64_5) : Int) := of_decide_eq_true (by first | (with_reducible assumption) | assumption)
                                                have q54 : ((rd ((rd_T52 l0_1 x8_1).f2) x64_5) : Int) < ((x6_5.length : Int) : Int) := of_decide_eq_true (by first | (with_reducible assumption) | assumption)
                                                obtain ⟨hx54_0, hf54_0⟩ := Kd.R_celln false HO_6.out ((rd ((rd_T52 l0_1 x8_1).f2) x64_5) : Int) p54 q54
                                                replace p54 := eq_true p54
                                                replace q54 := eq_true q54
                                                have HP55 := Kd.R_putg HO_6.out ((rd ((rd_T52 l0_1 x8_1).f2) x64_5) : Int) true
                                                go_wp2_with (first | ((with_reducible refine gate_store (t := 4) (p := 70) rfl ?_); refine store_event (t := 4) (p := 70) (v := ?vo_w56) (w1 := (wr.setCell ⟨go8, ((rd ((rd_T52 l0_1 x8_1).f2) x64_5) : Int).toNat, none⟩ (.bool true))) ?hg ?ho ?hn ?hr ?_; (case ho => rfl); (case hg => rfl); (case hn => rfl); (case hr => first | (go_simp; done) | (go_simp; rfl)); intro w56 hw; have hg : wr.grownBy w56 (some go8) := (by rw [hw]; exact HP55.2); have hp_ : Kd.R Kd.bool 4 w56 w.heap.size (fun _ => True) (.slice (some ⟨go8, 0, none⟩) x6_5.length co8) y273 := (by rw [hw, Ny273.out]; exact HP55.1); clear HP55; have n0_ := Aside0.mk (Kd.R_over' (v := (.slice (some ⟨go8, 0, none⟩) x6_5.length co8)) (by (with_reducible repeat (first | apply Kd.R_alloc | apply Kd.R_drewN | apply Kd.R_drew)); exact HO_5.out) (Kd.R_typed HO_6.out) (by decide) hg); have n1_ := Aside0.mk (hp_); have n2_ := Aside0.mk (blk_grown (g := gb260) (o := .cells #[.int .i64 a0_0, .slice (some ad270) l0_1.length c0_1, .int .i64 a0_2] 24 (0, 0)) (by (with_reducible repeat (first | refine blk_drewN ?_ _ | refine blk_drew ?_ | refine blk_alloc ?_ _)); exact BK260.out) hg (Kd.R_ne HO_6.out BK260.out (by decide))); have n3_ := Aside0.mk (blk_grown (g := gb271) (o := .cells #[.int .i64 ((rd_T52 l0_1 x8_1).f0), .int .i64 ((rd_T52 l0_1 x8_1).f1), .slice (some ad272) ((rd_T52 l0_1 x8_1).f2).length c270_2] 52 (0, 0)) (by (with_reducible repeat (first | refine blk_drewN ?_ _ | refine blk_drew ?_ | refine blk_alloc ?_ _)); exact BK271.out) hg (Kd.R_ne HO_6.out BK271.out (by decide))); have n4_ := Aside0.mk ((by rw [hw]; exact below_set (HB.out) GB8.out : Below w.heap.size w w56)); clear HO_5; clear HO_6; clear BK260; clear BK271; clear HB; have HO_5 := n0_; have HO_6 := n1_; have BK260 := n2_; have BK271 := n3_; have HB := n4_; clear n0_ n1_ n2_ n3_ n4_; clear hg hw hp_))
                                                (try simp only [← hl6_5])
                                                go_roundg k5
                                                case measure => have := HK1.out; have := HJ19.out; have := HJ29.out; have := HJ42.out; have := HK5.out; omega
                                                case rel => exact ⟨(y273), (wrap64 (x64_5 + 1)), (by first | rfl | (simp; done) | (simp [*]; done)), H', ⟨by have := HK1.out; have := HJ19.out; have := HJ29.out; have := HJ42.out; have := HK5.out; omega⟩, ⟨by (try simp only [hl6_1]); (try simp only [hl6_5]); (with_reducible repeat (first | apply Kd.R_alloc | apply Kd.R_drewN | apply Kd.R_drew)); exact HO_5.out⟩, ⟨by (try simp only [hl6_1]); (try simp only [hl6_5]); (with_reducible repeat (first | apply Kd.R_alloc | apply Kd.R_drewN | apply Kd.R_drew)); exact HO_6.out⟩, ⟨by (try simp only [hl6_1]); (try simp only [hl6_5]); (with_reducible repeat (first | refine blk_drewN ?_ _ | refine blk_drew ?_ | refine blk_alloc ?_ _)); exact BK260.out⟩, ⟨by (try simp only [hl6_1]); (try simp only [hl6_5]); (with_reducible repeat (first | refine blk_drewN ?_ _ | refine blk_drew ?_ | refine blk_alloc ?_ _)); exact BK271.out⟩, ⟨by repeat (first | (with_reducible first | exact HB.out | apply below_alloc | apply pw_below_drewN | apply below_drew1 | refine below_set ?_ GE260.out | refine below_set ?_ GE271.out) | exact HB.out)⟩⟩
                                              · rw [if_neg c53] at H
                                                exact absurd H (by simp)
                                            · rw [if_neg c52] at H
                                              exact absurd H (by simp)
                                          · rw [if_neg c51] at H
                                            exact absurd H (by simp)
                                        · rw [if_neg c50] at H
                                          exact absurd H (by simp)
                                      · rw [if_neg c49] at H
                                        have c49b0 : decide (x64_5 < (((rd_T52 l0_1 x8_1).f2).length : Int)) = false := decide_eq_false c49
                                        clear c49
                                        have H' := Aside0.mk H
                                        clear H
                                        go_wp2
                                        (try simp only [← hl6_1, ← hl6_5])
                                        go_roundg k5
                                        case measure => have := HK1.out; have := HJ19.out; have := HJ29.out; have := HJ42.out; have := HK5.out; omega
                                        case rel => exact ⟨(x6_5), (x7_42), (wrap64 (x8_1 - 1)), (by first | rfl | (simp; done) | (simp [*]; done)), (by first | rfl | (simp; done) | (simp [*]; done)), H', ⟨by have := HK1.out; have := HJ19.out; have := HJ29.out; have := HJ42.out; have := HK5.out; omega⟩, ⟨by (try simp only [hl6_1]); (try simp only [hl6_5]); (with_reducible repeat (first | apply Kd.R_alloc | apply Kd.R_drewN | apply Kd.R_drew)); exact HO_5.out⟩, ⟨by (try simp only [hl6_1]); (try simp only [hl6_5]); (with_reducible repeat (first | apply Kd.R_alloc | apply Kd.R_drewN | apply Kd.R_drew)); exact HO_6.out⟩, ⟨by (try simp only [hl6_1]); (try simp only [hl6_5]); (with_reducible repeat (first | refine blk_drewN ?_ _ | refine blk_drew ?_ | refine blk_alloc ?_ _)); exact BK260.out⟩, ⟨by repeat (first | (with_reducible first | exact HB.out | apply below_alloc | apply pw_below_drewN | apply below_drew1 | refine below_set ?_ GE260.out | refine below_set ?_ GE271.out) | exact HB.out)⟩⟩
                        · rw [if_neg c29] at H
                          exact absurd H (by simp)
                      · rw [if_neg c28] at H
                        exact absurd H (by simp)
              · rw [if_neg c19] at H
                have c19b0 : decide (0 ≤ x8_1) = false := decide_eq_false c19
                clear c19
                obtain rfl := Option.some.inj H
                go_wp2
                go_ret
                exact ⟨by first | rfl | (simp [errW_none, errW_some] <;> rfl) | (simp [*, errW_none, errW_some] <;> rfl), by repeat (first | (with_reducible first | exact HB.out | apply below_alloc | apply pw_below_drewN | apply below_drew1 | refine below_set ?_ GE260.out) | exact HB.out)⟩
        · rw [if_neg c7] at H
          exact absurd H (by simp)
      · rw [if_neg c6] at H
        exact absurd H (by simp)
    · rw [if_neg c5] at H
      exact absurd H (by simp)
  · rw [if_neg c4] at H
    exact absurd H (by simp)

end Go.Proofs.Ytflknolnclnhfaa.P
