-- Written by the session's own program wip/tools/xprint.py out of the translation, with the kit's print.py on a scratch copy; functions given by hand stand among them.
import Derived.Test.YtflknolnclnhfaaPx0
namespace Go.Proofs.Ytflknolnclnhfaa.P
open Go.RowKit Go.Proofs.YtflknolnclnhfaaW.PrintWords Go.Proofs.YtflknolnclnhfaaW.PrintLast Go.Proofs.YtflknolnclnhfaaW.PrintMore
attribute [local go_sem] max2_int min2_int max_two min_two max_three min_three max_four min_four   -- for this text's walks alone
set_option linter.unusedVariables false
set_option linter.unusedSimpArgs false

/-! ### pentaglotref27_Values: function 32 -/
mutual
def pentaglotref27_Values.l0 : Nat → List Bool → List Bool → Int → Int → List (S52) → Int → Option (List Bool)
  | 0, _, _, _, _, _, _ => none
  | k + 1, x1, x5, x6, x198000, x198001, x198002 => if x6 < (x198001.length : Int) then (if 0 ≤ x6 then (if ((rd_T52 x198001 x6).f0) = 2 then (pentaglotref27_Values.j1 k x1 x5 x6 true x198000 x198001 x198002 ((rd_T52 x198001 x6).f0) ((rd_T52 x198001 x6).f1) ((rd_T52 x198001 x6).f2)) else (if ((rd_T52 x198001 x6).f0) = 5 then (pentaglotref27_Values.j1 k x1 x5 x6 true x198000 x198001 x198002 ((rd_T52 x198001 x6).f0) ((rd_T52 x198001 x6).f1) ((rd_T52 x198001 x6).f2)) else (if ((rd_T52 x198001 x6).f0) = 3 then (if 0 ≤ ((rd_T52 x198001 x6).f1) then (if ((rd_T52 x198001 x6).f1) < (x1.length : Int) then (pentaglotref27_Values.j1 k x1 x5 x6 (rdOf false x1 ((rd_T52 x198001 x6).f1)) x198000 x198001 x198002 ((rd_T52 x198001 x6).f0) ((rd_T52 x198001 x6).f1) ((rd_T52 x198001 x6).f2)) else (none)) else (none)) else (pentaglotref27_Values.j1 k x1 x5 x6 false x198000 x198001 x198002 ((rd_T52 x198001 x6).f0) ((rd_T52 x198001 x6).f1) ((rd_T52 x198001 x6).f2))))) else (none)) else (some x5)
def pentaglotref27_Values.j1 : Nat → List Bool → List Bool → Int → Bool → Int → List (S52) → Int → Int → Int → List Int → Option (List Bool)
  | 0, _, _, _, _, _, _, _, _, _, _ => none
  | k + 1, x1, x5, x6, x8, x198000, x198001, x198002, x203000, x203001, x203002 => pentaglotref27_Values.l1 k x1 x5 x6 x8 0 x198000 x198001 x198002 x203000 x203001 x203002
def pentaglotref27_Values.l1 : Nat → List Bool → List Bool → Int → Bool → Int → Int → List (S52) → Int → Int → Int → List Int → Option (List Bool)
  | 0, _, _, _, _, _, _, _, _, _, _, _ => none
  | k + 1, x1, x5, x6, x8, x9, x198000, x198001, x198002, x203000, x203001, x203002 => if x9 < (x203002.length : Int) then (if 0 ≤ x9 then (if 0 ≤ (rd x203002 x9) then (if (rd x203002 x9) < (x5.length : Int) then (if x203000 = 4 then (pentaglotref27_Values.l1 k x1 x5 x6 (!(rdOf false x5 (rd x203002 x9))) (wrap64 (x9 + 1)) x198000 x198001 x198002 x203000 x203001 x203002) else (if x203000 = 5 then (if x8 = true then (pentaglotref27_Values.l1 k x1 x5 x6 (rdOf false x5 (rd x203002 x9)) (wrap64 (x9 + 1)) x198000 x198001 x198002 x203000 x203001 x203002) else (pentaglotref27_Values.l1 k x1 x5 x6 false (wrap64 (x9 + 1)) x198000 x198001 x198002 x203000 x203001 x203002)) else (if x203000 = 6 then (if x8 = true then (pentaglotref27_Values.l1 k x1 x5 x6 true (wrap64 (x9 + 1)) x198000 x198001 x198002 x203000 x203001 x203002) else (pentaglotref27_Values.l1 k x1 x5 x6 (rdOf false x5 (rd x203002 x9)) (wrap64 (x9 + 1)) x198000 x198001 x198002 x203000 x203001 x203002)) else (pentaglotref27_Values.l1 k x1 x5 x6 x8 (wrap64 (x9 + 1)) x198000 x198001 x198002 x203000 x203001 x203002)))) else (none)) else (none)) else (none)) else (if 0 ≤ x6 then (if x6 < (x5.length : Int) then (pentaglotref27_Values.l0 k x1 (x5.set (x6 : Int).toNat x8) (wrap64 (x6 + 1)) x198000 x198001 x198002) else (none)) else (none))
end
def pentaglotref27_Values.f (k : Nat) (a0_0 : Int) (l0_1 : List (S52)) (a0_2 : Int) (l1 : List Bool) : Option (List Bool) := if 0 ≤ (l0_1.length : Int) then (if ((l0_1.length : Int) : Int).toNat ≤ 281474976710656 then (pentaglotref27_Values.l0 k l1 (List.replicate ((l0_1.length : Int) : Int).toNat false) 0 a0_0 l0_1 a0_2) else (none)) else (none)
theorem pentaglotref27_Values.mono_l : ∀ k, (∀ y0 y1 y2 y3 y4 y5, LeO (pentaglotref27_Values.l0 k y0 y1 y2 y3 y4 y5) (pentaglotref27_Values.l0 (k + 1) y0 y1 y2 y3 y4 y5)) ∧ (∀ y0 y1 y2 y3 y4 y5 y6 y7 y8 y9, LeO (pentaglotref27_Values.j1 k y0 y1 y2 y3 y4 y5 y6 y7 y8 y9) (pentaglotref27_Values.j1 (k + 1) y0 y1 y2 y3 y4 y5 y6 y7 y8 y9)) ∧ (∀ y0 y1 y2 y3 y4 y5 y6 y7 y8 y9 y10, LeO (pentaglotref27_Values.l1 k y0 y1 y2 y3 y4 y5 y6 y7 y8 y9 y10) (pentaglotref27_Values.l1 (k + 1) y0 y1 y2 y3 y4 y5 y6 y7 y8 y9 y10))
  | 0 => ⟨fun _ _ _ _ _ _ r h => by simp [pentaglotref27_Values.l0] at h, fun _ _ _ _ _ _ _ _ _ _ r h => by simp [pentaglotref27_Values.j1] at h, fun _ _ _ _ _ _ _ _ _ _ _ r h => by simp [pentaglotref27_Values.l1] at h⟩
  | k + 1 => by
    obtain ⟨ih0, ih1, ih2⟩ := pentaglotref27_Values.mono_l k
    refine ⟨?_, ?_, ?_⟩
    · intro y0 y1 y2 y3 y4 y5
      unfold pentaglotref27_Values.l0
      repeat' first
      | (with_reducible exact ih0 _ _ _ _ _ _)
      | (with_reducible exact ih1 _ _ _ _ _ _ _ _ _ _)
      | (with_reducible exact ih2 _ _ _ _ _ _ _ _ _ _ _)
      | (with_reducible exact LeO.refl _)
      | (with_reducible exact LeO.none _)
      | (with_reducible refine LeO.ite ?_ ?_)
      | (with_reducible refine LeO.bind ?_ (fun _ => ?_))
      | exact ih0 _ _ _ _ _ _
      | exact ih1 _ _ _ _ _ _ _ _ _ _
      | exact ih2 _ _ _ _ _ _ _ _ _ _ _
      | exact LeO.none _
      | refine LeO.ite ?_ ?_
      | refine LeO.bind ?_ (fun _ => ?_)
    · intro y0 y1 y2 y3 y4 y5 y6 y7 y8 y9
      unfold pentaglotref27_Values.j1
      repeat' first
      | (with_reducible exact ih0 _ _ _ _ _ _)
      | (with_reducible exact ih1 _ _ _ _ _ _ _ _ _ _)
      | (with_reducible exact ih2 _ _ _ _ _ _ _ _ _ _ _)
      | (with_reducible exact LeO.refl _)
      | (with_reducible exact LeO.none _)
      | (with_reducible refine LeO.ite ?_ ?_)
      | (with_reducible refine LeO.bind ?_ (fun _ => ?_))
      | exact ih0 _ _ _ _ _ _
      | exact ih1 _ _ _ _ _ _ _ _ _ _
      | exact ih2 _ _ _ _ _ _ _ _ _ _ _
      | exact LeO.none _
      | refine LeO.ite ?_ ?_
      | refine LeO.bind ?_ (fun _ => ?_)
    · intro y0 y1 y2 y3 y4 y5 y6 y7 y8 y9 y10
      unfold pentaglotref27_Values.l1
      repeat' first
      | (with_reducible exact ih0 _ _ _ _ _ _)
      | (with_reducible exact ih1 _ _ _ _ _ _ _ _ _ _)
      | (with_reducible exact ih2 _ _ _ _ _ _ _ _ _ _ _)
      | (with_reducible exact LeO.refl _)
      | (with_reducible exact LeO.none _)
      | (with_reducible refine LeO.ite ?_ ?_)
      | (with_reducible refine LeO.bind ?_ (fun _ => ?_))
      | exact ih0 _ _ _ _ _ _
      | exact ih1 _ _ _ _ _ _ _ _ _ _
      | exact ih2 _ _ _ _ _ _ _ _ _ _ _
      | exact LeO.none _
      | refine LeO.ite ?_ ?_
      | refine LeO.bind ?_ (fun _ => ?_)
theorem pentaglotref27_Values.mono : ∀ a0 a1 a2 a3 k, LeO (pentaglotref27_Values.f k a0 a1 a2 a3) (pentaglotref27_Values.f (k + 1) a0 a1 a2 a3) := by
  intro a0 a1 a2 a3 k
  obtain ⟨ih0, ih1, ih2⟩ := pentaglotref27_Values.mono_l k
  unfold pentaglotref27_Values.f
  repeat' first
      | (with_reducible exact ih0 _ _ _ _ _ _)
      | (with_reducible exact ih1 _ _ _ _ _ _ _ _ _ _)
      | (with_reducible exact ih2 _ _ _ _ _ _ _ _ _ _ _)
      | (with_reducible exact LeO.refl _)
      | (with_reducible exact LeO.none _)
      | (with_reducible refine LeO.ite ?_ ?_)
      | (with_reducible refine LeO.bind ?_ (fun _ => ?_))
      | exact ih0 _ _ _ _ _ _
      | exact ih1 _ _ _ _ _ _ _ _ _ _
      | exact ih2 _ _ _ _ _ _ _ _ _ _ _
      | exact LeO.none _
      | refine LeO.ite ?_ ?_
      | refine LeO.bind ?_ (fun _ => ?_)
set_option maxHeartbeats 8000000 in
set_option maxRecDepth 100000 in
theorem pentaglotref27_Values.calls (k : Nat) (a0_0 : Int) (A0_1 : Option Addr) (c0_1 : Nat) (l0_1 : List (S52)) (a0_2 : Int) (A1 : Option Addr) (c1 : Nat) (l1 : List Bool) (r : List Bool) (w : World) (hr0_1 : Kd.C k52 w A0_1 l0_1.length l0_1) (hc0_1 : l0_1.length ≤ c0_1) (hr1 : Kd.C Kd.bool w A1 l1.length l1) (hc1 : l1.length ≤ c1) (h : pentaglotref27_Values.f k a0_0 l0_1 a0_2 l1 = some r) :
    Calls Try.prog 32 #[.agg #[.int .i64 a0_0, .slice A0_1 l0_1.length c0_1, .int .i64 a0_2], .slice A1 l1.length c1] w fun e w' => ∃ v0_ : Value, e = .returned (v0_) ∧ Kd.R Kd.bool 4 w' w.heap.size (fun _ => True) v0_ r ∧ Below w.heap.size w w' := by
  have hu24 := Try.underlying24
  have hu52 := Try.underlying52
  have HR0_1 := Aside0.mk hr0_1
  have HC0_1 := Aside0.mk hc0_1
  clear hr0_1 hc0_1
  have HR1 := Aside0.mk hr1
  have HC1 := Aside0.mk hc1
  clear hr1 hc1
  have HB := Aside0.mk (Below.refl w.heap.size w)
  have H : (if 0 ≤ (l0_1.length : Int) then (if ((l0_1.length : Int) : Int).toNat ≤ 281474976710656 then (pentaglotref27_Values.l0 k l1 (List.replicate ((l0_1.length : Int) : Int).toNat false) 0 a0_0 l0_1 a0_2) else (none)) else (none)) = some r := h
  clear h
  by_cases c3 : 0 ≤ (l0_1.length : Int)
  · rw [if_pos c3] at H
    have c3b0 := eq_true c3
    have c3b1 : decide (0 ≤ (l0_1.length : Int)) = true := decide_eq_true c3
    clear c3
    by_cases c4 : ((l0_1.length : Int) : Int).toNat ≤ 281474976710656
    · rw [if_pos c4] at H
      have c4b0 := eq_true c4
      have c4b1 : decide (((l0_1.length : Int) : Int).toNat ≤ 281474976710656) = true := decide_eq_true c4
      clear c4
      obtain ⟨y198, hy198⟩ : ∃ y_ : List Bool, y_ = (List.replicate ((l0_1.length : Int) : Int).toNat false) := ⟨_, rfl⟩
      replace H : (pentaglotref27_Values.l0 k l1 y198 0 a0_0 l0_1 a0_2) = some r := by first | (rw [hy198]; with_reducible exact H) | (have H2_ := (Option.bind_some _ _).symm.trans H; rw [hy198]; with_reducible exact H2_) | (have H2_ := (Option.bind_some _ _).symm.trans H; with_reducible exact H2_) | with_reducible exact H | (rw [hy198]; exact H) | exact H
      have Ny198 := Aside0.mk hy198
      clear hy198
      have H' := Aside0.mk H
      clear H
      go_enter Try.func32, Try.ntmps32
      go_wp2_with (first | ((with_reducible refine gate_dst (N := 2) rfl ?_); refine box_event ?hg (N := 2) ?hd (cs := #[.int .i64 a0_0, .slice A0_1 l0_1.length c0_1, .int .i64 a0_2]) (t := 24) ?hr ?_; (case hd => rfl); (case hg => rfl); (case hr => first | (go_simp; done) | (go_simp; rfl)); intro gb197 hg w5 hbox hb; have n0_ := Aside0.mk (below_step (by repeat (first | (with_reducible first | exact HB.out | apply below_alloc | apply pw_below_drewN | apply below_drew1) | exact HB.out)) hb); have n1_ := Aside0.mk (hbox); have n2_ := Aside0.mk ((by rw [hg]; exact (below_size (by repeat (first | (with_reducible first | exact HB.out | apply below_alloc | apply pw_below_drewN | apply below_drew1) | exact HB.out))) : w.heap.size ≤ gb197)); have n3_ := Aside0.mk ((by rw [hg]; exact (below_size (by repeat (first | (with_reducible first | exact HB.out | apply below_alloc | apply pw_below_drewN | apply below_drew1) | exact HB.out))) : w.heap.size ≤ gb197)); clear HB; have HB := n0_; have BK197 := n1_; have GW197 := n2_; have GE197 := n3_; clear n0_ n1_ n2_ n3_; clear hb hbox hg; have hcz6_0 : w5.cell? ⟨gb197, 0, none⟩ = some (.int .i64 a0_0) := (blk_cell BK197.out 0).trans rfl; have hcz6_1 : w5.cell? ⟨gb197, 1, none⟩ = some (.slice A0_1 l0_1.length c0_1) := (blk_cell BK197.out 1).trans rfl; have hcz6_2 : w5.cell? ⟨gb197, 2, none⟩ = some (.int .i64 a0_2) := (blk_cell BK197.out 2).trans rfl; have hfz6_0 := blk_frozen BK197.out 0; have hfz6_1 := blk_frozen BK197.out 1; have hfz6_2 := blk_frozen BK197.out 2) | ((with_reducible refine gate_dst (N := 14) rfl ?_); refine Kd.R_make Kd.bool _ 4 rfl (N := 14) rfl 25 _ _ rfl (l0_1.length : Int) rfl rfl Try.underlying25 (.bool false) 1 info4 rfl (by decide) (by omega) false (ok := fun _ => True) (okp := fun _ => True) rfl (fun _ hk => hk) trivial (of_decide_eq_true (by first | (with_reducible assumption) | assumption)) (Nat.le_trans (Nat.mul_le_mul_right _ (of_decide_eq_true (by first | (with_reducible assumption) | assumption) : (l0_1.length : Int).toNat ≤ 281474976710656)) (by omega)) (Below.refl _ _) (Nat.le_refl _) ?_; intro v199 w7 ho8 hb hg_ hnew_; clear hg_ hnew_; (first | rw [← Ny198.out] at ho8 | (simp only [Int.reduceToNat] at ho8; rw [← Ny198.out] at ho8)); have n0_ := Aside0.mk (Kd.R_lower ho8 (below_size (by repeat (first | (with_reducible first | exact HB.out | apply below_alloc | apply pw_below_drewN | apply below_drew1 | refine below_set ?_ GE197.out) | exact HB.out)))); have n1_ := Aside0.mk (blk_below (g := gb197) (o := .cells #[.int .i64 a0_0, .slice A0_1 l0_1.length c0_1, .int .i64 a0_2] 24 (0, 0)) (by (with_reducible repeat (first | refine blk_drewN ?_ _ | refine blk_drew ?_ | refine blk_alloc ?_ _)); exact BK197.out) hb); have n2_ := Aside0.mk (below_step (by repeat (first | (with_reducible first | exact HB.out | apply below_alloc | apply pw_below_drewN | apply below_drew1 | refine below_set ?_ GE197.out) | exact HB.out)) hb); clear BK197; clear HB; have HO200 := n0_; have BK197 := n1_; have HB := n2_; clear n0_ n1_ n2_; clear hb ho8))
      go_loopg [6] k (fun kq v6 w' => ∃ (x5_1 : List Bool) (x6_1 : Int), v6 = .int .i64 x6_1 ∧ Aside0 (pentaglotref27_Values.l0 kq l1 x5_1 x6_1 a0_0 l0_1 a0_2 = some r) ∧ Aside0 (kq ≤ k) ∧ Aside0 (Kd.R Kd.bool 4 w' w.heap.size (fun _ => True) v199 x5_1) ∧ Aside0 (w'.heap[gb197]? = some (.cells #[.int .i64 a0_0, (.slice A0_1 l0_1.length c0_1), .int .i64 a0_2] 24 (0, 0))) ∧ Aside0 (Below w.heap.size w w'))
      case atStart => exact ⟨(y198), (0), (by first | rfl | (simp; done) | (simp [*]; done)), H', ⟨Nat.le_refl _⟩, ⟨by (with_reducible repeat (first | apply Kd.R_alloc | apply Kd.R_drewN | apply Kd.R_drew)); exact HO200.out⟩, ⟨by (with_reducible repeat (first | refine blk_drewN ?_ _ | refine blk_drew ?_ | refine blk_alloc ?_ _)); exact BK197.out⟩, ⟨by repeat (first | (with_reducible first | exact HB.out | apply below_alloc | apply pw_below_drewN | apply below_drew1 | refine below_set ?_ GE197.out) | exact HB.out)⟩⟩
      case round =>
        clear H'
        try clear c1
        try clear p2
        try clear c3
        try clear c3b0
        try clear c3b1
        try clear c4
        try clear c4b0
        try clear c4b1
        try clear hcz6_0
        try clear hcz6_1
        try clear hcz6_2
        try clear hfz6_0
        try clear hfz6_1
        try clear hfz6_2
        obtain ⟨x5_1, x6_1, rfl, HA, HK1, HO_5, BK197, HB⟩ := hrel
        cases gk with
        | zero => exact absurd HA.out (by simp [pentaglotref27_Values.l0])
        | succ k1 =>
          have H := HA.out
          clear HA
          simp only [pentaglotref27_Values.l0] at H
          by_cases c9 : x6_1 < (l0_1.length : Int)
          · rw [if_pos c9] at H
            have c9b0 : decide (x6_1 < (l0_1.length : Int)) = true := decide_eq_true c9
            clear c9
            by_cases c10 : 0 ≤ x6_1
            · rw [if_pos c10] at H
              have c10b0 : decide (0 ≤ x6_1) = true := decide_eq_true c10
              clear c10
              have HC11 := Aside0.mk H
              clear H
              have hcz12_0 : wr.cell? ⟨gb197, 0, none⟩ = some (.int .i64 a0_0) := (blk_cell BK197.out 0).trans rfl
              have hcz12_1 : wr.cell? ⟨gb197, 1, none⟩ = some (.slice A0_1 l0_1.length c0_1) := (blk_cell BK197.out 1).trans rfl
              have hcz12_2 : wr.cell? ⟨gb197, 2, none⟩ = some (.int .i64 a0_2) := (blk_cell BK197.out 2).trans rfl
              have hfz12_0 := blk_frozen BK197.out 0
              have hfz12_1 := blk_frozen BK197.out 1
              have hfz12_2 := blk_frozen BK197.out 2
              have p201 : 0 ≤ (x6_1 : Int) := of_decide_eq_true (by first | (with_reducible assumption) | assumption)
              have q201 : x6_1 < (l0_1.length : Int) := of_decide_eq_true (by first | (with_reducible assumption) | assumption)
              obtain ⟨ad201, A201_2, c201_2, e201, hx201_0, hx201_1, hx201_2, hl201_2, hi201_2⟩ := at_T52 HR0_1.out x6_1 p201 q201
              cases e201
              replace hx201_0 := (HB.out.cell (World.block_lt_of_cell? w _ hx201_0)).trans hx201_0
              replace hx201_1 := (HB.out.cell (World.block_lt_of_cell? w _ hx201_1)).trans hx201_1
              replace hx201_2 := (HB.out.cell (World.block_lt_of_cell? w _ hx201_2)).trans hx201_2
              have HR201_2 := Aside0.mk hi201_2
              have HC201_2 := Aside0.mk hl201_2
              clear hi201_2 hl201_2
              replace p201 := eq_true p201
              replace q201 := eq_true q201
              go_upto_region 6 with (first | ((with_reducible refine gate_dst (N := 7) rfl ?_); refine box_event ?hg (N := 7) ?hd (cs := #[.int .i64 0, .int .i64 0, .slice none 0 0]) (t := 52) ?hr ?_; (case hd => rfl); (case hg => rfl); (case hr => first | (go_simp; done) | (go_simp; rfl)); intro gb202 hg w13 hbox hb; have n0_ := Aside0.mk (Kd.R_below (by (with_reducible repeat (first | apply Kd.R_alloc | apply Kd.R_drewN | apply Kd.R_drew)); exact HO_5.out) hb); have n1_ := Aside0.mk (blk_below (g := gb197) (o := .cells #[.int .i64 a0_0, .slice (some ad201) l0_1.length c0_1, .int .i64 a0_2] 24 (0, 0)) (by (with_reducible repeat (first | refine blk_drewN ?_ _ | refine blk_drew ?_ | refine blk_alloc ?_ _)); exact BK197.out) hb); have n2_ := Aside0.mk (below_step (by repeat (first | (with_reducible first | exact HB.out | apply below_alloc | apply pw_below_drewN | apply below_drew1 | refine below_set ?_ GE197.out) | exact HB.out)) hb); have n3_ := Aside0.mk (hbox); have n4_ := Aside0.mk ((by rw [hg]; exact (below_size (by repeat (first | (with_reducible first | exact HB.out | apply below_alloc | apply pw_below_drewN | apply below_drew1 | refine below_set ?_ GE197.out) | exact HB.out))) : w.heap.size ≤ gb202)); have n5_ := Aside0.mk ((by rw [hg]; exact (below_size (by repeat (first | (with_reducible first | exact HB.out | apply below_alloc | apply pw_below_drewN | apply below_drew1 | refine below_set ?_ GE197.out) | exact HB.out))) : w.heap.size ≤ gb202)); have n6_ := Aside0.mk ((by rw [hg]; exact Nat.ne_of_lt (blk_lt (g := gb197) (o := .cells #[.int .i64 a0_0, .slice (some ad201) l0_1.length c0_1, .int .i64 a0_2] 24 (0, 0)) (by (with_reducible repeat (first | refine blk_drewN ?_ _ | refine blk_drew ?_ | refine blk_alloc ?_ _)); exact BK197.out)) : gb197 ≠ gb202)); have n7_ := Aside0.mk ((by rw [hg]; exact Nat.ne_of_gt (blk_lt (g := gb197) (o := .cells #[.int .i64 a0_0, .slice (some ad201) l0_1.length c0_1, .int .i64 a0_2] 24 (0, 0)) (by (with_reducible repeat (first | refine blk_drewN ?_ _ | refine blk_drew ?_ | refine blk_alloc ?_ _)); exact BK197.out)) : gb202 ≠ gb197)); clear HO_5; clear BK197; clear HB; have HO_5 := n0_; have BK197 := n1_; have HB := n2_; have BK202 := n3_; have GW202 := n4_; have GE202 := n5_; have NB197_202 := n6_; have NB202_197 := n7_; clear n0_ n1_ n2_ n3_ n4_ n5_ n6_ n7_; clear hb hbox hg; have hnb14 := NB202_197.out; have hnc14 := NB197_202.out; have hcz15_0 : w13.cell? ⟨gb202, 0, none⟩ = some (.int .i64 0) := (blk_cell BK202.out 0).trans rfl; have hcz15_1 : w13.cell? ⟨gb202, 1, none⟩ = some (.int .i64 0) := (blk_cell BK202.out 1).trans rfl; have hcz15_2 : w13.cell? ⟨gb202, 2, none⟩ = some (.slice none 0 0) := (blk_cell BK202.out 2).trans rfl; have hfz15_0 := blk_frozen BK202.out 0; have hfz15_1 := blk_frozen BK202.out 1; have hfz15_2 := blk_frozen BK202.out 2))
              (try simp only [Act.put, List.setIfInBounds_toArray, List.set_cons_zero, List.set_cons_succ])
              go_cut [8] (fun v8 wc => ∃ (kq : Nat) (x8_10 : Bool), v8 = .bool x8_10 ∧ Aside0 (pentaglotref27_Values.j1 kq l1 x5_1 x6_1 x8_10 a0_0 l0_1 a0_2 ((rd_T52 l0_1 x6_1).f0) ((rd_T52 l0_1 x6_1).f1) ((rd_T52 l0_1 x6_1).f2) = some r) ∧ Aside0 (kq ≤ k1) ∧ Aside0 (Kd.R Kd.bool 4 wc w.heap.size (fun _ => True) v199 x5_1) ∧ Aside0 (wc.heap[gb197]? = some (.cells #[.int .i64 a0_0, (.slice (some ad201) l0_1.length c0_1), .int .i64 a0_2] 24 (0, 0))) ∧ Aside0 (wc.heap[gb202]? = some (.cells #[.int .i64 ((rd_T52 l0_1 x6_1).f0), .int .i64 ((rd_T52 l0_1 x6_1).f1), (.slice A201_2 ((rd_T52 l0_1 x6_1).f2).length c201_2)] 52 (0, 0))) ∧ Aside0 (Below w.heap.size w wc))
              case first =>
                have H := HC11.out
                clear HC11
                by_cases c16 : ((rd_T52 l0_1 x6_1).f0) = 2
                · rw [if_pos c16] at H
                  have c16b0 : (((rd_T52 l0_1 x6_1).f0) == 2) = true := beq_iff_eq.mpr c16
                  have c16b1 : (((rd_T52 l0_1 x6_1).f0) != 2) = false := bne_eq_false_iff_eq.mpr c16
                  clear c16
                  (first | rw [c16b0] | (simp only [i64_w, i32_w]; rw [c16b0]) | skip)
                  have H' := Aside0.mk H
                  clear H
                  have hnb17 := NB202_197.out
                  have hnc17 := NB197_202.out
                  have hcz18_0 : w13.cell? ⟨gb202, 0, none⟩ = some (.int .i64 0) := (blk_cell BK202.out 0).trans rfl
                  have hcz18_1 : w13.cell? ⟨gb202, 1, none⟩ = some (.int .i64 0) := (blk_cell BK202.out 1).trans rfl
                  have hcz18_2 : w13.cell? ⟨gb202, 2, none⟩ = some (.slice none 0 0) := (blk_cell BK202.out 2).trans rfl
                  have hfz18_0 := blk_frozen BK202.out 0
                  have hfz18_1 := blk_frozen BK202.out 1
                  have hfz18_2 := blk_frozen BK202.out 2
                  go_wp2
                  go_meet
                  case rel => exact ⟨_, (true), (by first | rfl | (simp; done) | (simp [*]; done)), H', ⟨by have := HK1.out; first | omega | exact Nat.le_refl _⟩, ⟨by (with_reducible repeat (first | apply Kd.R_alloc | apply Kd.R_drewN | apply Kd.R_drew)); exact Kd.R_mono (Kd.R_far (p := ⟨gb202, 2, none⟩) (Kd.R_far (p := ⟨gb202, 1, none⟩) (Kd.R_far (p := ⟨gb202, 0, none⟩) (Kd.R_types HO_5.out BK202.out (by decide)) (fun _ hk => hk.2) (.int .i64 ((rd_T52 l0_1 x6_1).f0))) (fun _ hk => hk.2) (.int .i64 ((rd_T52 l0_1 x6_1).f1))) (fun _ hk => hk.2) (.slice A201_2 ((rd_T52 l0_1 x6_1).f2).length c201_2)) (fun _ hk => trivial)⟩, ⟨by (with_reducible repeat (first | refine blk_drewN ?_ _ | refine blk_drew ?_ | refine blk_alloc ?_ _)); refine blk_far ?_ NB197_202.out _; (with_reducible repeat (first | refine blk_drewN ?_ _ | refine blk_drew ?_ | refine blk_alloc ?_ _)); refine blk_far ?_ NB197_202.out _; (with_reducible repeat (first | refine blk_drewN ?_ _ | refine blk_drew ?_ | refine blk_alloc ?_ _)); refine blk_far ?_ NB197_202.out _; (with_reducible repeat (first | refine blk_drewN ?_ _ | refine blk_drew ?_ | refine blk_alloc ?_ _)); exact BK197.out⟩, ⟨by (with_reducible repeat (first | refine blk_drewN ?_ _ | refine blk_drew ?_ | refine blk_alloc ?_ _)); refine blk_put (cs := #[.int .i64 ((rd_T52 l0_1 x6_1).f0), .int .i64 ((rd_T52 l0_1 x6_1).f1), .slice none 0 0]) ?_ 2 _ rfl; (with_reducible repeat (first | refine blk_drewN ?_ _ | refine blk_drew ?_ | refine blk_alloc ?_ _)); refine blk_put (cs := #[.int .i64 ((rd_T52 l0_1 x6_1).f0), .int .i64 0, .slice none 0 0]) ?_ 1 _ rfl; (with_reducible repeat (first | refine blk_drewN ?_ _ | refine blk_drew ?_ | refine blk_alloc ?_ _)); refine blk_put (cs := #[.int .i64 0, .int .i64 0, .slice none 0 0]) ?_ 0 _ rfl; (with_reducible repeat (first | refine blk_drewN ?_ _ | refine blk_drew ?_ | refine blk_alloc ?_ _)); exact BK202.out⟩, ⟨by repeat (first | (with_reducible first | exact HB.out | apply below_alloc | apply pw_below_drewN | apply below_drew1 | refine below_set ?_ GE197.out | refine below_set ?_ GE202.out) | exact HB.out)⟩⟩
                · rw [if_neg c16] at H
                  have c16b0 : (((rd_T52 l0_1 x6_1).f0) == 2) = false := beq_eq_false_iff_ne.mpr c16
                  have c16b1 : (((rd_T52 l0_1 x6_1).f0) != 2) = true := bne_iff_ne.mpr c16
                  (first | rw [c16b0] | (simp only [i64_w, i32_w]; rw [c16b0]) | skip)
                  by_cases c19 : ((rd_T52 l0_1 x6_1).f0) = 5
                  · rw [if_pos c19] at H
                    have c19b0 : (((rd_T52 l0_1 x6_1).f0) == 5) = true := beq_iff_eq.mpr c19
                    have c19b1 : (((rd_T52 l0_1 x6_1).f0) != 5) = false := bne_eq_false_iff_eq.mpr c19
                    clear c19
                    have H' := Aside0.mk H
                    clear H
                    have hnb20 := NB202_197.out
                    have hnc20 := NB197_202.out
                    have hcz21_0 : w13.cell? ⟨gb202, 0, none⟩ = some (.int .i64 0) := (blk_cell BK202.out 0).trans rfl
                    have hcz21_1 : w13.cell? ⟨gb202, 1, none⟩ = some (.int .i64 0) := (blk_cell BK202.out 1).trans rfl
                    have hcz21_2 : w13.cell? ⟨gb202, 2, none⟩ = some (.slice none 0 0) := (blk_cell BK202.out 2).trans rfl
                    have hfz21_0 := blk_frozen BK202.out 0
                    have hfz21_1 := blk_frozen BK202.out 1
                    have hfz21_2 := blk_frozen BK202.out 2
                    go_wp2
                    go_meet
                    case rel => exact ⟨_, (true), (by first | rfl | (simp; done) | (simp [*]; done)), H', ⟨by have := HK1.out; first | omega | exact Nat.le_refl _⟩, ⟨by (with_reducible repeat (first | apply Kd.R_alloc | apply Kd.R_drewN | apply Kd.R_drew)); exact Kd.R_mono (Kd.R_far (p := ⟨gb202, 2, none⟩) (Kd.R_far (p := ⟨gb202, 1, none⟩) (Kd.R_far (p := ⟨gb202, 0, none⟩) (Kd.R_types HO_5.out BK202.out (by decide)) (fun _ hk => hk.2) (.int .i64 ((rd_T52 l0_1 x6_1).f0))) (fun _ hk => hk.2) (.int .i64 ((rd_T52 l0_1 x6_1).f1))) (fun _ hk => hk.2) (.slice A201_2 ((rd_T52 l0_1 x6_1).f2).length c201_2)) (fun _ hk => trivial)⟩, ⟨by (with_reducible repeat (first | refine blk_drewN ?_ _ | refine blk_drew ?_ | refine blk_alloc ?_ _)); refine blk_far ?_ NB197_202.out _; (with_reducible repeat (first | refine blk_drewN ?_ _ | refine blk_drew ?_ | refine blk_alloc ?_ _)); refine blk_far ?_ NB197_202.out _; (with_reducible repeat (first | refine blk_drewN ?_ _ | refine blk_drew ?_ | refine blk_alloc ?_ _)); refine blk_far ?_ NB197_202.out _; (with_reducible repeat (first | refine blk_drewN ?_ _ | refine blk_drew ?_ | refine blk_alloc ?_ _)); exact BK197.out⟩, ⟨by (with_reducible repeat (first | refine blk_drewN ?_ _ | refine blk_drew ?_ | refine blk_alloc ?_ _)); refine blk_put (cs := #[.int .i64 ((rd_T52 l0_1 x6_1).f0), .int .i64 ((rd_T52 l0_1 x6_1).f1), .slice none 0 0]) ?_ 2 _ rfl; (with_reducible repeat (first | refine blk_drewN ?_ _ | refine blk_drew ?_ | refine blk_alloc ?_ _)); refine blk_put (cs := #[.int .i64 ((rd_T52 l0_1 x6_1).f0), .int .i64 0, .slice none 0 0]) ?_ 1 _ rfl; (with_reducible repeat (first | refine blk_drewN ?_ _ | refine blk_drew ?_ | refine blk_alloc ?_ _)); refine blk_put (cs := #[.int .i64 0, .int .i64 0, .slice none 0 0]) ?_ 0 _ rfl; (with_reducible repeat (first | refine blk_drewN ?_ _ | refine blk_drew ?_ | refine blk_alloc ?_ _)); exact BK202.out⟩, ⟨by repeat (first | (with_reducible first | exact HB.out | apply below_alloc | apply pw_below_drewN | apply below_drew1 | refine below_set ?_ GE197.out | refine below_set ?_ GE202.out) | exact HB.out)⟩⟩
                  · rw [if_neg c19] at H
                    have c19b0 : (((rd_T52 l0_1 x6_1).f0) == 5) = false := beq_eq_false_iff_ne.mpr c19
                    have c19b1 : (((rd_T52 l0_1 x6_1).f0) != 5) = true := bne_iff_ne.mpr c19
                    by_cases c22 : ((rd_T52 l0_1 x6_1).f0) = 3
                    · rw [if_pos c22] at H
                      have c22b0 : (((rd_T52 l0_1 x6_1).f0) == 3) = true := beq_iff_eq.mpr c22
                      have c22b1 : (((rd_T52 l0_1 x6_1).f0) != 3) = false := bne_eq_false_iff_eq.mpr c22
                      clear c22
                      by_cases c23 : 0 ≤ ((rd_T52 l0_1 x6_1).f1)
                      · rw [if_pos c23] at H
                        have c23b0 : decide (0 ≤ ((rd_T52 l0_1 x6_1).f1)) = true := decide_eq_true c23
                        clear c23
                        by_cases c24 : ((rd_T52 l0_1 x6_1).f1) < (l1.length : Int)
                        · rw [if_pos c24] at H
                          have c24b0 : decide (((rd_T52 l0_1 x6_1).f1) < (l1.length : Int)) = true := decide_eq_true c24
                          clear c24
                          have H' := Aside0.mk H
                          clear H
                          have hnb25 := NB202_197.out
                          have hnc25 := NB197_202.out
                          have hcz26_0 : w13.cell? ⟨gb202, 0, none⟩ = some (.int .i64 0) := (blk_cell BK202.out 0).trans rfl
                          have hcz26_1 : w13.cell? ⟨gb202, 1, none⟩ = some (.int .i64 0) := (blk_cell BK202.out 1).trans rfl
                          have hcz26_2 : w13.cell? ⟨gb202, 2, none⟩ = some (.slice none 0 0) := (blk_cell BK202.out 2).trans rfl
                          have hfz26_0 := blk_frozen BK202.out 0
                          have hfz26_1 := blk_frozen BK202.out 1
                          have hfz26_2 := blk_frozen BK202.out 2
                          have p203 : 0 ≤ (((rd_T52 l0_1 x6_1).f1) : Int) := of_decide_eq_true (by first | (with_reducible assumption) | assumption)
                          have q203 : ((rd_T52 l0_1 x6_1).f1) < (l1.length : Int) := of_decide_eq_true (by first | (with_reducible assumption) | assumption)
                          obtain ⟨ad203, e203, hx203_0⟩ := Kd.at_bool HR1.out ((rd_T52 l0_1 x6_1).f1) p203 q203
                          cases e203
                          have hn203_0 : ad203.block ≠ gb202 := Nat.ne_of_lt (Nat.lt_of_lt_of_le (by have := World.block_lt_of_cell? _ _ hx203_0; first | rwa [add_block] at this | exact this) GW202.out)
                          have hn203_1 : ad203.block ≠ gb202 := Nat.ne_of_lt (Nat.lt_of_lt_of_le (by have := World.block_lt_of_cell? _ _ hx203_0; first | rwa [add_block] at this | exact this) GW202.out)
                          have hn203_2 : ad203.block ≠ gb202 := Nat.ne_of_lt (Nat.lt_of_lt_of_le (by have := World.block_lt_of_cell? _ _ hx203_0; first | rwa [add_block] at this | exact this) GW202.out)
                          replace hx203_0 := (HB.out.cell (World.block_lt_of_cell? w _ hx203_0)).trans hx203_0
                          replace hx203_0 := (cell_far (p := ⟨gb202, 0, none⟩) (by first | (rw [add_block]; exact hn203_0) | (show (Addr.add _ _).block ≠ _; rw [add_block]; exact hn203_0) | exact hn203_0) (.int .i64 ((rd_T52 l0_1 x6_1).f0))).trans hx203_0
                          replace hx203_0 := (cell_far (p := ⟨gb202, 1, none⟩) (by first | (rw [add_block]; exact hn203_1) | (show (Addr.add _ _).block ≠ _; rw [add_block]; exact hn203_1) | exact hn203_1) (.int .i64 ((rd_T52 l0_1 x6_1).f1))).trans hx203_0
                          replace hx203_0 := (cell_far (p := ⟨gb202, 2, none⟩) (by first | (rw [add_block]; exact hn203_2) | (show (Addr.add _ _).block ≠ _; rw [add_block]; exact hn203_2) | exact hn203_2) (.slice A201_2 ((rd_T52 l0_1 x6_1).f2).length c201_2)).trans hx203_0
                          clear hn203_0
                          clear hn203_1
                          clear hn203_2
                          replace p203 := eq_true p203
                          replace q203 := eq_true q203
                          go_wp2
                          go_meet
                          case rel => exact ⟨_, (rdOf false l1 ((rd_T52 l0_1 x6_1).f1)), (by first | rfl | (simp; done) | (simp [*]; done)), H', ⟨by have := HK1.out; first | omega | exact Nat.le_refl _⟩, ⟨by (with_reducible repeat (first | apply Kd.R_alloc | apply Kd.R_drewN | apply Kd.R_drew)); exact Kd.R_mono (Kd.R_far (p := ⟨gb202, 2, none⟩) (Kd.R_far (p := ⟨gb202, 1, none⟩) (Kd.R_far (p := ⟨gb202, 0, none⟩) (Kd.R_types HO_5.out BK202.out (by decide)) (fun _ hk => hk.2) (.int .i64 ((rd_T52 l0_1 x6_1).f0))) (fun _ hk => hk.2) (.int .i64 ((rd_T52 l0_1 x6_1).f1))) (fun _ hk => hk.2) (.slice A201_2 ((rd_T52 l0_1 x6_1).f2).length c201_2)) (fun _ hk => trivial)⟩, ⟨by (with_reducible repeat (first | refine blk_drewN ?_ _ | refine blk_drew ?_ | refine blk_alloc ?_ _)); refine blk_far ?_ NB197_202.out _; (with_reducible repeat (first | refine blk_drewN ?_ _ | refine blk_drew ?_ | refine blk_alloc ?_ _)); refine blk_far ?_ NB197_202.out _; (with_reducible repeat (first | refine blk_drewN ?_ _ | refine blk_drew ?_ | refine blk_alloc ?_ _)); refine blk_far ?_ NB197_202.out _; (with_reducible repeat (first | refine blk_drewN ?_ _ | refine blk_drew ?_ | refine blk_alloc ?_ _)); exact BK197.out⟩, ⟨by (with_reducible repeat (first | refine blk_drewN ?_ _ | refine blk_drew ?_ | refine blk_alloc ?_ _)); refine blk_put (cs := #[.int .i64 ((rd_T52 l0_1 x6_1).f0), .int .i64 ((rd_T52 l0_1 x6_1).f1), .slice none 0 0]) ?_ 2 _ rfl; (with_reducible repeat (first | refine blk_drewN ?_ _ | refine blk_drew ?_ | refine blk_alloc ?_ _)); refine blk_put (cs := #[.int .i64 ((rd_T52 l0_1 x6_1).f0), .int .i64 0, .slice none 0 0]) ?_ 1 _ rfl; (with_reducible repeat (first | refine blk_drewN ?_ _ | refine blk_drew ?_ | refine blk_alloc ?_ _)); refine blk_put (cs := #[.int .i64 0, .int .i64 0, .slice none 0 0]) ?_ 0 _ rfl; (with_reducible repeat (first | refine blk_drewN ?_ _ | refine blk_drew ?_ | refine blk_alloc ?_ _)); exact BK202.out⟩, ⟨by repeat (first | (with_reducible first | exact HB.out | apply below_alloc | apply pw_below_drewN | apply below_drew1 | refine below_set ?_ GE197.out | refine below_set ?_ GE202.out) | exact HB.out)⟩⟩
                        · rw [if_neg c24] at H
                          exact absurd H (by simp)
                      · rw [if_neg c23] at H
                        exact absurd H (by simp)
                    · rw [if_neg c22] at H
                      have c22b0 : (((rd_T52 l0_1 x6_1).f0) == 3) = false := beq_eq_false_iff_ne.mpr c22
                      have c22b1 : (((rd_T52 l0_1 x6_1).f0) != 3) = true := bne_iff_ne.mpr c22
                      have H' := Aside0.mk H
                      clear H
                      have hnb27 := NB202_197.out
                      have hnc27 := NB197_202.out
                      have hcz28_0 : w13.cell? ⟨gb202, 0, none⟩ = some (.int .i64 0) := (blk_cell BK202.out 0).trans rfl
                      have hcz28_1 : w13.cell? ⟨gb202, 1, none⟩ = some (.int .i64 0) := (blk_cell BK202.out 1).trans rfl
                      have hcz28_2 : w13.cell? ⟨gb202, 2, none⟩ = some (.slice none 0 0) := (blk_cell BK202.out 2).trans rfl
                      have hfz28_0 := blk_frozen BK202.out 0
                      have hfz28_1 := blk_frozen BK202.out 1
                      have hfz28_2 := blk_frozen BK202.out 2
                      go_wp2
                      go_meet
                      case rel => exact ⟨_, (false), (by first | rfl | (simp; done) | (simp [*]; done)), H', ⟨by have := HK1.out; first | omega | exact Nat.le_refl _⟩, ⟨by (with_reducible repeat (first | apply Kd.R_alloc | apply Kd.R_drewN | apply Kd.R_drew)); exact Kd.R_mono (Kd.R_far (p := ⟨gb202, 2, none⟩) (Kd.R_far (p := ⟨gb202, 1, none⟩) (Kd.R_far (p := ⟨gb202, 0, none⟩) (Kd.R_types HO_5.out BK202.out (by decide)) (fun _ hk => hk.2) (.int .i64 ((rd_T52 l0_1 x6_1).f0))) (fun _ hk => hk.2) (.int .i64 ((rd_T52 l0_1 x6_1).f1))) (fun _ hk => hk.2) (.slice A201_2 ((rd_T52 l0_1 x6_1).f2).length c201_2)) (fun _ hk => trivial)⟩, ⟨by (with_reducible repeat (first | refine blk_drewN ?_ _ | refine blk_drew ?_ | refine blk_alloc ?_ _)); refine blk_far ?_ NB197_202.out _; (with_reducible repeat (first | refine blk_drewN ?_ _ | refine blk_drew ?_ | refine blk_alloc ?_ _)); refine blk_far ?_ NB197_202.out _; (with_reducible repeat (first | refine blk_drewN ?_ _ | refine blk_drew ?_ | refine blk_alloc ?_ _)); refine blk_far ?_ NB197_202.out _; (with_reducible repeat (first | refine blk_drewN ?_ _ | refine blk_drew ?_ | refine blk_alloc ?_ _)); exact BK197.out⟩, ⟨by (with_reducible repeat (first | refine blk_drewN ?_ _ | refine blk_drew ?_ | refine blk_alloc ?_ _)); refine blk_put (cs := #[.int .i64 ((rd_T52 l0_1 x6_1).f0), .int .i64 ((rd_T52 l0_1 x6_1).f1), .slice none 0 0]) ?_ 2 _ rfl; (with_reducible repeat (first | refine blk_drewN ?_ _ | refine blk_drew ?_ | refine blk_alloc ?_ _)); refine blk_put (cs := #[.int .i64 ((rd_T52 l0_1 x6_1).f0), .int .i64 0, .slice none 0 0]) ?_ 1 _ rfl; (with_reducible repeat (first | refine blk_drewN ?_ _ | refine blk_drew ?_ | refine blk_alloc ?_ _)); refine blk_put (cs := #[.int .i64 0, .int .i64 0, .slice none 0 0]) ?_ 0 _ rfl; (with_reducible repeat (first | refine blk_drewN ?_ _ | refine blk_drew ?_ | refine blk_alloc ?_ _)); exact BK202.out⟩, ⟨by repeat (first | (with_reducible first | exact HB.out | apply below_alloc | apply pw_below_drewN | apply below_drew1 | refine below_set ?_ GE197.out | refine below_set ?_ GE202.out) | exact HB.out)⟩⟩
              case rest =>
                clear HC11
                try clear c1
                try clear c2
                try clear p2
                try clear q2
                try clear hx2
                try clear c3
                try clear c3b0
                try clear c3b1
                try clear c4
                try clear c4b0
                try clear c4b1
                try clear c9
                try clear c9b0
                try clear c10
                try clear c10b0
                try clear c14
                try clear c16
                try clear c16b0
                try clear c16b1
                try clear c17
                try clear c19
                try clear c19b0
                try clear c19b1
                try clear c20
                try clear p20
                try clear q20
                try clear hx20
                try clear c22
                try clear c22b0
                try clear c22b1
                try clear c23
                try clear c23b0
                try clear c24
                try clear c24b0
                try clear c25
                try clear c27
                try clear hcz12_0
                try clear hcz12_1
                try clear hcz12_2
                try clear hcz15_0
                try clear hcz15_1
                try clear hcz15_2
                try clear hcz18_0
                try clear hcz18_1
                try clear hcz18_2
                try clear hcz21_0
                try clear hcz21_1
                try clear hcz21_2
                try clear hcz26_0
                try clear hcz26_1
                try clear hcz26_2
                try clear hcz28_0
                try clear hcz28_1
                try clear hcz28_2
                try clear hcz6_0
                try clear hcz6_1
                try clear hcz6_2
                try clear hfz12_0
                try clear hfz12_1
                try clear hfz12_2
                try clear hfz15_0
                try clear hfz15_1
                try clear hfz15_2
                try clear hfz18_0
                try clear hfz18_1
                try clear hfz18_2
                try clear hfz21_0
                try clear hfz21_1
                try clear hfz21_2
                try clear hfz26_0
                try clear hfz26_1
                try clear hfz26_2
                try clear hfz28_0
                try clear hfz28_1
                try clear hfz28_2
                try clear hfz6_0
                try clear hfz6_1
                try clear hfz6_2
                try clear hx201_0
                try clear hx201_1
                try clear hx201_2
                try clear hx203_0
                try clear p2
                try clear p201
                try clear p203
                try clear q201
                try clear q203
                obtain ⟨kq, x8_10, rfl, HA, HJ10, HO_5, BK197, BK202, HB⟩ := hcut
                cases kq with
                | zero => exact absurd HA.out (by simp [pentaglotref27_Values.j1])
                | succ kj10 =>
                  have H := HA.out
                  clear HA
                  simp only [pentaglotref27_Values.j1] at H
                  have H' := Aside0.mk H
                  clear H
                  go_wp2
                  go_loopg [8, 9] kj10 (fun kq v8 v9 w' => ∃ (x8_3 : Bool) (x9_3 : Int), v8 = .bool x8_3 ∧ v9 = .int .i64 x9_3 ∧ Aside0 (pentaglotref27_Values.l1 kq l1 x5_1 x6_1 x8_3 x9_3 a0_0 l0_1 a0_2 ((rd_T52 l0_1 x6_1).f0) ((rd_T52 l0_1 x6_1).f1) ((rd_T52 l0_1 x6_1).f2) = some r) ∧ Aside0 (kq ≤ kj10) ∧ Aside0 (Kd.R Kd.bool 4 w' w.heap.size (fun _ => True) v199 x5_1) ∧ Aside0 (w'.heap[gb197]? = some (.cells #[.int .i64 a0_0, (.slice (some ad201) l0_1.length c0_1), .int .i64 a0_2] 24 (0, 0))) ∧ Aside0 (w'.heap[gb202]? = some (.cells #[.int .i64 ((rd_T52 l0_1 x6_1).f0), .int .i64 ((rd_T52 l0_1 x6_1).f1), (.slice A201_2 ((rd_T52 l0_1 x6_1).f2).length c201_2)] 52 (0, 0))) ∧ Aside0 (Below w.heap.size w w'))
                  case atStart => exact ⟨(x8_10), (0), (by first | rfl | (simp; done) | (simp [*]; done)), (by first | rfl | (simp; done) | (simp [*]; done)), H', ⟨Nat.le_refl _⟩, ⟨by (with_reducible repeat (first | apply Kd.R_alloc | apply Kd.R_drewN | apply Kd.R_drew)); exact HO_5.out⟩, ⟨by (with_reducible repeat (first | refine blk_drewN ?_ _ | refine blk_drew ?_ | refine blk_alloc ?_ _)); exact BK197.out⟩, ⟨by (with_reducible repeat (first | refine blk_drewN ?_ _ | refine blk_drew ?_ | refine blk_alloc ?_ _)); exact BK202.out⟩, ⟨by repeat (first | (with_reducible first | exact HB.out | apply below_alloc | apply pw_below_drewN | apply below_drew1 | refine below_set ?_ GE197.out | refine below_set ?_ GE202.out) | exact HB.out)⟩⟩
                  case round =>
                    clear H'
                    try clear c1
                    try clear c2
                    try clear p2
                    try clear q2
                    try clear hx2
                    try clear c3
                    try clear c3b0
                    try clear c3b1
                    try clear c4
                    try clear c4b0
                    try clear c4b1
                    try clear c9
                    try clear c9b0
                    try clear c10
                    try clear c10b0
                    try clear c14
                    try clear c16
                    try clear c16b0
                    try clear c16b1
                    try clear c17
                    try clear c19
                    try clear c19b0
                    try clear c19b1
                    try clear c20
                    try clear p20
                    try clear q20
                    try clear hx20
                    try clear c22
                    try clear c22b0
                    try clear c22b1
                    try clear c23
                    try clear c23b0
                    try clear c24
                    try clear c24b0
                    try clear c25
                    try clear c27
                    try clear hcz12_0
                    try clear hcz12_1
                    try clear hcz12_2
                    try clear hcz15_0
                    try clear hcz15_1
                    try clear hcz15_2
                    try clear hcz18_0
                    try clear hcz18_1
                    try clear hcz18_2
                    try clear hcz21_0
                    try clear hcz21_1
                    try clear hcz21_2
                    try clear hcz26_0
                    try clear hcz26_1
                    try clear hcz26_2
                    try clear hcz28_0
                    try clear hcz28_1
                    try clear hcz28_2
                    try clear hcz6_0
                    try clear hcz6_1
                    try clear hcz6_2
                    try clear hfz12_0
                    try clear hfz12_1
                    try clear hfz12_2
                    try clear hfz15_0
                    try clear hfz15_1
                    try clear hfz15_2
                    try clear hfz18_0
                    try clear hfz18_1
                    try clear hfz18_2
                    try clear hfz21_0
                    try clear hfz21_1
                    try clear hfz21_2
                    try clear hfz26_0
                    try clear hfz26_1
                    try clear hfz26_2
                    try clear hfz28_0
                    try clear hfz28_1
                    try clear hfz28_2
                    try clear hfz6_0
                    try clear hfz6_1
                    try clear hfz6_2
                    try clear hx201_0
                    try clear hx201_1
                    try clear hx201_2
                    try clear hx203_0
                    try clear p2
                    try clear p20
                    try clear p201
                    try clear p203
                    try clear q2
                    try clear q20
                    try clear q201
                    try clear q203
                    obtain ⟨x8_3, x9_3, rfl, rfl, HA, HK3, HO_5, BK197, BK202, HB⟩ := hrel
                    cases gk with
                    | zero => exact absurd HA.out (by simp [pentaglotref27_Values.l1])
                    | succ k3 =>
                      have H := HA.out
                      clear HA
                      simp only [pentaglotref27_Values.l1] at H
                      by_cases c29 : x9_3 < (((rd_T52 l0_1 x6_1).f2).length : Int)
                      · rw [if_pos c29] at H
                        have c29b0 : decide (x9_3 < (((rd_T52 l0_1 x6_1).f2).length : Int)) = true := decide_eq_true c29
                        clear c29
                        by_cases c30 : 0 ≤ x9_3
                        · rw [if_pos c30] at H
                          have c30b0 : decide (0 ≤ x9_3) = true := decide_eq_true c30
                          clear c30
                          by_cases c31 : 0 ≤ (rd ((rd_T52 l0_1 x6_1).f2) x9_3)
                          · rw [if_pos c31] at H
                            have c31b0 : decide (0 ≤ (rd ((rd_T52 l0_1 x6_1).f2) x9_3)) = true := decide_eq_true c31
                            clear c31
                            by_cases c32 : (rd ((rd_T52 l0_1 x6_1).f2) x9_3) < (x5_1.length : Int)
                            · rw [if_pos c32] at H
                              have c32b0 : decide ((rd ((rd_T52 l0_1 x6_1).f2) x9_3) < (x5_1.length : Int)) = true := decide_eq_true c32
                              clear c32
                              by_cases c33 : ((rd_T52 l0_1 x6_1).f0) = 4
                              · rw [if_pos c33] at H
                                have c33b0 : (((rd_T52 l0_1 x6_1).f0) == 4) = true := beq_iff_eq.mpr c33
                                have c33b1 : (((rd_T52 l0_1 x6_1).f0) != 4) = false := bne_eq_false_iff_eq.mpr c33
                                clear c33
                                have H' := Aside0.mk H
                                clear H
                                have hnb34 := NB202_197.out
                                have hnc34 := NB197_202.out
                                have hcz35_0 : wr.cell? ⟨gb202, 0, none⟩ = some (.int .i64 ((rd_T52 l0_1 x6_1).f0)) := (blk_cell BK202.out 0).trans rfl
                                have hcz35_1 : wr.cell? ⟨gb202, 1, none⟩ = some (.int .i64 ((rd_T52 l0_1 x6_1).f1)) := (blk_cell BK202.out 1).trans rfl
                                have hcz35_2 : wr.cell? ⟨gb202, 2, none⟩ = some (.slice A201_2 ((rd_T52 l0_1 x6_1).f2).length c201_2) := (blk_cell BK202.out 2).trans rfl
                                have hfz35_0 := blk_frozen BK202.out 0
                                have hfz35_1 := blk_frozen BK202.out 1
                                have hfz35_2 := blk_frozen BK202.out 2
                                have p205 : 0 ≤ (x9_3 : Int) := of_decide_eq_true (by first | (with_reducible assumption) | assumption)
                                have q205 : x9_3 < (((rd_T52 l0_1 x6_1).f2).length : Int) := of_decide_eq_true (by first | (with_reducible assumption) | assumption)
                                obtain ⟨ad205, e205, hx205_0⟩ := Kd.at_int HR201_2.out x9_3 p205 q205
                                cases e205
                                replace hx205_0 := (HB.out.cell (World.block_lt_of_cell? w _ hx205_0)).trans hx205_0
                                replace p205 := eq_true p205
                                replace q205 := eq_true q205
                                obtain ⟨Ao36, co36, eo36⟩ := Kd.R_slice HO_5.out
                                subst eo36
                                have p206 : 0 ≤ ((rd ((rd_T52 l0_1 x6_1).f2) x9_3) : Int) := of_decide_eq_true (by first | (with_reducible assumption) | assumption)
                                have q206 : (rd ((rd_T52 l0_1 x6_1).f2) x9_3) < (x5_1.length : Int) := of_decide_eq_true (by first | (with_reducible assumption) | assumption)
                                obtain ⟨ad206, e206, hx206_0⟩ := Kd.at_bool (Kd.R_reads' HO_5.out).2.2 (rd ((rd_T52 l0_1 x6_1).f2) x9_3) p206 q206
                                cases e206
                                replace p206 := eq_true p206
                                replace q206 := eq_true q206
                                go_wp2
                                go_roundg k3
                                case measure => have := HK1.out; have := HJ10.out; have := HK3.out; omega
                                case rel => exact ⟨(!(rdOf false x5_1 (rd ((rd_T52 l0_1 x6_1).f2) x9_3))), (wrap64 (x9_3 + 1)), (by first | rfl | (simp; done) | (simp [*]; done)), (by first | rfl | (simp; done) | (simp [*]; done)), H', ⟨by have := HK1.out; have := HJ10.out; have := HK3.out; omega⟩, ⟨by (with_reducible repeat (first | apply Kd.R_alloc | apply Kd.R_drewN | apply Kd.R_drew)); exact HO_5.out⟩, ⟨by (with_reducible repeat (first | refine blk_drewN ?_ _ | refine blk_drew ?_ | refine blk_alloc ?_ _)); exact BK197.out⟩, ⟨by (with_reducible repeat (first | refine blk_drewN ?_ _ | refine blk_drew ?_ | refine blk_alloc ?_ _)); exact BK202.out⟩, ⟨by repeat (first | (with_reducible first | exact HB.out | apply below_alloc | apply pw_below_drewN | apply below_drew1 | refine below_set ?_ GE197.out | refine below_set ?_ GE202.out) | exact HB.out)⟩⟩
                              · rw [if_neg c33] at H
                                have c33b0 : (((rd_T52 l0_1 x6_1).f0) == 4) = false := beq_eq_false_iff_ne.mpr c33
                                have c33b1 : (((rd_T52 l0_1 x6_1).f0) != 4) = true := bne_iff_ne.mpr c33
                                by_cases c37 : ((rd_T52 l0_1 x6_1).f0) = 5
                                · rw [if_pos c37] at H
                                  have c37b0 : (((rd_T52 l0_1 x6_1).f0) == 5) = true := beq_iff_eq.mpr c37
                                  have c37b1 : (((rd_T52 l0_1 x6_1).f0) != 5) = false := bne_eq_false_iff_eq.mpr c37
                                  clear c37
                                  by_cases c38 : x8_3 = true
                                  · subst c38
                                    have H1 : (pentaglotref27_Values.l1 k3 l1 x5_1 x6_1 (rdOf false x5_1 (rd ((rd_T52 l0_1 x6_1).f2) x9_3)) (wrap64 (x9_3 + 1)) a0_0 l0_1 a0_2 ((rd_T52 l0_1 x6_1).f0) ((rd_T52 l0_1 x6_1).f1) ((rd_T52 l0_1 x6_1).f2)) = some r := by rw [if_pos rfl] at H; exact H
                                    clear H
                                    have H := H1
                                    clear H1
                                    have H' := Aside0.mk H
                                    clear H
                                    have hnb39 := NB202_197.out
                                    have hnc39 := NB197_202.out
                                    have hcz40_0 : wr.cell? ⟨gb202, 0, none⟩ = some (.int .i64 ((rd_T52 l0_1 x6_1).f0)) := (blk_cell BK202.out 0).trans rfl
                                    have hcz40_1 : wr.cell? ⟨gb202, 1, none⟩ = some (.int .i64 ((rd_T52 l0_1 x6_1).f1)) := (blk_cell BK202.out 1).trans rfl
                                    have hcz40_2 : wr.cell? ⟨gb202, 2, none⟩ = some (.slice A201_2 ((rd_T52 l0_1 x6_1).f2).length c201_2) := (blk_cell BK202.out 2).trans rfl
                                    have hfz40_0 := blk_frozen BK202.out 0
                                    have hfz40_1 := blk_frozen BK202.out 1
                                    have hfz40_2 := blk_frozen BK202.out 2
                                    have p205 : 0 ≤ (x9_3 : Int) := of_decide_eq_true (by first | (with_reducible assumption) | assumption)
                                    have q205 : x9_3 < (((rd_T52 l0_1 x6_1).f2).length : Int) := of_decide_eq_true (by first | (with_reducible assumption) | assumption)
                                    obtain ⟨ad205, e205, hx205_0⟩ := Kd.at_int HR201_2.out x9_3 p205 q205
                                    cases e205
                                    replace hx205_0 := (HB.out.cell (World.block_lt_of_cell? w _ hx205_0)).trans hx205_0
                                    replace p205 := eq_true p205
                                    replace q205 := eq_true q205
                                    obtain ⟨Ao41, co41, eo41⟩ := Kd.R_slice HO_5.out
                                    subst eo41
                                    have p206 : 0 ≤ ((rd ((rd_T52 l0_1 x6_1).f2) x9_3) : Int) := of_decide_eq_true (by first | (with_reducible assumption) | assumption)
                                    have q206 : (rd ((rd_T52 l0_1 x6_1).f2) x9_3) < (x5_1.length : Int) := of_decide_eq_true (by first | (with_reducible assumption) | assumption)
                                    obtain ⟨ad206, e206, hx206_0⟩ := Kd.at_bool (Kd.R_reads' HO_5.out).2.2 (rd ((rd_T52 l0_1 x6_1).f2) x9_3) p206 q206
                                    cases e206
                                    replace p206 := eq_true p206
                                    replace q206 := eq_true q206
                                    go_wp2
                                    go_roundg k3
                                    case measure => have := HK1.out; have := HJ10.out; have := HK3.out; omega
                                    case rel => exact ⟨(rdOf false x5_1 (rd ((rd_T52 l0_1 x6_1).f2) x9_3)), (wrap64 (x9_3 + 1)), (by first | rfl | (simp; done) | (simp [*]; done)), (by first | rfl | (simp; done) | (simp [*]; done)), H', ⟨by have := HK1.out; have := HJ10.out; have := HK3.out; omega⟩, ⟨by (with_reducible repeat (first | apply Kd.R_alloc | apply Kd.R_drewN | apply Kd.R_drew)); exact HO_5.out⟩, ⟨by (with_reducible repeat (first | refine blk_drewN ?_ _ | refine blk_drew ?_ | refine blk_alloc ?_ _)); exact BK197.out⟩, ⟨by (with_reducible repeat (first | refine blk_drewN ?_ _ | refine blk_drew ?_ | refine blk_alloc ?_ _)); exact BK202.out⟩, ⟨by repeat (first | (with_reducible first | exact HB.out | apply below_alloc | apply pw_below_drewN | apply below_drew1 | refine below_set ?_ GE197.out | refine below_set ?_ GE202.out) | exact HB.out)⟩⟩
                                  · replace c38 := Bool.eq_false_iff.mpr c38
                                    subst c38
                                    have H1 : (pentaglotref27_Values.l1 k3 l1 x5_1 x6_1 false (wrap64 (x9_3 + 1)) a0_0 l0_1 a0_2 ((rd_T52 l0_1 x6_1).f0) ((rd_T52 l0_1 x6_1).f1) ((rd_T52 l0_1 x6_1).f2)) = some r := by rw [if_neg (show ¬ (false = true) by decide)] at H; exact H
                                    clear H
                                    have H := H1
                                    clear H1
                                    have H' := Aside0.mk H
                                    clear H
                                    have hnb42 := NB202_197.out
                                    have hnc42 := NB197_202.out
                                    have hcz43_0 : wr.cell? ⟨gb202, 0, none⟩ = some (.int .i64 ((rd_T52 l0_1 x6_1).f0)) := (blk_cell BK202.out 0).trans rfl
                                    have hcz43_1 : wr.cell? ⟨gb202, 1, none⟩ = some (.int .i64 ((rd_T52 l0_1 x6_1).f1)) := (blk_cell BK202.out 1).trans rfl
                                    have hcz43_2 : wr.cell? ⟨gb202, 2, none⟩ = some (.slice A201_2 ((rd_T52 l0_1 x6_1).f2).length c201_2) := (blk_cell BK202.out 2).trans rfl
                                    have hfz43_0 := blk_frozen BK202.out 0
                                    have hfz43_1 := blk_frozen BK202.out 1
                                    have hfz43_2 := blk_frozen BK202.out 2
                                    have p205 : 0 ≤ (x9_3 : Int) := of_decide_eq_true (by first | (with_reducible assumption) | assumption)
                                    have q205 : x9_3 < (((rd_T52 l0_1 x6_1).f2).length : Int) := of_decide_eq_true (by first | (with_reducible assumption) | assumption)
                                    obtain ⟨ad205, e205, hx205_0⟩ := Kd.at_int HR201_2.out x9_3 p205 q205
                                    cases e205
                                    replace hx205_0 := (HB.out.cell (World.block_lt_of_cell? w _ hx205_0)).trans hx205_0
                                    replace p205 := eq_true p205
                                    replace q205 := eq_true q205
                                    obtain ⟨Ao44, co44, eo44⟩ := Kd.R_slice HO_5.out
                                    subst eo44
                                    have p206 : 0 ≤ ((rd ((rd_T52 l0_1 x6_1).f2) x9_3) : Int) := of_decide_eq_true (by first | (with_reducible assumption) | assumption)
                                    have q206 : (rd ((rd_T52 l0_1 x6_1).f2) x9_3) < (x5_1.length : Int) := of_decide_eq_true (by first | (with_reducible assumption) | assumption)
                                    obtain ⟨ad206, e206, hx206_0⟩ := Kd.at_bool (Kd.R_reads' HO_5.out).2.2 (rd ((rd_T52 l0_1 x6_1).f2) x9_3) p206 q206
                                    cases e206
                                    replace p206 := eq_true p206
                                    replace q206 := eq_true q206
                                    go_wp2
                                    go_roundg k3
                                    case measure => have := HK1.out; have := HJ10.out; have := HK3.out; omega
                                    case rel => exact ⟨(false), (wrap64 (x9_3 + 1)), (by first | rfl | (simp; done) | (simp [*]; done)), (by first | rfl | (simp; done) | (simp [*]; done)), H', ⟨by have := HK1.out; have := HJ10.out; have := HK3.out; omega⟩, ⟨by (with_reducible repeat (first | apply Kd.R_alloc | apply Kd.R_drewN | apply Kd.R_drew)); exact HO_5.out⟩, ⟨by (with_reducible repeat (first | refine blk_drewN ?_ _ | refine blk_drew ?_ | refine blk_alloc ?_ _)); exact BK197.out⟩, ⟨by (with_reducible repeat (first | refine blk_drewN ?_ _ | refine blk_drew ?_ | refine blk_alloc ?_ _)); exact BK202.out⟩, ⟨by repeat (first | (with_reducible first | exact HB.out | apply below_alloc | apply pw_below_drewN | apply below_drew1 | refine below_set ?_ GE197.out | refine below_set ?_ GE202.out) | exact HB.out)⟩⟩
                                · rw [if_neg c37] at H
                                  have c37b0 : (((rd_T52 l0_1 x6_1).f0) == 5) = false := beq_eq_false_iff_ne.mpr c37
                                  have c37b1 : (((rd_T52 l0_1 x6_1).f0) != 5) = true := bne_iff_ne.mpr c37
                                  by_cases c45 : ((rd_T52 l0_1 x6_1).f0) = 6
                                  · rw [if_pos c45] at H
                                    have c45b0 : (((rd_T52 l0_1 x6_1).f0) == 6) = true := beq_iff_eq.mpr c45
                                    have c45b1 : (((rd_T52 l0_1 x6_1).f0) != 6) = false := bne_eq_false_iff_eq.mpr c45
                                    clear c45
                                    by_cases c46 : x8_3 = true
                                    · subst c46
                                      have H1 : (pentaglotref27_Values.l1 k3 l1 x5_1 x6_1 true (wrap64 (x9_3 + 1)) a0_0 l0_1 a0_2 ((rd_T52 l0_1 x6_1).f0) ((rd_T52 l0_1 x6_1).f1) ((rd_T52 l0_1 x6_1).f2)) = some r := by rw [if_pos rfl] at H; exact H
                                      clear H
                                      have H := H1
                                      clear H1
                                      have H' := Aside0.mk H
                                      clear H
                                      have hnb47 := NB202_197.out
                                      have hnc47 := NB197_202.out
                                      have hcz48_0 : wr.cell? ⟨gb202, 0, none⟩ = some (.int .i64 ((rd_T52 l0_1 x6_1).f0)) := (blk_cell BK202.out 0).trans rfl
                                      have hcz48_1 : wr.cell? ⟨gb202, 1, none⟩ = some (.int .i64 ((rd_T52 l0_1 x6_1).f1)) := (blk_cell BK202.out 1).trans rfl
                                      have hcz48_2 : wr.cell? ⟨gb202, 2, none⟩ = some (.slice A201_2 ((rd_T52 l0_1 x6_1).f2).length c201_2) := (blk_cell BK202.out 2).trans rfl
                                      have hfz48_0 := blk_frozen BK202.out 0
                                      have hfz48_1 := blk_frozen BK202.out 1
                                      have hfz48_2 := blk_frozen BK202.out 2
                                      have p205 : 0 ≤ (x9_3 : Int) := of_decide_eq_true (by first | (with_reducible assumption) | assumption)
                                      have q205 : x9_3 < (((rd_T52 l0_1 x6_1).f2).length : Int) := of_decide_eq_true (by first | (with_reducible assumption) | assumption)
                                      obtain ⟨ad205, e205, hx205_0⟩ := Kd.at_int HR201_2.out x9_3 p205 q205
                                      cases e205
                                      replace hx205_0 := (HB.out.cell (World.block_lt_of_cell? w _ hx205_0)).trans hx205_0
                                      replace p205 := eq_true p205
                                      replace q205 := eq_true q205
                                      obtain ⟨Ao49, co49, eo49⟩ := Kd.R_slice HO_5.out
                                      subst eo49
                                      have p206 : 0 ≤ ((rd ((rd_T52 l0_1 x6_1).f2) x9_3) : Int) := of_decide_eq_true (by first | (with_reducible assumption) | assumption)
                                      have q206 : (rd ((rd_T52 l0_1 x6_1).f2) x9_3) < (x5_1.length : Int) := of_decide_eq_true (by first | (with_reducible assumption) | assumption)
                                      obtain ⟨ad206, e206, hx206_0⟩ := Kd.at_bool (Kd.R_reads' HO_5.out).2.2 (rd ((rd_T52 l0_1 x6_1).f2) x9_3) p206 q206
                                      cases e206
                                      replace p206 := eq_true p206
                                      replace q206 := eq_true q206
                                      go_wp2
                                      go_roundg k3
                                      case measure => have := HK1.out; have := HJ10.out; have := HK3.out; omega
                                      case rel => exact ⟨(true), (wrap64 (x9_3 + 1)), (by first | rfl | (simp; done) | (simp [*]; done)), (by first | rfl | (simp; done) | (simp [*]; done)), H', ⟨by have := HK1.out; have := HJ10.out; have := HK3.out; omega⟩, ⟨by (with_reducible repeat (first | apply Kd.R_alloc | apply Kd.R_drewN | apply Kd.R_drew)); exact HO_5.out⟩, ⟨by (with_reducible repeat (first | refine blk_drewN ?_ _ | refine blk_drew ?_ | refine blk_alloc ?_ _)); exact BK197.out⟩, ⟨by (with_reducible repeat (first | refine blk_drewN ?_ _ | refine blk_drew ?_ | refine blk_alloc ?_ _)); exact BK202.out⟩, ⟨by repeat (first | (with_reducible first | exact HB.out | apply below_alloc | apply pw_below_drewN | apply below_drew1 | refine below_set ?_ GE197.out | refine below_set ?_ GE202.out) | exact HB.out)⟩⟩
                                    · replace c46 := Bool.eq_false_iff.mpr c46
                                      subst c46
                                      have H1 : (pentaglotref27_Values.l1 k3 l1 x5_1 x6_1 (rdOf false x5_1 (rd ((rd_T52 l0_1 x6_1).f2) x9_3)) (wrap64 (x9_3 + 1)) a0_0 l0_1 a0_2 ((rd_T52 l0_1 x6_1).f0) ((rd_T52 l0_1 x6_1).f1) ((rd_T52 l0_1 x6_1).f2)) = some r := by rw [if_neg (show ¬ (false = true) by decide)] at H; exact H
                                      clear H
                                      have H := H1
                                      clear H1
                                      have H' := Aside0.mk H
                                      clear H
                                      have hnb50 := NB202_197.out
                                      have hnc50 := NB197_202.out
                                      have hcz51_0 : wr.cell? ⟨gb202, 0, none⟩ = some (.int .i64 ((rd_T52 l0_1 x6_1).f0)) := (blk_cell BK202.out 0).trans rfl
                                      have hcz51_1 : wr.cell? ⟨gb202, 1, none⟩ = some (.int .i64 ((rd_T52 l0_1 x6_1).f1)) := (blk_cell BK202.out 1).trans rfl
                                      have hcz51_2 : wr.cell? ⟨gb202, 2, none⟩ = some (.slice A201_2 ((rd_T52 l0_1 x6_1).f2).length c201_2) := (blk_cell BK202.out 2).trans rfl
                                      have hfz51_0 := blk_frozen BK202.out 0
                                      have hfz51_1 := blk_frozen BK202.out 1
                                      have hfz51_2 := blk_frozen BK202.out 2
                                      have p205 : 0 ≤ (x9_3 : Int) := of_decide_eq_true (by first | (with_reducible assumption) | assumption)
                                      have q205 : x9_3 < (((rd_T52 l0_1 x6_1).f2).length : Int) := of_decide_eq_true (by first | (with_reducible assumption) | assumption)
                                      obtain ⟨ad205, e205, hx205_0⟩ := Kd.at_int HR201_2.out x9_3 p205 q205
                                      cases e205
                                      replace hx205_0 := (HB.out.cell (World.block_lt_of_cell? w _ hx205_0)).trans hx205_0
                                      replace p205 := eq_true p205
                                      replace q205 := eq_true q205
                                      obtain ⟨Ao52, co52, eo52⟩ := Kd.R_slice HO_5.out
                                      subst eo52
                                      have p206 : 0 ≤ ((rd ((rd_T52 l0_1 x6_1).f2) x9_3) : Int) := of_decide_eq_true (by first | (with_reducible assumption) | assumption)
                                      have q206 : (rd ((rd_T52 l0_1 x6_1).f2) x9_3) < (x5_1.length : Int) := of_decide_eq_true (by first | (with_reducible assumption) | assumption)
                                      obtain ⟨ad206, e206, hx206_0⟩ := Kd.at_bool (Kd.R_reads' HO_5.out).2.2 (rd ((rd_T52 l0_1 x6_1).f2) x9_3) p206 q206
                                      cases e206
                                      replace p206 := eq_true p206
                                      replace q206 := eq_true q206
                                      go_wp2
                                      go_roundg k3
                                      case measure => have := HK1.out; have := HJ10.out; have := HK3.out; omega
                                      case rel => exact ⟨(rdOf false x5_1 (rd ((rd_T52 l0_1 x6_1).f2) x9_3)), (wrap64 (x9_3 + 1)), (by first | rfl | (simp; done) | (simp [*]; done)), (by first | rfl | (simp; done) | (simp [*]; done)), H', ⟨by have := HK1.out; have := HJ10.out; have := HK3.out; omega⟩, ⟨by (with_reducible repeat (first | apply Kd.R_alloc | apply Kd.R_drewN | apply Kd.R_drew)); exact HO_5.out⟩, ⟨by (with_reducible repeat (first | refine blk_drewN ?_ _ | refine blk_drew ?_ | refine blk_alloc ?_ _)); exact BK197.out⟩, ⟨by (with_reducible repeat (first | refine blk_drewN ?_ _ | refine blk_drew ?_ | refine blk_alloc ?_ _)); exact BK202.out⟩, ⟨by repeat (first | (with_reducible first | exact HB.out | apply below_alloc | apply pw_below_drewN | apply below_drew1 | refine below_set ?_ GE197.out | refine below_set ?_ GE202.out) | exact HB.out)⟩⟩
                                  · rw [if_neg c45] at H
                                    have c45b0 : (((rd_T52 l0_1 x6_1).f0) == 6) = false := beq_eq_false_iff_ne.mpr c45
                                    have c45b1 : (((rd_T52 l0_1 x6_1).f0) != 6) = true := bne_iff_ne.mpr c45
                                    have H' := Aside0.mk H
                                    clear H
                                    have hnb53 := NB202_197.out
                                    have hnc53 := NB197_202.out
                                    have hcz54_0 : wr.cell? ⟨gb202, 0, none⟩ = some (.int .i64 ((rd_T52 l0_1 x6_1).f0)) := (blk_cell BK202.out 0).trans rfl
                                    have hcz54_1 : wr.cell? ⟨gb202, 1, none⟩ = some (.int .i64 ((rd_T52 l0_1 x6_1).f1)) := (blk_cell BK202.out 1).trans rfl
                                    have hcz54_2 : wr.cell? ⟨gb202, 2, none⟩ = some (.slice A201_2 ((rd_T52 l0_1 x6_1).f2).length c201_2) := (blk_cell BK202.out 2).trans rfl
                                    have hfz54_0 := blk_frozen BK202.out 0
                                    have hfz54_1 := blk_frozen BK202.out 1
                                    have hfz54_2 := blk_frozen BK202.out 2
                                    have p205 : 0 ≤ (x9_3 : Int) := of_decide_eq_true (by first | (with_reducible assumption) | assumption)
                                    have q205 : x9_3 < (((rd_T52 l0_1 x6_1).f2).length : Int) := of_decide_eq_true (by first | (with_reducible assumption) | assumption)
                                    obtain ⟨ad205, e205, hx205_0⟩ := Kd.at_int HR201_2.out x9_3 p205 q205
                                    cases e205
                                    replace hx205_0 := (HB.out.cell (World.block_lt_of_cell? w _ hx205_0)).trans hx205_0
                                    replace p205 := eq_true p205
                                    replace q205 := eq_true q205
                                    obtain ⟨Ao55, co55, eo55⟩ := Kd.R_slice HO_5.out
                                    subst eo55
                                    have p206 : 0 ≤ ((rd ((rd_T52 l0_1 x6_1).f2) x9_3) : Int) := of_decide_eq_true (by first | (with_reducible assumption) | assumption)
                                    have q206 : (rd ((rd_T52 l0_1 x6_1).f2) x9_3) < (x5_1.length : Int) := of_decide_eq_true (by first | (with_reducible assumption) | assumption)
                                    obtain ⟨ad206, e206, hx206_0⟩ := Kd.at_bool (Kd.R_reads' HO_5.out).2.2 (rd ((rd_T52 l0_1 x6_1).f2) x9_3) p206 q206
                                    cases e206
                                    replace p206 := eq_true p206
                                    replace q206 := eq_true q206
                                    go_wp2
                                    go_roundg k3
                                    case measure => have := HK1.out; have := HJ10.out; have := HK3.out; omega
                                    case rel => exact ⟨(x8_3), (wrap64 (x9_3 + 1)), (by first | rfl | (simp; done) | (simp [*]; done)), (by first | rfl | (simp; done) | (simp [*]; done)), H', ⟨by have := HK1.out; have := HJ10.out; have := HK3.out; omega⟩, ⟨by (with_reducible repeat (first | apply Kd.R_alloc | apply Kd.R_drewN | apply Kd.R_drew)); exact HO_5.out⟩, ⟨by (with_reducible repeat (first | refine blk_drewN ?_ _ | refine blk_drew ?_ | refine blk_alloc ?_ _)); exact BK197.out⟩, ⟨by (with_reducible repeat (first | refine blk_drewN ?_ _ | refine blk_drew ?_ | refine blk_alloc ?_ _)); exact BK202.out⟩, ⟨by repeat (first | (with_reducible first | exact HB.out | apply below_alloc | apply pw_below_drewN | apply below_drew1 | refine below_set ?_ GE197.out | refine below_set ?_ GE202.out) | exact HB.out)⟩⟩
                            · rw [if_neg c32] at H
                              exact absurd H (by simp)
                          · rw [if_neg c31] at H
                            exact absurd H (by simp)
                        · rw [if_neg c30] at H
                          exact absurd H (by simp)
                      · rw [if_neg c29] at H
                        have c29b0 : decide (x9_3 < (((rd_T52 l0_1 x6_1).f2).length : Int)) = false := decide_eq_false c29
                        clear c29
                        by_cases c56 : 0 ≤ x6_1
                        · rw [if_pos c56] at H
                          have c56b0 : decide (0 ≤ x6_1) = true := decide_eq_true c56
                          clear c56
                          by_cases c57 : x6_1 < (x5_1.length : Int)
                          · rw [if_pos c57] at H
                            have c57b0 : decide (x6_1 < (x5_1.length : Int)) = true := decide_eq_true c57
                            clear c57
                            obtain ⟨y204, hy204⟩ : ∃ y_ : List Bool, y_ = (x5_1.set (x6_1 : Int).toNat x8_3) := ⟨_, rfl⟩
                            replace H : (pentaglotref27_Values.l0 k3 l1 y204 (wrap64 (x6_1 + 1)) a0_0 l0_1 a0_2) = some r := by first | (rw [hy204]; with_reducible exact H) | (have H2_ := (Option.bind_some _ _).symm.trans H; rw [hy204]; with_reducible exact H2_) | (have H2_ := (Option.bind_some _ _).symm.trans H; with_reducible exact H2_) | with_reducible exact H | (rw [hy204]; exact H) | exact H
                            have Ny204 := Aside0.mk hy204
                            clear hy204
                            have H' := Aside0.mk H
                            clear H
                            have hnb59 := NB202_197.out
                            have hnc59 := NB197_202.out
                            have hcz60_0 : wr.cell? ⟨gb202, 0, none⟩ = some (.int .i64 ((rd_T52 l0_1 x6_1).f0)) := (blk_cell BK202.out 0).trans rfl
                            have hcz60_1 : wr.cell? ⟨gb202, 1, none⟩ = some (.int .i64 ((rd_T52 l0_1 x6_1).f1)) := (blk_cell BK202.out 1).trans rfl
                            have hcz60_2 : wr.cell? ⟨gb202, 2, none⟩ = some (.slice A201_2 ((rd_T52 l0_1 x6_1).f2).length c201_2) := (blk_cell BK202.out 2).trans rfl
                            have hfz60_0 := blk_frozen BK202.out 0
                            have hfz60_1 := blk_frozen BK202.out 1
                            have hfz60_2 := blk_frozen BK202.out 2
                            have p58 : 0 ≤ (x6_1 : Int) := of_decide_eq_true (by first | (with_reducible assumption) | assumption)
                            have q58 : (x6_1 : Int) < ((x5_1.length : Int) : Int) := of_decide_eq_true (by first | (with_reducible assumption) | assumption)
                            obtain ⟨go58, co58, eo58, gb58, gl58, cl58, HG58⟩ := Kd.R_form HO_5.out (by omega)
                            (first | cases eo58 | (injection eo58 with ea_ en_ ec_; (first | subst ea_ | (injection ea_ with ea_; subst ea_)); subst ec_; clear en_))
                            have GB58 := Aside0.mk gb58
                            have GG58 := Aside0.mk HG58
                            clear gb58 gl58 HG58
                            obtain ⟨hx58_0, hf58_0⟩ := Kd.R_celln false HO_5.out (x6_1 : Int) p58 q58
                            replace p58 := eq_true p58
                            replace q58 := eq_true q58
                            have HP61 := Kd.R_putg HO_5.out (x6_1 : Int) x8_3
                            go_wp2_with (first | ((with_reducible refine gate_store (t := 4) (p := 83) rfl ?_); refine store_event (t := 4) (p := 83) (v := ?vo_w62) (w1 := (wr.setCell ⟨go58, (x6_1 : Int).toNat, none⟩ (.bool x8_3))) ?hg ?ho ?hn ?hr ?_; (case ho => rfl); (case hg => rfl); (case hn => rfl); (case hr => first | (go_simp; done) | (go_simp; rfl)); intro w62 hw; have hg : wr.grownBy w62 (some go58) := (by rw [hw]; exact HP61.2); have hp_ : Kd.R Kd.bool 4 w62 w.heap.size (fun _ => True) (.slice (some ⟨go58, 0, none⟩) x5_1.length co58) y204 := (by rw [hw, Ny204.out]; exact HP61.1); clear HP61; have n0_ := Aside0.mk (hp_); have n1_ := Aside0.mk (blk_grown (g := gb197) (o := .cells #[.int .i64 a0_0, .slice (some ad201) l0_1.length c0_1, .int .i64 a0_2] 24 (0, 0)) (by (with_reducible repeat (first | refine blk_drewN ?_ _ | refine blk_drew ?_ | refine blk_alloc ?_ _)); exact BK197.out) hg (Kd.R_ne HO_5.out BK197.out (by decide))); have n2_ := Aside0.mk (blk_grown (g := gb202) (o := .cells #[.int .i64 ((rd_T52 l0_1 x6_1).f0), .int .i64 ((rd_T52 l0_1 x6_1).f1), .slice A201_2 ((rd_T52 l0_1 x6_1).f2).length c201_2] 52 (0, 0)) (by (with_reducible repeat (first | refine blk_drewN ?_ _ | refine blk_drew ?_ | refine blk_alloc ?_ _)); exact BK202.out) hg (Kd.R_ne HO_5.out BK202.out (by decide))); have n3_ := Aside0.mk ((by rw [hw]; exact below_set (HB.out) GB58.out : Below w.heap.size w w62)); clear HO_5; clear BK197; clear BK202; clear HB; have HO_5 := n0_; have BK197 := n1_; have BK202 := n2_; have HB := n3_; clear n0_ n1_ n2_ n3_; clear hg hw hp_))
                            go_roundg k3
                            case measure => have := HK1.out; have := HJ10.out; have := HK3.out; omega
                            case rel => exact ⟨(y204), (wrap64 (x6_1 + 1)), (by first | rfl | (simp; done) | (simp [*]; done)), H', ⟨by have := HK1.out; have := HJ10.out; have := HK3.out; omega⟩, ⟨by (with_reducible repeat (first | apply Kd.R_alloc | apply Kd.R_drewN | apply Kd.R_drew)); exact HO_5.out⟩, ⟨by (with_reducible repeat (first | refine blk_drewN ?_ _ | refine blk_drew ?_ | refine blk_alloc ?_ _)); exact BK197.out⟩, ⟨by repeat (first | (with_reducible first | exact HB.out | apply below_alloc | apply pw_below_drewN | apply below_drew1 | refine below_set ?_ GE197.out | refine below_set ?_ GE202.out) | exact HB.out)⟩⟩
                          · rw [if_neg c57] at H
                            exact absurd H (by simp)
                        · rw [if_neg c56] at H
                          exact absurd H (by simp)
            · rw [if_neg c10] at H
              exact absurd H (by simp)
          · rw [if_neg c9] at H
            have c9b0 : decide (x6_1 < (l0_1.length : Int)) = false := decide_eq_false c9
            clear c9
            obtain rfl := Option.some.inj H
            have hcz63_0 : wr.cell? ⟨gb197, 0, none⟩ = some (.int .i64 a0_0) := (blk_cell BK197.out 0).trans rfl
            have hcz63_1 : wr.cell? ⟨gb197, 1, none⟩ = some (.slice A0_1 l0_1.length c0_1) := (blk_cell BK197.out 1).trans rfl
            have hcz63_2 : wr.cell? ⟨gb197, 2, none⟩ = some (.int .i64 a0_2) := (blk_cell BK197.out 2).trans rfl
            have hfz63_0 := blk_frozen BK197.out 0
            have hfz63_1 := blk_frozen BK197.out 1
            have hfz63_2 := blk_frozen BK197.out 2
            go_wp2
            go_ret
            exact ⟨_, by first | rfl | (simp [errW_none, errW_some] <;> rfl) | (simp [*, errW_none, errW_some] <;> rfl), by (with_reducible repeat (first | apply Kd.R_alloc | apply Kd.R_drewN | apply Kd.R_drew)); exact HO_5.out, by repeat (first | (with_reducible first | exact HB.out | apply below_alloc | apply pw_below_drewN | apply below_drew1 | refine below_set ?_ GE197.out) | exact HB.out)⟩
    · rw [if_neg c4] at H
      exact absurd H (by simp)
  · rw [if_neg c3] at H
    exact absurd H (by simp)

/-! ### pentaglotref27_Eval: function 18, by hand -/
def pentaglotref27_Eval.f (k : Nat) (a0_0 : Int) (l0_1 : List (S52)) (a0_2 : Int) (l1 : List Bool) : Option Bool := (pentaglotref27_Values.f k a0_0 l0_1 a0_2 l1).bind fun t165 => (if 0 ≤ a0_2 then (if a0_2 < (t165.length : Int) then (some (rdOf false t165 a0_2)) else (none)) else (none))
theorem pentaglotref27_Eval.mono (a0_0 : Int) (l0_1 : List (S52)) (a0_2 : Int) (l1 : List Bool) (k : Nat) : LeO (pentaglotref27_Eval.f k a0_0 l0_1 a0_2 l1) (pentaglotref27_Eval.f (k + 1) a0_0 l0_1 a0_2 l1) :=
  LeO.bind (pentaglotref27_Values.mono _ _ _ _ _) (fun t => LeO.refl _)
set_option maxHeartbeats 8000000 in
set_option maxRecDepth 100000 in
theorem pentaglotref27_Eval.calls (k : Nat) (a0_0 : Int) (A0_1 : Option Addr) (c0_1 : Nat) (l0_1 : List (S52)) (a0_2 : Int) (A1 : Option Addr) (c1 : Nat) (l1 : List Bool) (r : Bool) (w : World) (hr0_1 : Kd.C k52 w A0_1 l0_1.length l0_1) (hc0_1 : l0_1.length ≤ c0_1) (hr1 : Kd.C Kd.bool w A1 l1.length l1) (hc1 : l1.length ≤ c1) (h : pentaglotref27_Eval.f k a0_0 l0_1 a0_2 l1 = some r) :
    Calls Try.prog 18 #[.agg #[.int .i64 a0_0, .slice A0_1 l0_1.length c0_1, .int .i64 a0_2], .slice A1 l1.length c1] w fun e w' => e = .returned (.bool r) ∧ Below w.heap.size w w' := by
  obtain ⟨t, ht, h2⟩ := Option.bind_eq_some_iff.1 h
  by_cases h0 : 0 ≤ a0_2
  case neg => rw [if_neg h0] at h2; cases h2
  rw [if_pos h0] at h2
  by_cases h1 : a0_2 < (t.length : Int)
  case neg => rw [if_neg h1] at h2; cases h2
  rw [if_pos h1] at h2
  obtain rfl := Option.some.inj h2
  clear h h2
  have hcall := fun (W : World) (hW : Below w.heap.size w W) => pentaglotref27_Values.calls k a0_0 A0_1 c0_1 l0_1 a0_2 A1 c1 l1 t W (Kd.C_below hr0_1 hW) hc0_1 (Kd.C_below hr1 hW) hc1 ht
  clear hr0_1 hr1 ht
  have hu24 := Try.underlying24
  go_enter Try.func18, Try.ntmps18
  go_wp2_with fail
  go_region_with (go_at_call 32; refine (hcall _ (by repeat (first | exact Below.refl _ _ | apply below_alloc | apply pw_below_drewN | apply below_drew1))).mono ?_; rintro e w1 ⟨v, rfl, hv, hb⟩; obtain ⟨Av, cv, rfl, hcv, hCv⟩ := Kd.R_reads hv; obtain ⟨adv, rfl, hxv⟩ := ReadsOf.at_ (Kd.reads_of_C (d := false) hCv) a0_2 h0 h1; have hz : w1.cell? ⟨w.heap.size, 2, none⟩ = some (.int .i64 a0_2) := (hb.cell (p := ⟨w.heap.size, 2, none⟩) (by simp)).trans (by simp); have HB := Aside0.mk hb; clear hv hb hcv hCv)
  all_goals go_wp2
  all_goals go_ret
  all_goals exact ⟨rfl, (by repeat (first | exact Below.refl _ _ | apply below_alloc | apply pw_below_drewN | apply below_drew1) : Below w.heap.size w _).trans (HB.out.mono (by simp))⟩

end Go.Proofs.Ytflknolnclnhfaa.P
