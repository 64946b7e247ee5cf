-- Written by the session's own program wip/tools/xprint.py out of the translation, with the kit's print.py on a scratch copy; functions given by hand stand among them.
import Derived.Test.YtfampmajmbediaaPx0
import Derived.Test.YtfampmajmbediaaPx3
namespace Go.Proofs.Ytfampmajmbediaa.P
open Go.RowKit Go.Proofs.YtfampmajmbediaaW.PrintWords Go.Proofs.YtfampmajmbediaaW.PrintLast Go.Proofs.YtfampmajmbediaaW.PrintMore
attribute [local go_sem] max2_int min2_int max_two min_two max_three min_three max_four min_four   -- for this text's walks alone
set_option linter.unusedVariables false
set_option linter.unusedSimpArgs false

/-! ### abstract_At: function 36 -/
def abstract_At.l0 : Nat → List Int → Int → Int → ByteArray → List Int → List (S27) → Option (ByteArray × List Int × (List (S27)) × Bool)
 | 0, _, _, _, _, _, _ => none
 | k + 1, x8, x9, x10, x129000, x129001, x129002 => if x10 < x9 then (if 0 ≤ x10 then (if x10 < (x8.length : Int) then (if (rd x8 x10) < 0 then (some ((⟨#[]⟩ : ByteArray), ([] : List Int), ([] : List (S27)), false)) else (if (rd x8 x10) ≥ (x129002.length : Int) then (some ((⟨#[]⟩ : ByteArray), ([] : List Int), ([] : List (S27)), false)) else (if 0 ≤ (rd x8 x10) then (if (rd x8 x10) < (x129002.length : Int) then (abstract_At.l0 k x8 x9 (wrap64 (x10 + 1)) ((rd_T27 x129002 (rd x8 x10)).f0) ((rd_T27 x129002 (rd x8 x10)).f1) ((rd_T27 x129002 (rd x8 x10)).f2)) else (none)) else (none)))) else (none)) else (none)) else ((abstract_clone.f k x129000 x129001 x129002).bind fun bt132 => (some (bt132.1, bt132.2.1, bt132.2.2, true)))
def abstract_At.f (k : Nat) (a0_0 : ByteArray) (l0_1 : List Int) (l0_2 : List (S27)) (l1 : List Int) : Option (ByteArray × List Int × (List (S27)) × Bool) := abstract_At.l0 k l1 (l1.length : Int) 0 a0_0 l0_1 l0_2
theorem abstract_At.mono_l : ∀ k, (∀ y0 y1 y2 y3 y4 y5, LeO (abstract_At.l0 k y0 y1 y2 y3 y4 y5) (abstract_At.l0 (k + 1) y0 y1 y2 y3 y4 y5))
 | 0 => fun _ _ _ _ _ _ r h => by simp [abstract_At.l0] at h
 | k + 1 => by
  have ih0 := abstract_At.mono_l k
  ·intro y0 y1 y2 y3 y4 y5
   unfold abstract_At.l0
   repeat' first
   | (with_reducible exact ih0 _ _ _ _ _ _)
   | (with_reducible exact abstract_clone.mono _ _ _ _)
   | (with_reducible exact LeO.refl _)
   | (with_reducible exact LeO.none _)
   | (with_reducible refine LeO.ite ?_ ?_)
   | (with_reducible refine LeO.bind ?_ (fun _ => ?_))
   | exact ih0 _ _ _ _ _ _
   | exact abstract_clone.mono _ _ _ _
   | exact LeO.none _
   | refine LeO.ite ?_ ?_
   | refine LeO.bind ?_ (fun _ => ?_)
theorem abstract_At.mono : ∀ a0 a1 a2 a3 k, LeO (abstract_At.f k a0 a1 a2 a3) (abstract_At.f (k + 1) a0 a1 a2 a3) := by
 intro a0 a1 a2 a3 k
 have ih0 := abstract_At.mono_l k
 unfold abstract_At.f
 repeat' first
   | (with_reducible exact ih0 _ _ _ _ _ _)
   | (with_reducible exact abstract_clone.mono _ _ _ _)
   | (with_reducible exact LeO.refl _)
   | (with_reducible exact LeO.none _)
   | (with_reducible refine LeO.ite ?_ ?_)
   | (with_reducible refine LeO.bind ?_ (fun _ => ?_))
   | exact ih0 _ _ _ _ _ _
   | exact abstract_clone.mono _ _ _ _
   | exact LeO.none _
   | refine LeO.ite ?_ ?_
   | refine LeO.bind ?_ (fun _ => ?_)
set_option maxHeartbeats 8000000 in
set_option maxRecDepth 100000 in
theorem abstract_At.calls (k : Nat) (a0_0 : ByteArray) (P0_1_ : Nat → Prop) (A0_1 : Option Addr) (c0_1 : Nat) (l0_1 : List Int) (P0_2_ : Nat → Prop) (A0_2 : Option Addr) (c0_2 : Nat) (l0_2 : List (S27)) (A1 : Option Addr) (c1 : Nat) (l1 : List Int) (r1 : ByteArray) (r2 : List Int) (r3 : List (S27)) (r4 : Bool) (w : World) (hs0_1 : Kd.V (Kd.int .i64) 3 w w.heap.size (fun k_ => P0_1_ k_) (.slice A0_1 l0_1.length c0_1) l0_1) (hs0_2 : Kd.V k27 27 w w.heap.size (fun k_ => P0_2_ k_) (.slice A0_2 l0_2.length c0_2) l0_2) (hr1 : Kd.C (Kd.int .i64) w A1 l1.length l1) (hc1 : l1.length ≤ c1) (h : abstract_At.f k a0_0 l0_1 l0_2 l1 = some (r1, r2, r3, r4)) :
  Calls Try.prog 36 #[.agg #[.string a0_0, .slice A0_1 l0_1.length c0_1, .slice A0_2 l0_2.length c0_2], .slice A1 l1.length c1] w fun e w' => ∃ v1_ v2_ : Value, e = .returned (.tuple #[.agg #[.string r1, v1_, v2_], .bool r4]) ∧ Kd.R (Kd.int .i64) 3 w' w.heap.size (fun k_ => (w.heap.size ≤ k_)) v1_ r2 ∧ Kd.R k27 27 w' w.heap.size (fun k_ => (w.heap.size ≤ k_) ∧ some k_ ≠ (v1_ : Value).ownBlock) v2_ r3 ∧ Below w.heap.size w w' := by
 have hu27 := Try.underlying27
 have HO0_1 := Aside0.mk (show Kd.V (Kd.int .i64) 3 w w.heap.size (fun k_ => ((P0_1_ k_ ∨ P0_2_ k_) ∨ w.heap.size ≤ k_)) (.slice A0_1 l0_1.length c0_1) l0_1 from Kd.V_mono hs0_1 (fun k_ hk => .inl (.inl hk)))
 have HO0_2 := Aside0.mk (show Kd.V k27 27 w w.heap.size (fun k_ => ((P0_1_ k_ ∨ P0_2_ k_) ∨ w.heap.size ≤ k_)) (.slice A0_2 l0_2.length c0_2) l0_2 from Kd.V_mono hs0_2 (fun k_ hk => .inl (.inr hk)))
 have HR1 := Aside0.mk hr1
 have HC1 := Aside0.mk hc1
 clear hr1 hc1
 have HB := Aside0.mk (Below.refl w.heap.size w)
 have H : (abstract_At.l0 k l1 (l1.length : Int) 0 a0_0 l0_1 l0_2) = some (r1, r2, r3, r4) := h
 clear h
 have H' := Aside0.mk H
 clear H
 go_enter Try.func36, Try.ntmps36
 go_wp2_with (first | ((with_reducible refine gate_dst (N := 2) rfl ?_); (try (refine gate_guard (by rfl) ?_; dsimp only)); refine box_event ?hg (N := 2) ?hd (cs := #[.string a0_0, .slice A0_1 l0_1.length c0_1, .slice A0_2 l0_2.length c0_2]) (t := 27) ?hr ?_; (case hd => rfl); (case hg => rfl); (case hr => first | (go_simp; done) | (go_simp; rfl)); intro gb128 hg w3 hbox hb; have n0_ := Aside0.mk (Kd.V_below (Kd.V_elderB (vq_ HO0_1) gb128 (Nat.le_of_eq hg.symm)) hb); have n1_ := Aside0.mk (Kd.V_below (Kd.V_elderB (vq_ HO0_2) gb128 (Nat.le_of_eq hg.symm)) hb); have n2_ := Aside0.mk (below_step (be_ HB) hb); have n3_ := Aside0.mk (hbox); have n4_ := Aside0.mk ((by rw [hg]; exact (below_size (be_ HB)) : w.heap.size ≤ gb128)); have n5_ := Aside0.mk ((by rw [hg]; exact (below_size (be_ HB)) : w.heap.size ≤ gb128)); clear HO0_1; clear HO0_2; clear HB; have HO0_1 := n0_; have HO0_2 := n1_; have HB := n2_; have BK128 := n3_; have GW128 := n4_; have GE128 := n5_; clear n0_ n1_ n2_ n3_ n4_ n5_; clear hb hbox hg) | ((with_reducible refine gate_dst (N := 4) rfl ?_); (try (refine gate_guard (by rfl) ?_; dsimp only)); refine box_event ?hg (N := 4) ?hd (cs := #[.string (⟨#[]⟩ : ByteArray), .slice none 0 0, .slice none 0 0]) (t := 27) ?hr ?_; (case hd => rfl); (case hg => rfl); (case hr => first | (go_simp; done) | (go_simp; rfl)); intro gb129 hg w4 hbox hb; have n0_ := Aside0.mk (Kd.V_below (Kd.V_elderB (vq_ HO0_1) gb129 (Nat.le_of_eq hg.symm)) hb); have n1_ := Aside0.mk (Kd.V_below (Kd.V_elderB (vq_ HO0_2) gb129 (Nat.le_of_eq hg.symm)) hb); have n2_ := Aside0.mk (blk_below (g := gb128) (o := .cells #[.string a0_0, .slice A0_1 l0_1.length c0_1, .slice A0_2 l0_2.length c0_2] 27 (0, 0)) (bq_ BK128) hb); have n3_ := Aside0.mk (below_step (be1_ HB GE128) hb); have n4_ := Aside0.mk (hbox); have n5_ := Aside0.mk ((by rw [hg]; exact (below_size (be1_ HB GE128)) : w.heap.size ≤ gb129)); have n6_ := Aside0.mk ((by rw [hg]; exact (below_size (be1_ HB GE128)) : w.heap.size ≤ gb129)); have n7_ := Aside0.mk ((by rw [hg]; exact Nat.ne_of_lt (blk_lt (g := gb128) (o := .cells #[.string a0_0, .slice A0_1 l0_1.length c0_1, .slice A0_2 l0_2.length c0_2] 27 (0, 0)) (bq_ BK128)) : gb128 ≠ gb129)); have n8_ := Aside0.mk ((by rw [hg]; exact Nat.ne_of_gt (blk_lt (g := gb128) (o := .cells #[.string a0_0, .slice A0_1 l0_1.length c0_1, .slice A0_2 l0_2.length c0_2] 27 (0, 0)) (bq_ BK128)) : gb129 ≠ gb128)); clear HO0_1; clear HO0_2; clear BK128; clear HB; have HO0_1 := n0_; have HO0_2 := n1_; have BK128 := n2_; have HB := n3_; have BK129 := n4_; have GW129 := n5_; have GE129 := n6_; have NB128_129 := n7_; have NB129_128 := n8_; clear n0_ n1_ n2_ n3_ n4_ n5_ n6_ n7_ n8_; clear hb hbox hg))
 go_loopg [10] k (fun kq v10 w' => ∃ (x10_1 : Int) (x129000_1 : ByteArray) (x129001_1 : List Int) (x129002_1 : List (S27)) (x130000_1 : ByteArray) (u129001 : Value) (u129002 : Value), v10 = .int .i64 x10_1 ∧ Aside0 (abstract_At.l0 kq l1 (l1.length : Int) x10_1 x129000_1 x129001_1 x129002_1 = some (r1, r2, r3, r4)) ∧ Aside0 (kq ≤ k) ∧ Aside0 (Kd.V (Kd.int .i64) 3 w' w.heap.size (fun k_ => ((P0_1_ k_ ∨ P0_2_ k_) ∨ w.heap.size ≤ k_) ∧ k_ ≠ gb128 ∧ k_ ≠ gb129) u129001 x129001_1) ∧ Aside0 (Kd.V k27 27 w' w.heap.size (fun k_ => ((P0_1_ k_ ∨ P0_2_ k_) ∨ w.heap.size ≤ k_) ∧ k_ ≠ gb128 ∧ k_ ≠ gb129) u129002 x129002_1) ∧ Aside0 (w'.heap[gb128]? = some (.cells #[.string x129000_1, u129001, u129002] 27 (0, 0))) ∧ Aside0 (w'.heap[gb129]? = some (.cells #[.string x130000_1, (.slice none 0 0), (.slice none 0 0)] 27 (0, 0))) ∧ Aside0 (Below w.heap.size w w'))
 case atStart => exact ⟨(0), (a0_0), (l0_1), (l0_2), ((⟨#[]⟩ : ByteArray)), (.slice A0_1 l0_1.length c0_1), (.slice A0_2 l0_2.length c0_2), fi_, H', ⟨Nat.le_refl _⟩, ⟨by (with_reducible repeat (first | apply Kd.V_alloc | apply Kd.V_drewN | apply Kd.V_drew)); exact Kd.V_mono HO0_1.out (fun _ hk => ⟨hk.1.1, ⟨hk.1.2, hk.2⟩⟩)⟩, ⟨by (with_reducible repeat (first | apply Kd.V_alloc | apply Kd.V_drewN | apply Kd.V_drew)); exact Kd.V_mono HO0_2.out (fun _ hk => ⟨hk.1.1, ⟨hk.1.2, hk.2⟩⟩)⟩, ⟨bq_ BK128⟩, ⟨bq_ BK129⟩, ⟨be2_ HB GE128 GE129⟩⟩
 case round =>
  clear H'
  try clear c1
  try clear p2
  try clear c3
  obtain ⟨x10_1, x129000_1, x129001_1, x129002_1, x130000_1, u129001, u129002, rfl, HA, HK1, HO_129001, HO_129002, BK128, BK129, HB⟩ := hrel
  cases gk with
  | zero => exact absurd HA.out (by simp [abstract_At.l0])
  | succ k1 =>
   have H := HA.out
   clear HA
   simp only [abstract_At.l0] at H
   by_cases c5 : x10_1 < (l1.length : Int)
   ·rw [if_pos c5] at H
    have c5b0 : decide (x10_1 < (l1.length : Int)) = true := decide_eq_true c5
    clear c5
    by_cases c6 : 0 ≤ x10_1
    ·rw [if_pos c6] at H
     have c6b0 : decide (0 ≤ x10_1) = true := decide_eq_true c6
     clear c6
     by_cases c7 : x10_1 < (l1.length : Int)
     ·rw [if_pos c7] at H
      have c7b0 : decide (x10_1 < (l1.length : Int)) = true := decide_eq_true c7
      clear c7
      by_cases c8 : (rd l1 x10_1) < 0
      ·rw [if_pos c8] at H
       have c8b0 : decide ((rd l1 x10_1) < 0) = true := decide_eq_true c8
       clear c8
       simp only [Option.some.injEq, Prod.mk.injEq] at H
       obtain ⟨rfl, rfl, rfl, rfl⟩ := H
       have p130 : 0 ≤ (x10_1 : Int) := of_decide_eq_true (by first | (with_reducible assumption) | assumption)
       have q130 : x10_1 < (l1.length : Int) := of_decide_eq_true (by first | (with_reducible assumption) | assumption)
       obtain ⟨ad130, e130, hx130_0⟩ := Kd.at_int HR1.out x10_1 p130 q130
       cases e130
       replace hx130_0 := (HB.out.cell (World.block_lt_of_cell? w _ hx130_0)).trans hx130_0
       replace p130 := eq_true p130
       replace q130 := eq_true q130
       have hnb9 := NB129_128.out
       have hnc9 := NB128_129.out
       have hcz10_0 : wr.cell? ⟨gb129, 0, none⟩ = some (.string x130000_1) := (blk_cell BK129.out 0).trans rfl
       have hcz10_1 : wr.cell? ⟨gb129, 1, none⟩ = some (.slice none 0 0) := (blk_cell BK129.out 1).trans rfl
       have hcz10_2 : wr.cell? ⟨gb129, 2, none⟩ = some (.slice none 0 0) := (blk_cell BK129.out 2).trans rfl
       have hfz10_0 := blk_frozen BK129.out 0
       have hfz10_1 := blk_frozen BK129.out 1
       have hfz10_2 := blk_frozen BK129.out 2
       go_wp2
       refine bodyPost_ret (results_ct rfl _ _ gb129 27 #[.string (⟨#[]⟩ : ByteArray), .slice none 0 0, .slice none 0 0] (0, 0) _ rfl (by (with_reducible repeat (first | refine blk_drewN ?_ _ | refine blk_drew ?_ | refine blk_alloc ?_ _)); refine blk_put (cs := #[.string (⟨#[]⟩ : ByteArray), .slice none 0 0, .slice none 0 0]) ?_ 2 _ rfl; (with_reducible repeat (first | refine blk_drewN ?_ _ | refine blk_drew ?_ | refine blk_alloc ?_ _)); refine blk_put (cs := #[.string (⟨#[]⟩ : ByteArray), .slice none 0 0, .slice none 0 0]) ?_ 1 _ rfl; (with_reducible repeat (first | refine blk_drewN ?_ _ | refine blk_drew ?_ | refine blk_alloc ?_ _)); refine blk_put (cs := #[.string x130000_1, .slice none 0 0, .slice none 0 0]) ?_ 0 _ rfl; (with_reducible repeat (first | refine blk_drewN ?_ _ | refine blk_drew ?_ | refine blk_alloc ?_ _)); exact BK129.out) Try.underlying27 rfl (by kernel_rfl)) rfl ?_
       exact ⟨_, _, er_, by first | exact Kd.R_nil _ _ _ _ _ | exact Kd.N_nil _ _ _ _ _ | exact Kd.V_nil _ _ _ _ _ | exact Kd.Q_nil _ _ _ _ _ | exact Kd.S_nil _ _ _ _ _, by first | exact Kd.R_nil _ _ _ _ _ | exact Kd.N_nil _ _ _ _ _ | exact Kd.V_nil _ _ _ _ _ | exact Kd.Q_nil _ _ _ _ _ | exact Kd.S_nil _ _ _ _ _, be2_ HB GE128 GE129⟩
      ·rw [if_neg c8] at H
       have c8b0 : decide ((rd l1 x10_1) < 0) = false := decide_eq_false c8
       clear c8
       by_cases c11 : (rd l1 x10_1) ≥ (x129002_1.length : Int)
       ·rw [if_pos c11] at H
        have c11b0 : decide ((x129002_1.length : Int) ≤ (rd l1 x10_1)) = true := decide_eq_true c11
        clear c11
        simp only [Option.some.injEq, Prod.mk.injEq] at H
        obtain ⟨rfl, rfl, rfl, rfl⟩ := H
        have p130 : 0 ≤ (x10_1 : Int) := of_decide_eq_true (by first | (with_reducible assumption) | assumption)
        have q130 : x10_1 < (l1.length : Int) := of_decide_eq_true (by first | (with_reducible assumption) | assumption)
        obtain ⟨ad130, e130, hx130_0⟩ := Kd.at_int HR1.out x10_1 p130 q130
        cases e130
        replace hx130_0 := (HB.out.cell (World.block_lt_of_cell? w _ hx130_0)).trans hx130_0
        replace p130 := eq_true p130
        replace q130 := eq_true q130
        have hnb12 := NB128_129.out
        have hnc12 := NB129_128.out
        have hcz13_0 : wr.cell? ⟨gb128, 0, none⟩ = some (.string x129000_1) := (blk_cell BK128.out 0).trans rfl
        have hcz13_1 : wr.cell? ⟨gb128, 1, none⟩ = some (u129001) := (blk_cell BK128.out 1).trans rfl
        have hcz13_2 : wr.cell? ⟨gb128, 2, none⟩ = some (u129002) := (blk_cell BK128.out 2).trans rfl
        have hfz13_0 := blk_frozen BK128.out 0
        have hfz13_1 := blk_frozen BK128.out 1
        have hfz13_2 := blk_frozen BK128.out 2
        obtain ⟨Ao14, co14, eo14⟩ := Kd.V_slice HO_129002.out
        subst eo14
        have hcz15_0 : wr.cell? ⟨gb129, 0, none⟩ = some (.string x130000_1) := (blk_cell BK129.out 0).trans rfl
        have hcz15_1 : wr.cell? ⟨gb129, 1, none⟩ = some (.slice none 0 0) := (blk_cell BK129.out 1).trans rfl
        have hcz15_2 : wr.cell? ⟨gb129, 2, none⟩ = some (.slice none 0 0) := (blk_cell BK129.out 2).trans rfl
        have hfz15_0 := blk_frozen BK129.out 0
        have hfz15_1 := blk_frozen BK129.out 1
        have hfz15_2 := blk_frozen BK129.out 2
        go_wp2
        refine bodyPost_ret (results_ct rfl _ _ gb129 27 #[.string (⟨#[]⟩ : ByteArray), .slice none 0 0, .slice none 0 0] (0, 0) _ rfl (by (with_reducible repeat (first | refine blk_drewN ?_ _ | refine blk_drew ?_ | refine blk_alloc ?_ _)); refine blk_put (cs := #[.string (⟨#[]⟩ : ByteArray), .slice none 0 0, .slice none 0 0]) ?_ 2 _ rfl; (with_reducible repeat (first | refine blk_drewN ?_ _ | refine blk_drew ?_ | refine blk_alloc ?_ _)); refine blk_put (cs := #[.string (⟨#[]⟩ : ByteArray), .slice none 0 0, .slice none 0 0]) ?_ 1 _ rfl; (with_reducible repeat (first | refine blk_drewN ?_ _ | refine blk_drew ?_ | refine blk_alloc ?_ _)); refine blk_put (cs := #[.string x130000_1, .slice none 0 0, .slice none 0 0]) ?_ 0 _ rfl; (with_reducible repeat (first | refine blk_drewN ?_ _ | refine blk_drew ?_ | refine blk_alloc ?_ _)); exact BK129.out) Try.underlying27 rfl (by kernel_rfl)) rfl ?_
        exact ⟨_, _, er_, by first | exact Kd.R_nil _ _ _ _ _ | exact Kd.N_nil _ _ _ _ _ | exact Kd.V_nil _ _ _ _ _ | exact Kd.Q_nil _ _ _ _ _ | exact Kd.S_nil _ _ _ _ _, by first | exact Kd.R_nil _ _ _ _ _ | exact Kd.N_nil _ _ _ _ _ | exact Kd.V_nil _ _ _ _ _ | exact Kd.Q_nil _ _ _ _ _ | exact Kd.S_nil _ _ _ _ _, be2_ HB GE128 GE129⟩
       ·rw [if_neg c11] at H
        have c11b0 : decide ((x129002_1.length : Int) ≤ (rd l1 x10_1)) = false := decide_eq_false c11
        clear c11
        by_cases c16 : 0 ≤ (rd l1 x10_1)
        ·rw [if_pos c16] at H
         have c16b0 : decide (0 ≤ (rd l1 x10_1)) = true := decide_eq_true c16
         clear c16
         by_cases c17 : (rd l1 x10_1) < (x129002_1.length : Int)
         ·rw [if_pos c17] at H
          have c17b0 : decide ((rd l1 x10_1) < (x129002_1.length : Int)) = true := decide_eq_true c17
          clear c17
          have H' := Aside0.mk H
          clear H
          have p130 : 0 ≤ (x10_1 : Int) := of_decide_eq_true (by first | (with_reducible assumption) | assumption)
          have q130 : x10_1 < (l1.length : Int) := of_decide_eq_true (by first | (with_reducible assumption) | assumption)
          obtain ⟨ad130, e130, hx130_0⟩ := Kd.at_int HR1.out x10_1 p130 q130
          cases e130
          replace hx130_0 := (HB.out.cell (World.block_lt_of_cell? w _ hx130_0)).trans hx130_0
          replace p130 := eq_true p130
          replace q130 := eq_true q130
          have hnb18 := NB128_129.out
          have hnc18 := NB129_128.out
          have hcz19_0 : wr.cell? ⟨gb128, 0, none⟩ = some (.string x129000_1) := (blk_cell BK128.out 0).trans rfl
          have hcz19_1 : wr.cell? ⟨gb128, 1, none⟩ = some (u129001) := (blk_cell BK128.out 1).trans rfl
          have hcz19_2 : wr.cell? ⟨gb128, 2, none⟩ = some (u129002) := (blk_cell BK128.out 2).trans rfl
          have hfz19_0 := blk_frozen BK128.out 0
          have hfz19_1 := blk_frozen BK128.out 1
          have hfz19_2 := blk_frozen BK128.out 2
          obtain ⟨Ao20, co20, eo20⟩ := Kd.V_slice HO_129002.out
          subst eo20
          have p131 : 0 ≤ ((rd l1 x10_1) : Int) := of_decide_eq_true (by first | (with_reducible assumption) | assumption)
          have q131 : (rd l1 x10_1) < (x129002_1.length : Int) := of_decide_eq_true (by first | (with_reducible assumption) | assumption)
          obtain ⟨ad131, A131_1, c131_1, A131_2, c131_2, e131, hx131_0, hx131_1, hx131_2, hl131_1, hi131_1, hl131_2, hi131_2⟩ := at_T27 (Kd.V_reads' HO_129002.out).2.2 (rd l1 x10_1) p131 q131
          cases e131
          obtain ⟨ce131, hce131, hMe131, hcc131⟩ := Kd.V_get HO_129002.out z27 (rd l1 x10_1) p131 (by first | exact q131 | exact of_decide_eq_true (by first | (with_reducible assumption) | assumption) | (have e_ := (Kd.V_reads' HO_129002.out).1; omega))
          obtain ⟨ua131_1, uc131_1, ua131_2, uc131_2, rfl, ul131_1, ge131_1, ul131_2, ge131_2⟩ := k27_openF hMe131
          have hv131_1 := hcc131 1 _ rfl
          rw [add_field _ _ 1 (by omega)] at hv131_1
          replace hv131_1 := Option.some.inj (hv131_1.symm.trans hx131_1)
          injection hv131_1 with hva_ hvn_ hvc_
          rw [hva_] at ge131_1
          rw [hvc_] at ul131_1
          have HL131_1 := Aside0.mk (show Kd.V (Kd.int .i64) 3 _ w.heap.size _ _ ((rd_T27 x129002_1 (rd l1 x10_1)).f1) from Kd.V_mk ul131_1 ge131_1)
          clear hva_ hvn_ hvc_ ge131_1 ul131_1
          have hv131_2 := hcc131 2 _ rfl
          rw [add_field _ _ 2 (by omega)] at hv131_2
          replace hv131_2 := Option.some.inj (hv131_2.symm.trans hx131_2)
          injection hv131_2 with hva_ hvn_ hvc_
          rw [hva_] at ge131_2
          rw [hvc_] at ul131_2
          have HL131_2 := Aside0.mk (show Kd.V k27 27 _ w.heap.size _ _ ((rd_T27 x129002_1 (rd l1 x10_1)).f2) from Kd.V_mk ul131_2 ge131_2)
          clear hva_ hvn_ hvc_ ge131_2 ul131_2
          clear hcc131 hce131
          have HR131_1 := Aside0.mk hi131_1
          have HC131_1 := Aside0.mk hl131_1
          clear hi131_1 hl131_1
          have HR131_2 := Aside0.mk hi131_2
          have HC131_2 := Aside0.mk hl131_2
          clear hi131_2 hl131_2
          replace p131 := eq_true p131
          replace q131 := eq_true q131
          go_wp2
          go_roundg k1
          case measure => have := HK1.out; omega
          case rel => exact ⟨(wrap64 (x10_1 + 1)), ((rd_T27 x129002_1 (rd l1 x10_1)).f0), ((rd_T27 x129002_1 (rd l1 x10_1)).f1), ((rd_T27 x129002_1 (rd l1 x10_1)).f2), (x130000_1), (.slice A131_1 ((rd_T27 x129002_1 (rd l1 x10_1)).f1).length c131_1), (.slice A131_2 ((rd_T27 x129002_1 (rd l1 x10_1)).f2).length c131_2), fi_, H', ⟨by have := HK1.out; omega⟩, ⟨by (with_reducible repeat (first | apply Kd.V_alloc | apply Kd.V_drewN | apply Kd.V_drew)); exact Kd.V_mono (Kd.V_far (p := ⟨gb128, 2, none⟩) (Kd.V_far (p := ⟨gb128, 1, none⟩) (Kd.V_far (p := ⟨gb128, 0, none⟩) (Kd.V_mono HL131_1.out (fun k_ hk => (⟨hk, hk.2.1⟩ : _ ∧ k_ ≠ gb128))) (fun _ hk => hk.2) (.string ((rd_T27 x129002_1 (rd l1 x10_1)).f0))) (fun _ hk => hk.2) (.slice A131_1 ((rd_T27 x129002_1 (rd l1 x10_1)).f1).length c131_1)) (fun _ hk => hk.2) (.slice A131_2 ((rd_T27 x129002_1 (rd l1 x10_1)).f2).length c131_2)) (fun _ hk => ⟨hk.1.1, ⟨hk.1.2.1, hk.1.2.2⟩⟩)⟩, ⟨by (with_reducible repeat (first | apply Kd.V_alloc | apply Kd.V_drewN | apply Kd.V_drew)); exact Kd.V_mono (Kd.V_far (p := ⟨gb128, 2, none⟩) (Kd.V_far (p := ⟨gb128, 1, none⟩) (Kd.V_far (p := ⟨gb128, 0, none⟩) (Kd.V_mono HL131_2.out (fun k_ hk => (⟨hk, hk.2.1⟩ : _ ∧ k_ ≠ gb128))) (fun _ hk => hk.2) (.string ((rd_T27 x129002_1 (rd l1 x10_1)).f0))) (fun _ hk => hk.2) (.slice A131_1 ((rd_T27 x129002_1 (rd l1 x10_1)).f1).length c131_1)) (fun _ hk => hk.2) (.slice A131_2 ((rd_T27 x129002_1 (rd l1 x10_1)).f2).length c131_2)) (fun _ hk => ⟨hk.1.1, ⟨hk.1.2.1, hk.1.2.2⟩⟩)⟩, ⟨by (with_reducible repeat (first | refine blk_drewN ?_ _ | refine blk_drew ?_ | refine blk_alloc ?_ _)); refine blk_put (cs := #[.string ((rd_T27 x129002_1 (rd l1 x10_1)).f0), .slice A131_1 ((rd_T27 x129002_1 (rd l1 x10_1)).f1).length c131_1, .slice (some ad131) x129002_1.length co20]) ?_ 2 _ rfl; (with_reducible repeat (first | refine blk_drewN ?_ _ | refine blk_drew ?_ | refine blk_alloc ?_ _)); refine blk_put (cs := #[.string ((rd_T27 x129002_1 (rd l1 x10_1)).f0), u129001, .slice (some ad131) x129002_1.length co20]) ?_ 1 _ rfl; (with_reducible repeat (first | refine blk_drewN ?_ _ | refine blk_drew ?_ | refine blk_alloc ?_ _)); refine blk_put (cs := #[.string x129000_1, u129001, .slice (some ad131) x129002_1.length co20]) ?_ 0 _ rfl; (with_reducible repeat (first | refine blk_drewN ?_ _ | refine blk_drew ?_ | refine blk_alloc ?_ _)); exact BK128.out⟩, ⟨by (with_reducible repeat (first | refine blk_drewN ?_ _ | refine blk_drew ?_ | refine blk_alloc ?_ _)); refine blk_far ?_ NB129_128.out _; (with_reducible repeat (first | refine blk_drewN ?_ _ | refine blk_drew ?_ | refine blk_alloc ?_ _)); refine blk_far ?_ NB129_128.out _; (with_reducible repeat (first | refine blk_drewN ?_ _ | refine blk_drew ?_ | refine blk_alloc ?_ _)); refine blk_far ?_ NB129_128.out _; (with_reducible repeat (first | refine blk_drewN ?_ _ | refine blk_drew ?_ | refine blk_alloc ?_ _)); exact BK129.out⟩, ⟨be2_ HB GE128 GE129⟩⟩
         ·rw [if_neg c17] at H
          exact absurd H (by simp)
        ·rw [if_neg c16] at H
         exact absurd H (by simp)
     ·rw [if_neg c7] at H
      exact absurd H (by simp)
    ·rw [if_neg c6] at H
     exact absurd H (by simp)
   ·rw [if_neg c5] at H
    have c5b0 : decide (x10_1 < (l1.length : Int)) = false := decide_eq_false c5
    clear c5
    replace H := Option.bind_eq_some_iff.mp H
    obtain ⟨⟨t132, t133, t136⟩, A210, H⟩ := H
    replace H : (some (t132, t133, t136, true)) = some (r1, r2, r3, r4) := H
    have A21 := Aside0.mk A210
    clear A210
    simp only [Option.some.injEq, Prod.mk.injEq] at H
    obtain ⟨rfl, rfl, rfl, rfl⟩ := H
    have hnb22 := NB128_129.out
    have hnc22 := NB129_128.out
    have hcz23_0 : wr.cell? ⟨gb128, 0, none⟩ = some (.string x129000_1) := (blk_cell BK128.out 0).trans rfl
    have hcz23_1 : wr.cell? ⟨gb128, 1, none⟩ = some (u129001) := (blk_cell BK128.out 1).trans rfl
    have hcz23_2 : wr.cell? ⟨gb128, 2, none⟩ = some (u129002) := (blk_cell BK128.out 2).trans rfl
    have hfz23_0 := blk_frozen BK128.out 0
    have hfz23_1 := blk_frozen BK128.out 1
    have hfz23_2 := blk_frozen BK128.out 2
    obtain ⟨Ao24, co24, eo24⟩ := Kd.V_slice HO_129001.out
    subst eo24
    obtain ⟨Ao25, co25, eo25⟩ := Kd.V_slice HO_129002.out
    subst eo25
    go_wp2_with (first | ((with_reducible refine gate_callee (f := 56) rfl ?_); refine goesL_ (some 31) rfl rfl Try.func56 (by kernel_rfl) rfl #[.agg #[.string x129000_1, .slice Ao24 x129001_1.length co24, .slice Ao25 x129002_1.length co25]] rfl (by (try simp only [List.map_toArray, List.map_cons, List.map_nil]); first | done | rfl | (simp only [List.length_drop, List.length_take]; rfl)) ?_; (with_reducible refine (abstract_clone.calls k1 x129000_1 _ _ x129001_1 _ _ x129002_1 t132 t133 t136 _ ?side1 ?side2 ?side3 ?side4 A21.out).mono ?_); (case side1 => repeat (first | exact (Kd.V_reads' HO_129001.out).2.2 | (with_reducible refine Kd.C_alloc ?_ _) | (with_reducible refine Kd.C_drewN ?_ _) | (with_reducible refine Kd.C_drew ?_))); (case side2 => exact (Kd.V_reads' HO_129001.out).2.1); (case side3 => repeat (first | exact (Kd.V_reads' HO_129002.out).2.2 | (with_reducible refine Kd.C_alloc ?_ _) | (with_reducible refine Kd.C_drewN ?_ _) | (with_reducible refine Kd.C_drew ?_))); (case side4 => exact (Kd.V_reads' HO_129002.out).2.1); rintro e w26 ⟨v134, v137, rfl, ho0, ho1, hb⟩; refine ⟨_, rfl, ?_⟩; have n0_ := Aside0.mk (Kd.V_mono (Kd.V_told (Kd.V_told (Kd.V_old (vq_ HO_129001) hb) (Kd.R_base ho0)) (Kd.R_base ho1)) (fun _ h_ => h_.1)); have n1_ := Aside0.mk (Kd.V_mono (Kd.V_told (Kd.V_told (Kd.V_old (vq_ HO_129002) hb) (Kd.R_base ho0)) (Kd.R_base ho1)) (fun _ h_ => h_.1)); have n2_ := Aside0.mk (Kd.R_lower (Kd.R_newM (M := fun k_ => (w.heap.size ≤ k_)) ho0 (below_size (be2_ HB GE128 GE129)) (fun k_ h_ => h_)) (below_size (be2_ HB GE128 GE129))); have n3_ := Aside0.mk (Kd.R_lower (Kd.R_newB (Kd.R_newB (Kd.R_newM (M := fun k_ => (w.heap.size ≤ k_)) ho1 (below_size (be2_ HB GE128 GE129)) (fun k_ h_ => h_)) (g := gb128) (o := .cells #[.string x129000_1, .slice Ao24 x129001_1.length co24, .slice Ao25 x129002_1.length co25] 27 (0, 0)) (bq_ BK128)) (g := gb129) (o := .cells #[.string x130000_1, .slice none 0 0, .slice none 0 0] 27 (0, 0)) (bq_ BK129)) (below_size (be2_ HB GE128 GE129))); have n4_ := Aside0.mk (blk_below (g := gb128) (o := .cells #[.string x129000_1, .slice Ao24 x129001_1.length co24, .slice Ao25 x129002_1.length co25] 27 (0, 0)) (bq_ BK128) hb); have n5_ := Aside0.mk (blk_below (g := gb129) (o := .cells #[.string x130000_1, .slice none 0 0, .slice none 0 0] 27 (0, 0)) (bq_ BK129) hb); have n6_ := Aside0.mk (below_step (be2_ HB GE128 GE129) hb); clear HO_129001; clear HO_129002; clear BK128; clear BK129; clear HB; have HO_129001 := n0_; have HO_129002 := n1_; have HO135 := n2_; have HO138 := n3_; have BK128 := n4_; have BK129 := n5_; have HB := n6_; clear n0_ n1_ n2_ n3_ n4_ n5_ n6_; (try clear hb); (try clear hb2); (try clear hk); (try clear hi); (try clear ho0); (try clear ho1); have hcz27_0 : w26.cell? ⟨gb129, 0, none⟩ = some (.string x130000_1) := (blk_cell BK129.out 0).trans rfl; have hcz27_1 : w26.cell? ⟨gb129, 1, none⟩ = some (.slice none 0 0) := (blk_cell BK129.out 1).trans rfl; have hcz27_2 : w26.cell? ⟨gb129, 2, none⟩ = some (.slice none 0 0) := (blk_cell BK129.out 2).trans rfl; have hfz27_0 := blk_frozen BK129.out 0; have hfz27_1 := blk_frozen BK129.out 1; have hfz27_2 := blk_frozen BK129.out 2; obtain ⟨Ao28, co28, eo28⟩ := Kd.R_slice HO135.out; subst eo28; obtain ⟨Ao29, co29, eo29⟩ := Kd.R_slice HO138.out; subst eo29))
    refine bodyPost_ret (results_ct rfl _ _ gb129 27 #[.string t132, .slice Ao28 t133.length co28, .slice Ao29 t136.length co29] (0, 0) _ rfl (by (with_reducible repeat (first | refine blk_drewN ?_ _ | refine blk_drew ?_ | refine blk_alloc ?_ _)); refine blk_put (cs := #[.string t132, .slice Ao28 t133.length co28, .slice none 0 0]) ?_ 2 _ rfl; (with_reducible repeat (first | refine blk_drewN ?_ _ | refine blk_drew ?_ | refine blk_alloc ?_ _)); refine blk_put (cs := #[.string t132, .slice none 0 0, .slice none 0 0]) ?_ 1 _ rfl; (with_reducible repeat (first | refine blk_drewN ?_ _ | refine blk_drew ?_ | refine blk_alloc ?_ _)); refine blk_put (cs := #[.string x130000_1, .slice none 0 0, .slice none 0 0]) ?_ 0 _ rfl; (with_reducible repeat (first | refine blk_drewN ?_ _ | refine blk_drew ?_ | refine blk_alloc ?_ _)); exact BK129.out) Try.underlying27 rfl (by kernel_rfl)) rfl ?_
    exact ⟨_, _, er_, by (with_reducible repeat (first | apply Kd.R_alloc | apply Kd.R_drewN | apply Kd.R_drew)); exact Kd.R_mono (Kd.R_far (p := ⟨gb129, 2, none⟩) (Kd.R_far (p := ⟨gb129, 1, none⟩) (Kd.R_far (p := ⟨gb129, 0, none⟩) (Kd.R_types HO135.out BK129.out (by decide)) (fun _ hk => hk.2) (.string t132)) (fun _ hk => hk.2) (.slice Ao28 t133.length co28)) (fun _ hk => hk.2) (.slice Ao29 t136.length co29)) (fun _ hk => hk.1.1), by (with_reducible repeat (first | apply Kd.R_alloc | apply Kd.R_drewN | apply Kd.R_drew)); exact Kd.R_mono (Kd.R_far (p := ⟨gb129, 2, none⟩) (Kd.R_far (p := ⟨gb129, 1, none⟩) (Kd.R_far (p := ⟨gb129, 0, none⟩) (Kd.R_mono HO138.out (fun k_ hk => (⟨hk, hk.2⟩ : _ ∧ k_ ≠ gb129))) (fun _ hk => hk.2) (.string t132)) (fun _ hk => hk.2) (.slice Ao28 t133.length co28)) (fun _ hk => hk.2) (.slice Ao29 t136.length co29)) (fun _ hk => ⟨hk.1.1.1.1, hk.1.1.1.2⟩), be2_ HB GE128 GE129⟩

/-! ### anaphora_number: function 37 -/
def anaphora_number.f : Nat → ByteArray → List Int → List (S27) → Option (ByteArray)
 | 0, _, _, _ => none
 | k + 1, a0_0, l0_1, l0_2 => if a0_0.toList = ([78, 97, 109, 101] : List UInt8) then (some (⟨#[73, 116]⟩ : ByteArray)) else (if a0_0.toList = ([66, 111, 116, 104] : List UInt8) then (if (l0_2.length : Int) = 2 then (if 0 < (l0_2.length : Int) then ((anaphora_number.f k ((rd_T27 l0_2 0).f0) ((rd_T27 l0_2 0).f1) ((rd_T27 l0_2 0).f2)).bind fun t141 => (if t141.toList = ([] : List UInt8) then (some (⟨#[]⟩ : ByteArray)) else (if 1 < (l0_2.length : Int) then ((anaphora_number.f k ((rd_T27 l0_2 1).f0) ((rd_T27 l0_2 1).f1) ((rd_T27 l0_2 1).f2)).bind fun t143 => (if t143.toList = ([] : List UInt8) then (some (⟨#[]⟩ : ByteArray)) else (some (⟨#[84, 104, 101, 121]⟩ : ByteArray)))) else (none)))) else (none)) else (some (⟨#[]⟩ : ByteArray))) else (some (⟨#[]⟩ : ByteArray)))
theorem anaphora_number.mono_l : ∀ k, (∀ y0 y1 y2, LeO (anaphora_number.f k y0 y1 y2) (anaphora_number.f (k + 1) y0 y1 y2))
 | 0 => fun _ _ _ r h => by simp [anaphora_number.f] at h
 | k + 1 => by
  have ih0 := anaphora_number.mono_l k
  ·intro y0 y1 y2
   unfold anaphora_number.f
   repeat' first
   | (with_reducible exact ih0 _ _ _)
   | (with_reducible exact LeO.refl _)
   | (with_reducible exact LeO.none _)
   | (with_reducible refine LeO.ite ?_ ?_)
   | (with_reducible refine LeO.bind ?_ (fun _ => ?_))
   | exact ih0 _ _ _
   | exact LeO.none _
   | refine LeO.ite ?_ ?_
   | refine LeO.bind ?_ (fun _ => ?_)
theorem anaphora_number.mono : ∀ a0 a1 a2 k, LeO (anaphora_number.f k a0 a1 a2) (anaphora_number.f (k + 1) a0 a1 a2) := by
 intro a0 a1 a2 k
 have ih0 := anaphora_number.mono_l k
 exact ih0 a0 a1 a2
set_option maxHeartbeats 8000000 in
set_option maxRecDepth 100000 in
theorem anaphora_number.calls (k : Nat) : ∀ (a0_0 : ByteArray) (A0_1 : Option Addr) (c0_1 : Nat) (l0_1 : List Int) (A0_2 : Option Addr) (c0_2 : Nat) (l0_2 : List (S27)) (r : ByteArray) (w : World) (hr0_1 : Kd.C (Kd.int .i64) w A0_1 l0_1.length l0_1) (hc0_1 : l0_1.length ≤ c0_1) (hr0_2 : Kd.C k27 w A0_2 l0_2.length l0_2) (hc0_2 : l0_2.length ≤ c0_2) (h : anaphora_number.f k a0_0 l0_1 l0_2 = some r),
  Calls Try.prog 37 #[.agg #[.string a0_0, .slice A0_1 l0_1.length c0_1, .slice A0_2 l0_2.length c0_2]] w fun e w' => e = .returned (.string r) ∧ Below w.heap.size w w' := by
 induction k using Nat.strongRecOn with
 | _ k ih =>
 intro a0_0 A0_1 c0_1 l0_1 A0_2 c0_2 l0_2 r w hr0_1 hc0_1 hr0_2 hc0_2 h
 cases k with
 | zero => exact absurd h (by simp [anaphora_number.f])
 | succ k =>
 simp only [anaphora_number.f] at h
 have hu27 := Try.underlying27
 have HR0_1 := Aside0.mk hr0_1
 have HC0_1 := Aside0.mk hc0_1
 clear hr0_1 hc0_1
 have HR0_2 := Aside0.mk hr0_2
 have HC0_2 := Aside0.mk hc0_2
 clear hr0_2 hc0_2
 have HB := Aside0.mk (Below.refl w.heap.size w)
 have H : (if a0_0.toList = ([78, 97, 109, 101] : List UInt8) then (some (⟨#[73, 116]⟩ : ByteArray)) else (if a0_0.toList = ([66, 111, 116, 104] : List UInt8) then (if (l0_2.length : Int) = 2 then (if 0 < (l0_2.length : Int) then ((anaphora_number.f k ((rd_T27 l0_2 0).f0) ((rd_T27 l0_2 0).f1) ((rd_T27 l0_2 0).f2)).bind fun t141 => (if t141.toList = ([] : List UInt8) then (some (⟨#[]⟩ : ByteArray)) else (if 1 < (l0_2.length : Int) then ((anaphora_number.f k ((rd_T27 l0_2 1).f0) ((rd_T27 l0_2 1).f1) ((rd_T27 l0_2 1).f2)).bind fun t143 => (if t143.toList = ([] : List UInt8) then (some (⟨#[]⟩ : ByteArray)) else (some (⟨#[84, 104, 101, 121]⟩ : ByteArray)))) else (none)))) else (none)) else (some (⟨#[]⟩ : ByteArray))) else (some (⟨#[]⟩ : ByteArray)))) = some r := h
 clear h
 by_cases c2 : a0_0.toList = ([78, 97, 109, 101] : List UInt8)
 ·rw [if_pos c2] at H
  have c2b0 : (a0_0.toList == ([78, 97, 109, 101] : List UInt8)) = true := beq_iff_eq.mpr c2
  have c2b1 : (a0_0.toList != ([78, 97, 109, 101] : List UInt8)) = false := bne_eq_false_iff_eq.mpr c2
  clear c2
  obtain rfl := Option.some.inj H
  go_enter Try.func37, Try.ntmps37
  go_wp2_with (first | ((with_reducible refine gate_dst (N := 1) rfl ?_); refine box_event ?hg (N := 1) ?hd (cs := #[.string a0_0, .slice A0_1 l0_1.length c0_1, .slice A0_2 l0_2.length c0_2]) (t := 27) ?hr ?_; (case hd => rfl); (case hg => rfl); (case hr => first | (go_simp; done) | (go_simp; rfl)); intro gb139 hg w3 hbox hb; have n0_ := Aside0.mk (below_step (be_ HB) hb); have n1_ := Aside0.mk (hbox); have n2_ := Aside0.mk ((by rw [hg]; exact (below_size (be_ HB)) : w.heap.size ≤ gb139)); have n3_ := Aside0.mk ((by rw [hg]; exact (below_size (be_ HB)) : w.heap.size ≤ gb139)); clear HB; have HB := n0_; have BK139 := n1_; have GW139 := n2_; have GE139 := n3_; clear n0_ n1_ n2_ n3_; clear hb hbox hg; have hcz4_0 : w3.cell? ⟨gb139, 0, none⟩ = some (.string a0_0) := (blk_cell BK139.out 0).trans rfl; have hcz4_1 : w3.cell? ⟨gb139, 1, none⟩ = some (.slice A0_1 l0_1.length c0_1) := (blk_cell BK139.out 1).trans rfl; have hcz4_2 : w3.cell? ⟨gb139, 2, none⟩ = some (.slice A0_2 l0_2.length c0_2) := (blk_cell BK139.out 2).trans rfl; have hfz4_0 := blk_frozen BK139.out 0; have hfz4_1 := blk_frozen BK139.out 1; have hfz4_2 := blk_frozen BK139.out 2))
  go_ret
  exact ⟨er_, be1_ HB GE139⟩
 ·rw [if_neg c2] at H
  have c2b0 : (a0_0.toList == ([78, 97, 109, 101] : List UInt8)) = false := beq_eq_false_iff_ne.mpr c2
  have c2b1 : (a0_0.toList != ([78, 97, 109, 101] : List UInt8)) = true := bne_iff_ne.mpr c2
  by_cases c5 : a0_0.toList = ([66, 111, 116, 104] : List UInt8)
  ·rw [if_pos c5] at H
   have c5b0 : (a0_0.toList == ([66, 111, 116, 104] : List UInt8)) = true := beq_iff_eq.mpr c5
   have c5b1 : (a0_0.toList != ([66, 111, 116, 104] : List UInt8)) = false := bne_eq_false_iff_eq.mpr c5
   clear c5
   by_cases c6 : (l0_2.length : Int) = 2
   ·rw [if_pos c6] at H
    have c6b0 : ((l0_2.length : Int) == 2) = true := beq_iff_eq.mpr c6
    have c6b1 : ((l0_2.length : Int) != 2) = false := bne_eq_false_iff_eq.mpr c6
    clear c6
    by_cases c7 : 0 < (l0_2.length : Int)
    ·rw [if_pos c7] at H
     have c7b0 : decide (0 < (l0_2.length : Int)) = true := decide_eq_true c7
     have c7b1 : decide (0 < l0_2.length) = true := decide_eq_true (by omega)
     clear c7
     replace H := Option.bind_eq_some_iff.mp H
     obtain ⟨t141, A80, H⟩ := H
     replace H : (if t141.toList = ([] : List UInt8) then (some (⟨#[]⟩ : ByteArray)) else (if 1 < (l0_2.length : Int) then ((anaphora_number.f k ((rd_T27 l0_2 1).f0) ((rd_T27 l0_2 1).f1) ((rd_T27 l0_2 1).f2)).bind fun t143 => (if t143.toList = ([] : List UInt8) then (some (⟨#[]⟩ : ByteArray)) else (some (⟨#[84, 104, 101, 121]⟩ : ByteArray)))) else (none))) = some r := H
     have A8 := Aside0.mk A80
     clear A80
     by_cases c9 : t141.toList = ([] : List UInt8)
     ·rw [if_pos c9] at H
      have c9b0 : (t141.toList == ([] : List UInt8)) = true := beq_iff_eq.mpr c9
      have c9b1 : (t141.toList != ([] : List UInt8)) = false := bne_eq_false_iff_eq.mpr c9
      clear c9
      obtain rfl := Option.some.inj H
      go_enter Try.func37, Try.ntmps37
      go_wp2_with (first | ((with_reducible refine gate_dst (N := 1) rfl ?_); refine box_event ?hg (N := 1) ?hd (cs := #[.string a0_0, .slice A0_1 l0_1.length c0_1, .slice A0_2 l0_2.length c0_2]) (t := 27) ?hr ?_; (case hd => rfl); (case hg => rfl); (case hr => first | (go_simp; done) | (go_simp; rfl)); intro gb139 hg w10 hbox hb; have n0_ := Aside0.mk (below_step (be_ HB) hb); have n1_ := Aside0.mk (hbox); have n2_ := Aside0.mk ((by rw [hg]; exact (below_size (be_ HB)) : w.heap.size ≤ gb139)); have n3_ := Aside0.mk ((by rw [hg]; exact (below_size (be_ HB)) : w.heap.size ≤ gb139)); clear HB; have HB := n0_; have BK139 := n1_; have GW139 := n2_; have GE139 := n3_; clear n0_ n1_ n2_ n3_; clear hb hbox hg; have hcz11_0 : w10.cell? ⟨gb139, 0, none⟩ = some (.string a0_0) := (blk_cell BK139.out 0).trans rfl; have hcz11_1 : w10.cell? ⟨gb139, 1, none⟩ = some (.slice A0_1 l0_1.length c0_1) := (blk_cell BK139.out 1).trans rfl; have hcz11_2 : w10.cell? ⟨gb139, 2, none⟩ = some (.slice A0_2 l0_2.length c0_2) := (blk_cell BK139.out 2).trans rfl; have hfz11_0 := blk_frozen BK139.out 0; have hfz11_1 := blk_frozen BK139.out 1; have hfz11_2 := blk_frozen BK139.out 2; have p140 : 0 ≤ (0 : Int) := (by omega); have q140 : 0 < (l0_2.length : Int) := of_decide_eq_true (by first | (with_reducible assumption) | assumption); obtain ⟨ad140, A140_1, c140_1, A140_2, c140_2, e140, hx140_0, hx140_1, hx140_2, hl140_1, hi140_1, hl140_2, hi140_2⟩ := at_T27 HR0_2.out 0 p140 q140; cases e140; have qi140 : (0 < l0_2.length) = True := eq_true (by omega); (try rw [show ((0 : Int)).toNat = 0 from rfl] at hx140_0); (try rw [show 0 * 3 = 0 from rfl] at hx140_0); (try rw [Addr.add_zero'] at hx140_0); (try rw [show ((0 : Int)).toNat = 0 from rfl] at hx140_1); (try rw [show 0 * 3 = 0 from rfl] at hx140_1); (try rw [Addr.add_zero'] at hx140_1); (try rw [show ((0 : Int)).toNat = 0 from rfl] at hx140_2); (try rw [show 0 * 3 = 0 from rfl] at hx140_2); (try rw [Addr.add_zero'] at hx140_2); replace hx140_0 := (HB.out.cell (World.block_lt_of_cell? w _ hx140_0)).trans hx140_0; replace hx140_1 := (HB.out.cell (World.block_lt_of_cell? w _ hx140_1)).trans hx140_1; replace hx140_2 := (HB.out.cell (World.block_lt_of_cell? w _ hx140_2)).trans hx140_2; have HR140_1 := Aside0.mk hi140_1; have HC140_1 := Aside0.mk hl140_1; clear hi140_1 hl140_1; have HR140_2 := Aside0.mk hi140_2; have HC140_2 := Aside0.mk hl140_2; clear hi140_2 hl140_2; replace p140 := eq_true p140; replace q140 := eq_true q140) | (go_at_call 37; (with_reducible refine (ih k (by omega) ((rd_T27 l0_2 0).f0) _ _ ((rd_T27 l0_2 0).f1) _ _ ((rd_T27 l0_2 0).f2) t141 _ ?side1 ?side2 ?side3 ?side4 A8.out).mono ?_); (case side1 => exact cs_ (Kd.C_below HR140_1.out HB.out)); (case side2 => exact HC140_1.out); (case side3 => exact cs_ (Kd.C_below HR140_2.out HB.out)); (case side4 => exact HC140_2.out); rintro e w12 ⟨rfl, hb⟩; have n0_ := Aside0.mk (blk_below (g := gb139) (o := .cells #[.string a0_0, .slice A0_1 l0_1.length c0_1, .slice (some ad140) l0_2.length c0_2] 27 (0, 0)) (bq_ BK139) hb); have n1_ := Aside0.mk (below_step (be1_ HB GE139) hb); clear BK139; clear HB; have BK139 := n0_; have HB := n1_; clear n0_ n1_; (try clear hb); (try clear hb2); (try clear hk); (try clear hi)))
      go_ret
      exact ⟨er_, be1_ HB GE139⟩
     ·rw [if_neg c9] at H
      have c9b0 : (t141.toList == ([] : List UInt8)) = false := beq_eq_false_iff_ne.mpr c9
      have c9b1 : (t141.toList != ([] : List UInt8)) = true := bne_iff_ne.mpr c9
      by_cases c13 : 1 < (l0_2.length : Int)
      ·rw [if_pos c13] at H
       have c13b0 : decide (1 < (l0_2.length : Int)) = true := decide_eq_true c13
       have c13b1 : decide (1 < l0_2.length) = true := decide_eq_true (by omega)
       clear c13
       replace H := Option.bind_eq_some_iff.mp H
       obtain ⟨t143, A140, H⟩ := H
       replace H : (if t143.toList = ([] : List UInt8) then (some (⟨#[]⟩ : ByteArray)) else (some (⟨#[84, 104, 101, 121]⟩ : ByteArray))) = some r := H
       have A14 := Aside0.mk A140
       clear A140
       by_cases c15 : t143.toList = ([] : List UInt8)
       ·rw [if_pos c15] at H
        have c15b0 : (t143.toList == ([] : List UInt8)) = true := beq_iff_eq.mpr c15
        have c15b1 : (t143.toList != ([] : List UInt8)) = false := bne_eq_false_iff_eq.mpr c15
        clear c15
        obtain rfl := Option.some.inj H
        go_enter Try.func37, Try.ntmps37
        go_wp2_with (first | ((with_reducible refine gate_dst (N := 1) rfl ?_); refine box_event ?hg (N := 1) ?hd (cs := #[.string a0_0, .slice A0_1 l0_1.length c0_1, .slice A0_2 l0_2.length c0_2]) (t := 27) ?hr ?_; (case hd => rfl); (case hg => rfl); (case hr => first | (go_simp; done) | (go_simp; rfl)); intro gb139 hg w16 hbox hb; have n0_ := Aside0.mk (below_step (be_ HB) hb); have n1_ := Aside0.mk (hbox); have n2_ := Aside0.mk ((by rw [hg]; exact (below_size (be_ HB)) : w.heap.size ≤ gb139)); have n3_ := Aside0.mk ((by rw [hg]; exact (below_size (be_ HB)) : w.heap.size ≤ gb139)); clear HB; have HB := n0_; have BK139 := n1_; have GW139 := n2_; have GE139 := n3_; clear n0_ n1_ n2_ n3_; clear hb hbox hg; have hcz17_0 : w16.cell? ⟨gb139, 0, none⟩ = some (.string a0_0) := (blk_cell BK139.out 0).trans rfl; have hcz17_1 : w16.cell? ⟨gb139, 1, none⟩ = some (.slice A0_1 l0_1.length c0_1) := (blk_cell BK139.out 1).trans rfl; have hcz17_2 : w16.cell? ⟨gb139, 2, none⟩ = some (.slice A0_2 l0_2.length c0_2) := (blk_cell BK139.out 2).trans rfl; have hfz17_0 := blk_frozen BK139.out 0; have hfz17_1 := blk_frozen BK139.out 1; have hfz17_2 := blk_frozen BK139.out 2; have p140 : 0 ≤ (0 : Int) := (by omega); have q140 : 0 < (l0_2.length : Int) := of_decide_eq_true (by first | (with_reducible assumption) | assumption); obtain ⟨ad140, A140_1, c140_1, A140_2, c140_2, e140, hx140_0, hx140_1, hx140_2, hl140_1, hi140_1, hl140_2, hi140_2⟩ := at_T27 HR0_2.out 0 p140 q140; cases e140; have qi140 : (0 < l0_2.length) = True := eq_true (by omega); (try rw [show ((0 : Int)).toNat = 0 from rfl] at hx140_0); (try rw [show 0 * 3 = 0 from rfl] at hx140_0); (try rw [Addr.add_zero'] at hx140_0); (try rw [show ((0 : Int)).toNat = 0 from rfl] at hx140_1); (try rw [show 0 * 3 = 0 from rfl] at hx140_1); (try rw [Addr.add_zero'] at hx140_1); (try rw [show ((0 : Int)).toNat = 0 from rfl] at hx140_2); (try rw [show 0 * 3 = 0 from rfl] at hx140_2); (try rw [Addr.add_zero'] at hx140_2); replace hx140_0 := (HB.out.cell (World.block_lt_of_cell? w _ hx140_0)).trans hx140_0; replace hx140_1 := (HB.out.cell (World.block_lt_of_cell? w _ hx140_1)).trans hx140_1; replace hx140_2 := (HB.out.cell (World.block_lt_of_cell? w _ hx140_2)).trans hx140_2; have HR140_1 := Aside0.mk hi140_1; have HC140_1 := Aside0.mk hl140_1; clear hi140_1 hl140_1; have HR140_2 := Aside0.mk hi140_2; have HC140_2 := Aside0.mk hl140_2; clear hi140_2 hl140_2; replace p140 := eq_true p140; replace q140 := eq_true q140) | (go_at_call 37; (with_reducible refine (ih k (by omega) ((rd_T27 l0_2 0).f0) _ _ ((rd_T27 l0_2 0).f1) _ _ ((rd_T27 l0_2 0).f2) t141 _ ?side1 ?side2 ?side3 ?side4 A8.out).mono ?_); (case side1 => exact cs_ (Kd.C_below HR140_1.out HB.out)); (case side2 => exact HC140_1.out); (case side3 => exact cs_ (Kd.C_below HR140_2.out HB.out)); (case side4 => exact HC140_2.out); rintro e w18 ⟨rfl, hb⟩; have n0_ := Aside0.mk (blk_below (g := gb139) (o := .cells #[.string a0_0, .slice A0_1 l0_1.length c0_1, .slice (some ad140) l0_2.length c0_2] 27 (0, 0)) (bq_ BK139) hb); have n1_ := Aside0.mk (below_step (be1_ HB GE139) hb); clear BK139; clear HB; have BK139 := n0_; have HB := n1_; clear n0_ n1_; (try clear hb); (try clear hb2); (try clear hk); (try clear hi); have hcz19_0 : w18.cell? ⟨gb139, 0, none⟩ = some (.string a0_0) := (blk_cell BK139.out 0).trans rfl; have hcz19_1 : w18.cell? ⟨gb139, 1, none⟩ = some (.slice A0_1 l0_1.length c0_1) := (blk_cell BK139.out 1).trans rfl; have hcz19_2 : w18.cell? ⟨gb139, 2, none⟩ = some (.slice (some ad140) l0_2.length c0_2) := (blk_cell BK139.out 2).trans rfl; have hfz19_0 := blk_frozen BK139.out 0; have hfz19_1 := blk_frozen BK139.out 1; have hfz19_2 := blk_frozen BK139.out 2; have p142 : 0 ≤ (1 : Int) := (by omega); have q142 : 1 < (l0_2.length : Int) := of_decide_eq_true (by first | (with_reducible assumption) | assumption); obtain ⟨ad142, A142_1, c142_1, A142_2, c142_2, e142, hx142_0, hx142_1, hx142_2, hl142_1, hi142_1, hl142_2, hi142_2⟩ := at_T27 HR0_2.out 1 p142 q142; obtain rfl : ad140 = ad142 := (by injection e142); (try simp only [show (1 : Int).toNat = 1 from rfl, Nat.reduceMul, Nat.reduceEqDiff, Go.Addr.add, ↓reduceIte] at hx142_0); (try simp only [show (1 : Int).toNat = 1 from rfl, Nat.reduceMul, Nat.reduceEqDiff, Go.Addr.add, ↓reduceIte] at hx142_1); (try simp only [show (1 : Int).toNat = 1 from rfl, Nat.reduceMul, Nat.reduceEqDiff, Go.Addr.add, ↓reduceIte] at hx142_2); have qi142 : (1 < l0_2.length) = True := eq_true (by omega); (try rw [show ((1 : Int)).toNat = 1 from rfl] at hx142_0); (try rw [show 1 * 3 = 3 from rfl] at hx142_0); (try rw [show ((1 : Int)).toNat = 1 from rfl] at hx142_1); (try rw [show 1 * 3 = 3 from rfl] at hx142_1); (try rw [show ((1 : Int)).toNat = 1 from rfl] at hx142_2); (try rw [show 1 * 3 = 3 from rfl] at hx142_2); replace hx142_0 := (HB.out.cell (World.block_lt_of_cell? w _ hx142_0)).trans hx142_0; replace hx142_1 := (HB.out.cell (World.block_lt_of_cell? w _ hx142_1)).trans hx142_1; replace hx142_2 := (HB.out.cell (World.block_lt_of_cell? w _ hx142_2)).trans hx142_2; have HR142_1 := Aside0.mk hi142_1; have HC142_1 := Aside0.mk hl142_1; clear hi142_1 hl142_1; have HR142_2 := Aside0.mk hi142_2; have HC142_2 := Aside0.mk hl142_2; clear hi142_2 hl142_2; replace p142 := eq_true p142; replace q142 := eq_true q142) | (go_at_call 37; (with_reducible refine (ih k (by omega) ((rd_T27 l0_2 1).f0) _ _ ((rd_T27 l0_2 1).f1) _ _ ((rd_T27 l0_2 1).f2) t143 _ ?side1 ?side2 ?side3 ?side4 A14.out).mono ?_); (case side1 => exact cs_ (Kd.C_below HR142_1.out HB.out)); (case side2 => exact HC142_1.out); (case side3 => exact cs_ (Kd.C_below HR142_2.out HB.out)); (case side4 => exact HC142_2.out); rintro e w20 ⟨rfl, hb⟩; have n0_ := Aside0.mk (blk_below (g := gb139) (o := .cells #[.string a0_0, .slice A0_1 l0_1.length c0_1, .slice (some ad140) l0_2.length c0_2] 27 (0, 0)) (bq_ BK139) hb); have n1_ := Aside0.mk (below_step (be1_ HB GE139) hb); clear BK139; clear HB; have BK139 := n0_; have HB := n1_; clear n0_ n1_; (try clear hb); (try clear hb2); (try clear hk); (try clear hi)))
        go_ret
        exact ⟨er_, be1_ HB GE139⟩
       ·rw [if_neg c15] at H
        have c15b0 : (t143.toList == ([] : List UInt8)) = false := beq_eq_false_iff_ne.mpr c15
        have c15b1 : (t143.toList != ([] : List UInt8)) = true := bne_iff_ne.mpr c15
        obtain rfl := Option.some.inj H
        go_enter Try.func37, Try.ntmps37
        go_wp2_with (first | ((with_reducible refine gate_dst (N := 1) rfl ?_); refine box_event ?hg (N := 1) ?hd (cs := #[.string a0_0, .slice A0_1 l0_1.length c0_1, .slice A0_2 l0_2.length c0_2]) (t := 27) ?hr ?_; (case hd => rfl); (case hg => rfl); (case hr => first | (go_simp; done) | (go_simp; rfl)); intro gb139 hg w21 hbox hb; have n0_ := Aside0.mk (below_step (be_ HB) hb); have n1_ := Aside0.mk (hbox); have n2_ := Aside0.mk ((by rw [hg]; exact (below_size (be_ HB)) : w.heap.size ≤ gb139)); have n3_ := Aside0.mk ((by rw [hg]; exact (below_size (be_ HB)) : w.heap.size ≤ gb139)); clear HB; have HB := n0_; have BK139 := n1_; have GW139 := n2_; have GE139 := n3_; clear n0_ n1_ n2_ n3_; clear hb hbox hg; have hcz22_0 : w21.cell? ⟨gb139, 0, none⟩ = some (.string a0_0) := (blk_cell BK139.out 0).trans rfl; have hcz22_1 : w21.cell? ⟨gb139, 1, none⟩ = some (.slice A0_1 l0_1.length c0_1) := (blk_cell BK139.out 1).trans rfl; have hcz22_2 : w21.cell? ⟨gb139, 2, none⟩ = some (.slice A0_2 l0_2.length c0_2) := (blk_cell BK139.out 2).trans rfl; have hfz22_0 := blk_frozen BK139.out 0; have hfz22_1 := blk_frozen BK139.out 1; have hfz22_2 := blk_frozen BK139.out 2; have p140 : 0 ≤ (0 : Int) := (by omega); have q140 : 0 < (l0_2.length : Int) := of_decide_eq_true (by first | (with_reducible assumption) | assumption); obtain ⟨ad140, A140_1, c140_1, A140_2, c140_2, e140, hx140_0, hx140_1, hx140_2, hl140_1, hi140_1, hl140_2, hi140_2⟩ := at_T27 HR0_2.out 0 p140 q140; cases e140; have qi140 : (0 < l0_2.length) = True := eq_true (by omega); (try rw [show ((0 : Int)).toNat = 0 from rfl] at hx140_0); (try rw [show 0 * 3 = 0 from rfl] at hx140_0); (try rw [Addr.add_zero'] at hx140_0); (try rw [show ((0 : Int)).toNat = 0 from rfl] at hx140_1); (try rw [show 0 * 3 = 0 from rfl] at hx140_1); (try rw [Addr.add_zero'] at hx140_1); (try rw [show ((0 : Int)).toNat = 0 from rfl] at hx140_2); (try rw [show 0 * 3 = 0 from rfl] at hx140_2); (try rw [Addr.add_zero'] at hx140_2); replace hx140_0 := (HB.out.cell (World.block_lt_of_cell? w _ hx140_0)).trans hx140_0; replace hx140_1 := (HB.out.cell (World.block_lt_of_cell? w _ hx140_1)).trans hx140_1; replace hx140_2 := (HB.out.cell (World.block_lt_of_cell? w _ hx140_2)).trans hx140_2; have HR140_1 := Aside0.mk hi140_1; have HC140_1 := Aside0.mk hl140_1; clear hi140_1 hl140_1; have HR140_2 := Aside0.mk hi140_2; have HC140_2 := Aside0.mk hl140_2; clear hi140_2 hl140_2; replace p140 := eq_true p140; replace q140 := eq_true q140) | (go_at_call 37; (with_reducible refine (ih k (by omega) ((rd_T27 l0_2 0).f0) _ _ ((rd_T27 l0_2 0).f1) _ _ ((rd_T27 l0_2 0).f2) t141 _ ?side1 ?side2 ?side3 ?side4 A8.out).mono ?_); (case side1 => exact cs_ (Kd.C_below HR140_1.out HB.out)); (case side2 => exact HC140_1.out); (case side3 => exact cs_ (Kd.C_below HR140_2.out HB.out)); (case side4 => exact HC140_2.out); rintro e w23 ⟨rfl, hb⟩; have n0_ := Aside0.mk (blk_below (g := gb139) (o := .cells #[.string a0_0, .slice A0_1 l0_1.length c0_1, .slice (some ad140) l0_2.length c0_2] 27 (0, 0)) (bq_ BK139) hb); have n1_ := Aside0.mk (below_step (be1_ HB GE139) hb); clear BK139; clear HB; have BK139 := n0_; have HB := n1_; clear n0_ n1_; (try clear hb); (try clear hb2); (try clear hk); (try clear hi); have hcz24_0 : w23.cell? ⟨gb139, 0, none⟩ = some (.string a0_0) := (blk_cell BK139.out 0).trans rfl; have hcz24_1 : w23.cell? ⟨gb139, 1, none⟩ = some (.slice A0_1 l0_1.length c0_1) := (blk_cell BK139.out 1).trans rfl; have hcz24_2 : w23.cell? ⟨gb139, 2, none⟩ = some (.slice (some ad140) l0_2.length c0_2) := (blk_cell BK139.out 2).trans rfl; have hfz24_0 := blk_frozen BK139.out 0; have hfz24_1 := blk_frozen BK139.out 1; have hfz24_2 := blk_frozen BK139.out 2; have p142 : 0 ≤ (1 : Int) := (by omega); have q142 : 1 < (l0_2.length : Int) := of_decide_eq_true (by first | (with_reducible assumption) | assumption); obtain ⟨ad142, A142_1, c142_1, A142_2, c142_2, e142, hx142_0, hx142_1, hx142_2, hl142_1, hi142_1, hl142_2, hi142_2⟩ := at_T27 HR0_2.out 1 p142 q142; obtain rfl : ad140 = ad142 := (by injection e142); (try simp only [show (1 : Int).toNat = 1 from rfl, Nat.reduceMul, Nat.reduceEqDiff, Go.Addr.add, ↓reduceIte] at hx142_0); (try simp only [show (1 : Int).toNat = 1 from rfl, Nat.reduceMul, Nat.reduceEqDiff, Go.Addr.add, ↓reduceIte] at hx142_1); (try simp only [show (1 : Int).toNat = 1 from rfl, Nat.reduceMul, Nat.reduceEqDiff, Go.Addr.add, ↓reduceIte] at hx142_2); have qi142 : (1 < l0_2.length) = True := eq_true (by omega); (try rw [show ((1 : Int)).toNat = 1 from rfl] at hx142_0); (try rw [show 1 * 3 = 3 from rfl] at hx142_0); (try rw [show ((1 : Int)).toNat = 1 from rfl] at hx142_1); (try rw [show 1 * 3 = 3 from rfl] at hx142_1); (try rw [show ((1 : Int)).toNat = 1 from rfl] at hx142_2); (try rw [show 1 * 3 = 3 from rfl] at hx142_2); replace hx142_0 := (HB.out.cell (World.block_lt_of_cell? w _ hx142_0)).trans hx142_0; replace hx142_1 := (HB.out.cell (World.block_lt_of_cell? w _ hx142_1)).trans hx142_1; replace hx142_2 := (HB.out.cell (World.block_lt_of_cell? w _ hx142_2)).trans hx142_2; have HR142_1 := Aside0.mk hi142_1; have HC142_1 := Aside0.mk hl142_1; clear hi142_1 hl142_1; have HR142_2 := Aside0.mk hi142_2; have HC142_2 := Aside0.mk hl142_2; clear hi142_2 hl142_2; replace p142 := eq_true p142; replace q142 := eq_true q142) | (go_at_call 37; (with_reducible refine (ih k (by omega) ((rd_T27 l0_2 1).f0) _ _ ((rd_T27 l0_2 1).f1) _ _ ((rd_T27 l0_2 1).f2) t143 _ ?side1 ?side2 ?side3 ?side4 A14.out).mono ?_); (case side1 => exact cs_ (Kd.C_below HR142_1.out HB.out)); (case side2 => exact HC142_1.out); (case side3 => exact cs_ (Kd.C_below HR142_2.out HB.out)); (case side4 => exact HC142_2.out); rintro e w25 ⟨rfl, hb⟩; have n0_ := Aside0.mk (blk_below (g := gb139) (o := .cells #[.string a0_0, .slice A0_1 l0_1.length c0_1, .slice (some ad140) l0_2.length c0_2] 27 (0, 0)) (bq_ BK139) hb); have n1_ := Aside0.mk (below_step (be1_ HB GE139) hb); clear BK139; clear HB; have BK139 := n0_; have HB := n1_; clear n0_ n1_; (try clear hb); (try clear hb2); (try clear hk); (try clear hi)))
        go_ret
        exact ⟨er_, be1_ HB GE139⟩
      ·rw [if_neg c13] at H
       exact absurd H (by simp)
    ·rw [if_neg c7] at H
     exact absurd H (by simp)
   ·rw [if_neg c6] at H
    have c6b0 : ((l0_2.length : Int) == 2) = false := beq_eq_false_iff_ne.mpr c6
    have c6b1 : ((l0_2.length : Int) != 2) = true := bne_iff_ne.mpr c6
    obtain rfl := Option.some.inj H
    go_enter Try.func37, Try.ntmps37
    go_wp2_with (first | ((with_reducible refine gate_dst (N := 1) rfl ?_); refine box_event ?hg (N := 1) ?hd (cs := #[.string a0_0, .slice A0_1 l0_1.length c0_1, .slice A0_2 l0_2.length c0_2]) (t := 27) ?hr ?_; (case hd => rfl); (case hg => rfl); (case hr => first | (go_simp; done) | (go_simp; rfl)); intro gb139 hg w26 hbox hb; have n0_ := Aside0.mk (below_step (be_ HB) hb); have n1_ := Aside0.mk (hbox); have n2_ := Aside0.mk ((by rw [hg]; exact (below_size (be_ HB)) : w.heap.size ≤ gb139)); have n3_ := Aside0.mk ((by rw [hg]; exact (below_size (be_ HB)) : w.heap.size ≤ gb139)); clear HB; have HB := n0_; have BK139 := n1_; have GW139 := n2_; have GE139 := n3_; clear n0_ n1_ n2_ n3_; clear hb hbox hg; have hcz27_0 : w26.cell? ⟨gb139, 0, none⟩ = some (.string a0_0) := (blk_cell BK139.out 0).trans rfl; have hcz27_1 : w26.cell? ⟨gb139, 1, none⟩ = some (.slice A0_1 l0_1.length c0_1) := (blk_cell BK139.out 1).trans rfl; have hcz27_2 : w26.cell? ⟨gb139, 2, none⟩ = some (.slice A0_2 l0_2.length c0_2) := (blk_cell BK139.out 2).trans rfl; have hfz27_0 := blk_frozen BK139.out 0; have hfz27_1 := blk_frozen BK139.out 1; have hfz27_2 := blk_frozen BK139.out 2))
    go_ret
    exact ⟨er_, be1_ HB GE139⟩
  ·rw [if_neg c5] at H
   have c5b0 : (a0_0.toList == ([66, 111, 116, 104] : List UInt8)) = false := beq_eq_false_iff_ne.mpr c5
   have c5b1 : (a0_0.toList != ([66, 111, 116, 104] : List UInt8)) = true := bne_iff_ne.mpr c5
   obtain rfl := Option.some.inj H
   go_enter Try.func37, Try.ntmps37
   go_wp2_with (first | ((with_reducible refine gate_dst (N := 1) rfl ?_); refine box_event ?hg (N := 1) ?hd (cs := #[.string a0_0, .slice A0_1 l0_1.length c0_1, .slice A0_2 l0_2.length c0_2]) (t := 27) ?hr ?_; (case hd => rfl); (case hg => rfl); (case hr => first | (go_simp; done) | (go_simp; rfl)); intro gb139 hg w28 hbox hb; have n0_ := Aside0.mk (below_step (be_ HB) hb); have n1_ := Aside0.mk (hbox); have n2_ := Aside0.mk ((by rw [hg]; exact (below_size (be_ HB)) : w.heap.size ≤ gb139)); have n3_ := Aside0.mk ((by rw [hg]; exact (below_size (be_ HB)) : w.heap.size ≤ gb139)); clear HB; have HB := n0_; have BK139 := n1_; have GW139 := n2_; have GE139 := n3_; clear n0_ n1_ n2_ n3_; clear hb hbox hg; have hcz29_0 : w28.cell? ⟨gb139, 0, none⟩ = some (.string a0_0) := (blk_cell BK139.out 0).trans rfl; have hcz29_1 : w28.cell? ⟨gb139, 1, none⟩ = some (.slice A0_1 l0_1.length c0_1) := (blk_cell BK139.out 1).trans rfl; have hcz29_2 : w28.cell? ⟨gb139, 2, none⟩ = some (.slice A0_2 l0_2.length c0_2) := (blk_cell BK139.out 2).trans rfl; have hfz29_0 := blk_frozen BK139.out 0; have hfz29_1 := blk_frozen BK139.out 1; have hfz29_2 := blk_frozen BK139.out 2))
   go_ret
   exact ⟨er_, be1_ HB GE139⟩

end Go.Proofs.Ytfampmajmbediaa.P
