-- Written by the session's own program wip/tools/xprint.py out of the translation, with the kit's print.py on a scratch copy; functions given by hand stand among them.
import Derived.Test.YtfampmajmbediaaPx0
namespace Go.Proofs.Ytfampmajmbediaa.P
open Go.RowKit Go.Proofs.YtfampmajmbediaaW.PrintWords Go.Proofs.YtfampmajmbediaaW.PrintLast Go.Proofs.YtfampmajmbediaaW.PrintMore
attribute [local go_sem] max2_int min2_int max_two min_two max_three min_three max_four min_four   -- for this text's walks alone
set_option linter.unusedVariables false
set_option linter.unusedSimpArgs false

/-! ### anaphora_subject: function 35 -/
mutual
def anaphora_subject.l0 : Nat → List Int → ByteArray → List Int → List (S27) → Option (List Int × Bool)
 | 0, _, _, _, _ => none
 | k + 1, x4, x102000, x102001, x102002 => if (x102002.length : Int) > 0 then (if x4.length < 17592186044416 then ((some (x4 ++ [0] : List Int)).bind fun y102 => (if x102000.toList = ([65, 115, 115, 101, 114, 116] : List UInt8) then (anaphora_subject.j1 k y102 x102000 (x102000.toList == ([65, 115, 115, 101, 114, 116] : List UInt8)) x102000 x102001 x102002) else (if x102000.toList = ([77, 117, 115, 116] : List UInt8) then (anaphora_subject.j1 k y102 x102000 (x102000.toList == ([77, 117, 115, 116] : List UInt8)) x102000 x102001 x102002) else (if x102000.toList = ([77, 117, 115, 116, 78, 111, 116] : List UInt8) then (anaphora_subject.j1 k y102 x102000 (x102000.toList == ([77, 117, 115, 116, 78, 111, 116] : List UInt8)) x102000 x102001 x102002) else (anaphora_subject.j1 k y102 x102000 (x102000.toList == ([77, 97, 121] : List UInt8)) x102000 x102001 x102002))))) else (none)) else (some (([] : List Int), false))
def anaphora_subject.j1 : Nat → List Int → ByteArray → Bool → ByteArray → List Int → List (S27) → Option (List Int × Bool)
 | 0, _, _, _, _, _, _ => none
 | k + 1, x4, x13, x14, x102000, x102001, x102002 => if x14 = true then (some (x4, true)) else (if x13.toList = ([68, 117, 114, 105, 110, 103] : List UInt8) then (if 0 < (x102002.length : Int) then (anaphora_subject.l0 k x4 ((rd_T27 x102002 0).f0) ((rd_T27 x102002 0).f1) ((rd_T27 x102002 0).f2)) else (none)) else (if x13.toList = ([83, 105, 110, 99, 101] : List UInt8) then (if 0 < (x102002.length : Int) then (anaphora_subject.l0 k x4 ((rd_T27 x102002 0).f0) ((rd_T27 x102002 0).f1) ((rd_T27 x102002 0).f2)) else (none)) else (if x13.toList = ([85, 110, 116, 105, 108] : List UInt8) then (if 0 < (x102002.length : Int) then (anaphora_subject.l0 k x4 ((rd_T27 x102002 0).f0) ((rd_T27 x102002 0).f1) ((rd_T27 x102002 0).f2)) else (none)) else (if x13.toList = ([80, 108, 101, 97, 115, 101] : List UInt8) then (if 0 < (x102002.length : Int) then (anaphora_subject.l0 k x4 ((rd_T27 x102002 0).f0) ((rd_T27 x102002 0).f1) ((rd_T27 x102002 0).f2)) else (none)) else (if x13.toList = ([65, 108, 115, 111] : List UInt8) then (if 0 < (x102002.length : Int) then (anaphora_subject.l0 k x4 ((rd_T27 x102002 0).f0) ((rd_T27 x102002 0).f1) ((rd_T27 x102002 0).f2)) else (none)) else (some (([] : List Int), false)))))))
end
def anaphora_subject.f (k : Nat) (a0_0 : ByteArray) (l0_1 : List Int) (l0_2 : List (S27)) : Option (List Int × Bool) := anaphora_subject.l0 k ([] : List Int) a0_0 l0_1 l0_2
theorem anaphora_subject.mono_l : ∀ k, (∀ y0 y1 y2 y3, LeO (anaphora_subject.l0 k y0 y1 y2 y3) (anaphora_subject.l0 (k + 1) y0 y1 y2 y3)) ∧ (∀ y0 y1 y2 y3 y4 y5, LeO (anaphora_subject.j1 k y0 y1 y2 y3 y4 y5) (anaphora_subject.j1 (k + 1) y0 y1 y2 y3 y4 y5))
 | 0 => ⟨fun _ _ _ _ r h => by simp [anaphora_subject.l0] at h, fun _ _ _ _ _ _ r h => by simp [anaphora_subject.j1] at h⟩
 | k + 1 => by
  obtain ⟨ih0, ih1⟩ := anaphora_subject.mono_l k
  refine ⟨?_, ?_⟩
  ·intro y0 y1 y2 y3
   unfold anaphora_subject.l0
   repeat' first
   | (with_reducible exact ih0 _ _ _ _)
   | (with_reducible exact ih1 _ _ _ _ _ _)
   | (with_reducible exact LeO.refl _)
   | (with_reducible exact LeO.none _)
   | (with_reducible refine LeO.ite ?_ ?_)
   | (with_reducible refine LeO.bind ?_ (fun _ => ?_))
   | exact ih0 _ _ _ _
   | exact ih1 _ _ _ _ _ _
   | exact LeO.none _
   | refine LeO.ite ?_ ?_
   | refine LeO.bind ?_ (fun _ => ?_)
  ·intro y0 y1 y2 y3 y4 y5
   unfold anaphora_subject.j1
   repeat' first
   | (with_reducible exact ih0 _ _ _ _)
   | (with_reducible exact ih1 _ _ _ _ _ _)
   | (with_reducible exact LeO.refl _)
   | (with_reducible exact LeO.none _)
   | (with_reducible refine LeO.ite ?_ ?_)
   | (with_reducible refine LeO.bind ?_ (fun _ => ?_))
   | exact ih0 _ _ _ _
   | exact ih1 _ _ _ _ _ _
   | exact LeO.none _
   | refine LeO.ite ?_ ?_
   | refine LeO.bind ?_ (fun _ => ?_)
theorem anaphora_subject.mono : ∀ a0 a1 a2 k, LeO (anaphora_subject.f k a0 a1 a2) (anaphora_subject.f (k + 1) a0 a1 a2) := by
 intro a0 a1 a2 k
 obtain ⟨ih0, ih1⟩ := anaphora_subject.mono_l k
 unfold anaphora_subject.f
 repeat' first
   | (with_reducible exact ih0 _ _ _ _)
   | (with_reducible exact ih1 _ _ _ _ _ _)
   | (with_reducible exact LeO.refl _)
   | (with_reducible exact LeO.none _)
   | (with_reducible refine LeO.ite ?_ ?_)
   | (with_reducible refine LeO.bind ?_ (fun _ => ?_))
   | exact ih0 _ _ _ _
   | exact ih1 _ _ _ _ _ _
   | exact LeO.none _
   | refine LeO.ite ?_ ?_
   | refine LeO.bind ?_ (fun _ => ?_)
set_option maxHeartbeats 8000000 in
set_option maxRecDepth 100000 in
theorem anaphora_subject.calls (k : Nat) (a0_0 : ByteArray) (P0_1_ : Nat → Prop) (A0_1 : Option Addr) (c0_1 : Nat) (l0_1 : List Int) (P0_2_ : Nat → Prop) (A0_2 : Option Addr) (c0_2 : Nat) (l0_2 : List (S27)) (r1 : List Int) (r2 : Bool) (w : World) (hs0_1 : Kd.V (Kd.int .i64) 3 w w.heap.size (fun k_ => P0_1_ k_) (.slice A0_1 l0_1.length c0_1) l0_1) (hs0_2 : Kd.V k27 27 w w.heap.size (fun k_ => P0_2_ k_) (.slice A0_2 l0_2.length c0_2) l0_2) (h : anaphora_subject.f k a0_0 l0_1 l0_2 = some (r1, r2)) :
  Calls Try.prog 35 #[.agg #[.string a0_0, .slice A0_1 l0_1.length c0_1, .slice A0_2 l0_2.length c0_2]] w fun e w' => ∃ v0_ : Value, e = .returned (.tuple #[v0_, .bool r2]) ∧ Kd.R (Kd.int .i64) 3 w' w.heap.size (fun k_ => (w.heap.size ≤ k_)) v0_ r1 ∧ Below w.heap.size w w' := by
 have hu27 := Try.underlying27
 have HO0_1 := Aside0.mk (show Kd.V (Kd.int .i64) 3 w w.heap.size (fun k_ => ((P0_1_ k_ ∨ P0_2_ k_) ∨ w.heap.size ≤ k_)) (.slice A0_1 l0_1.length c0_1) l0_1 from Kd.V_mono hs0_1 (fun k_ hk => .inl (.inl hk)))
 have HO0_2 := Aside0.mk (show Kd.V k27 27 w w.heap.size (fun k_ => ((P0_1_ k_ ∨ P0_2_ k_) ∨ w.heap.size ≤ k_)) (.slice A0_2 l0_2.length c0_2) l0_2 from Kd.V_mono hs0_2 (fun k_ hk => .inl (.inr hk)))
 have HB := Aside0.mk (Below.refl w.heap.size w)
 have H : (anaphora_subject.l0 k ([] : List Int) a0_0 l0_1 l0_2) = some (r1, r2) := h
 clear h
 have H' := Aside0.mk H
 clear H
 go_enter Try.func35, Try.ntmps35
 go_wp2_with (first | ((with_reducible refine gate_dst (N := 1) rfl ?_); refine box_event ?hg (N := 1) ?hd (cs := #[.string a0_0, .slice A0_1 l0_1.length c0_1, .slice A0_2 l0_2.length c0_2]) (t := 27) ?hr ?_; (case hd => rfl); (case hg => rfl); (case hr => first | (go_simp; done) | (go_simp; rfl)); intro gb101 hg w2 hbox hb; have n0_ := Aside0.mk (Kd.V_below (Kd.V_elderB (vq_ HO0_1) gb101 (Nat.le_of_eq hg.symm)) hb); have n1_ := Aside0.mk (Kd.V_below (Kd.V_elderB (vq_ HO0_2) gb101 (Nat.le_of_eq hg.symm)) hb); have n2_ := Aside0.mk (below_step (be_ HB) hb); have n3_ := Aside0.mk (hbox); have n4_ := Aside0.mk ((by rw [hg]; exact (below_size (be_ HB)) : w.heap.size ≤ gb101)); have n5_ := Aside0.mk ((by rw [hg]; exact (below_size (be_ HB)) : w.heap.size ≤ gb101)); clear HO0_1; clear HO0_2; clear HB; have HO0_1 := n0_; have HO0_2 := n1_; have HB := n2_; have BK101 := n3_; have GW101 := n4_; have GE101 := n5_; clear n0_ n1_ n2_ n3_ n4_ n5_; clear hb hbox hg))
 go_loopg [4] k (fun kq v4 w' => ∃ (x4_1 : List Int) (x102000_1 : ByteArray) (x102001_1 : List Int) (x102002_1 : List (S27)) (u102001 : Value) (u102002 : Value), Aside0 (anaphora_subject.l0 kq x4_1 x102000_1 x102001_1 x102002_1 = some (r1, r2)) ∧ Aside0 (kq ≤ k) ∧ Aside0 (Kd.R (Kd.int .i64) 3 w' w.heap.size (fun k_ => (w.heap.size ≤ k_)) v4 x4_1) ∧ Aside0 (Kd.V (Kd.int .i64) 3 w' w.heap.size (fun k_ => ((P0_1_ k_ ∨ P0_2_ k_) ∨ w.heap.size ≤ k_) ∧ some k_ ≠ (v4 : Value).ownBlock ∧ k_ ≠ gb101) u102001 x102001_1) ∧ Aside0 (Kd.V k27 27 w' w.heap.size (fun k_ => ((P0_1_ k_ ∨ P0_2_ k_) ∨ w.heap.size ≤ k_) ∧ some k_ ≠ (v4 : Value).ownBlock ∧ k_ ≠ gb101) u102002 x102002_1) ∧ Aside0 (w'.heap[gb101]? = some (.cells #[.string x102000_1, u102001, u102002] 27 (0, 0))) ∧ Aside0 (Below w.heap.size w w'))
 case atStart => exact ⟨(([] : List Int)), (a0_0), (l0_1), (l0_2), (.slice A0_1 l0_1.length c0_1), (.slice A0_2 l0_2.length c0_2), H', ⟨Nat.le_refl _⟩, ⟨by first | exact Kd.R_nil _ _ _ _ _ | exact Kd.N_nil _ _ _ _ _ | exact Kd.V_nil _ _ _ _ _ | exact Kd.Q_nil _ _ _ _ _ | exact Kd.S_nil _ _ _ _ _⟩, ⟨by (with_reducible repeat (first | apply Kd.V_alloc | apply Kd.V_drewN | apply Kd.V_drew)); exact Kd.V_mono HO0_1.out (fun _ hk => ⟨hk.1, ⟨(by simp [Value.ownBlock]), hk.2⟩⟩)⟩, ⟨by (with_reducible repeat (first | apply Kd.V_alloc | apply Kd.V_drewN | apply Kd.V_drew)); exact Kd.V_mono HO0_2.out (fun _ hk => ⟨hk.1, ⟨(by simp [Value.ownBlock]), hk.2⟩⟩)⟩, ⟨bq_ BK101⟩, ⟨be1_ HB GE101⟩⟩
 case round =>
  clear H'
  try clear p2
  obtain ⟨x4_1, x102000_1, x102001_1, x102002_1, u102001, u102002, HA, HK1, HO_4, HO_102001, HO_102002, BK101, HB⟩ := hrel
  cases gk with
  | zero => exact absurd HA.out (by simp [anaphora_subject.l0])
  | succ k1 =>
   have H := HA.out
   clear HA
   simp only [anaphora_subject.l0] at H
   by_cases c3 : (x102002_1.length : Int) > 0
   ·rw [if_pos c3] at H
    have c3b0 : decide (0 < (x102002_1.length : Int)) = true := decide_eq_true c3
    have c3b1 : decide (0 < x102002_1.length) = true := decide_eq_true (by omega)
    clear c3
    by_cases c4 : x4_1.length < 17592186044416
    ·rw [if_pos c4] at H
     have LMc4 := Aside0.mk c4
     clear c4
     obtain ⟨y102, hy102⟩ : ∃ y_ : List Int, y_ = (x4_1 ++ [0]) := ⟨_, rfl⟩
     replace H : (if x102000_1.toList = ([65, 115, 115, 101, 114, 116] : List UInt8) then (anaphora_subject.j1 k1 y102 x102000_1 (x102000_1.toList == ([65, 115, 115, 101, 114, 116] : List UInt8)) x102000_1 x102001_1 x102002_1) else (if x102000_1.toList = ([77, 117, 115, 116] : List UInt8) then (anaphora_subject.j1 k1 y102 x102000_1 (x102000_1.toList == ([77, 117, 115, 116] : List UInt8)) x102000_1 x102001_1 x102002_1) else (if x102000_1.toList = ([77, 117, 115, 116, 78, 111, 116] : List UInt8) then (anaphora_subject.j1 k1 y102 x102000_1 (x102000_1.toList == ([77, 117, 115, 116, 78, 111, 116] : List UInt8)) x102000_1 x102001_1 x102002_1) else (anaphora_subject.j1 k1 y102 x102000_1 (x102000_1.toList == ([77, 97, 121] : List UInt8)) x102000_1 x102001_1 x102002_1)))) = some (r1, r2) := by first | (rw [hy102]; with_reducible exact H) | (have H2_ := (Option.bind_some _ _).symm.trans H; rw [hy102]; with_reducible exact H2_) | (have H2_ := (Option.bind_some _ _).symm.trans H; with_reducible exact H2_) | with_reducible exact H | (rw [hy102]; exact H) | exact H
     have Ny102 := Aside0.mk hy102
     clear hy102
     have HC5 := Aside0.mk H
     clear H
     have hcz6_0 : wr.cell? ⟨gb101, 0, none⟩ = some (.string x102000_1) := (blk_cell BK101.out 0).trans rfl
     have hcz6_1 : wr.cell? ⟨gb101, 1, none⟩ = some (u102001) := (blk_cell BK101.out 1).trans rfl
     have hcz6_2 : wr.cell? ⟨gb101, 2, none⟩ = some (u102002) := (blk_cell BK101.out 2).trans rfl
     have hfz6_0 := blk_frozen BK101.out 0
     have hfz6_1 := blk_frozen BK101.out 1
     have hfz6_2 := blk_frozen BK101.out 2
     obtain ⟨Ao7, co7, eo7⟩ := Kd.V_slice HO_102002.out
     subst eo7
     go_upto_if 14 with (first | ((with_reducible refine gate_builtin (b := .append) (xs := #[.tmp 9, .tmp 10]) rfl ?_); at_builtin; refine Kd.R_append (Kd.int .i64) (w0 := w) w.heap.size rfl (.tmp 9) (.tmp 10) 25 3 (.int .i64 0) 8 rfl Try.underlying25 info3 rfl (by decide) (by omega) u4 x4_1 0 [.int .i64 0] (fun k_ => (w.heap.size ≤ k_)) (fun _ => False) rfl rfl ?aP (fun _ hk => hk.elim) ?aF ?aO ?aB ?aS ?aL ?_; (case aP => exact rfl); (case aB => exact (be1_ HB GE101)); (case aF => exact (fun k_ hk => (Nat.le_trans (below_size (be1_ HB GE101)) hk))); (case aO => exact (rq_ HO_4)); (case aS => exact (below_size (be1_ HB GE101))); (case aL => have := LMc4.out; omega); intro v103 w8 ho hb hg hat; rw [← Ny102.out] at ho; have n0_ := Aside0.mk (Kd.V_afterv (ok := (fun k_ => ((P0_1_ k_ ∨ P0_2_ k_) ∨ w.heap.size ≤ k_) ∧ k_ ≠ gb101)) (by (with_reducible repeat (first | apply Kd.V_alloc | apply Kd.V_drewN | apply Kd.V_drew)); exact Kd.V_mono HO_102001.out (fun _ hk => ⟨⟨hk.1, hk.2.2⟩, hk.2.1⟩)) hg hat); have n1_ := Aside0.mk (Kd.V_afterv (ok := (fun k_ => ((P0_1_ k_ ∨ P0_2_ k_) ∨ w.heap.size ≤ k_) ∧ k_ ≠ gb101)) (by (with_reducible repeat (first | apply Kd.V_alloc | apply Kd.V_drewN | apply Kd.V_drew)); exact Kd.V_mono HO_102002.out (fun _ hk => ⟨⟨hk.1, hk.2.2⟩, hk.2.1⟩)) hg hat); have n2_ := Aside0.mk (blk_grown (g := gb101) (o := .cells #[.string x102000_1, u102001, .slice Ao7 x102002_1.length co7] 27 (0, 0)) (bq_ BK101) hg (Kd.R_ne HO_4.out BK101.out (by decide))); have n3_ := Aside0.mk (hb); have n4_ := Aside0.mk (ho); clear HO_102001; clear HO_102002; clear BK101; clear HB; clear HO_4; have HO_102001 := n0_; have HO_102002 := n1_; have BK101 := n2_; have HB := n3_; have HO104 := n4_; clear n0_ n1_ n2_ n3_ n4_; clear ho hb hg hat; have hcz9_0 : w8.cell? ⟨gb101, 0, none⟩ = some (.string x102000_1) := (blk_cell BK101.out 0).trans rfl; have hcz9_1 : w8.cell? ⟨gb101, 1, none⟩ = some (u102001) := (blk_cell BK101.out 1).trans rfl; have hcz9_2 : w8.cell? ⟨gb101, 2, none⟩ = some (.slice Ao7 x102002_1.length co7) := (blk_cell BK101.out 2).trans rfl; have hfz9_0 := blk_frozen BK101.out 0; have hfz9_1 := blk_frozen BK101.out 1; have hfz9_2 := blk_frozen BK101.out 2))
     (try simp only [Act.put, List.setIfInBounds_toArray, List.set_cons_zero, List.set_cons_succ])
     go_cut [14] (fun v14 wc => ∃ (kq : Nat) (x14_4 : Bool), v14 = .bool x14_4 ∧ Aside0 (anaphora_subject.j1 kq y102 x102000_1 x14_4 x102000_1 x102001_1 x102002_1 = some (r1, r2)) ∧ Aside0 (kq ≤ k1) ∧ Aside0 (Kd.R (Kd.int .i64) 3 wc w.heap.size (fun k_ => (w.heap.size ≤ k_)) v103 y102) ∧ Aside0 (Kd.V (Kd.int .i64) 3 wc w.heap.size (fun k_ => ((P0_1_ k_ ∨ P0_2_ k_) ∨ w.heap.size ≤ k_) ∧ some k_ ≠ (v103 : Value).ownBlock ∧ k_ ≠ gb101) u102001 x102001_1) ∧ Aside0 (Kd.V k27 27 wc w.heap.size (fun k_ => ((P0_1_ k_ ∨ P0_2_ k_) ∨ w.heap.size ≤ k_) ∧ some k_ ≠ (v103 : Value).ownBlock ∧ k_ ≠ gb101) (.slice Ao7 x102002_1.length co7) x102002_1) ∧ Aside0 (wc.heap[gb101]? = some (.cells #[.string x102000_1, u102001, (.slice Ao7 x102002_1.length co7)] 27 (0, 0))) ∧ Aside0 (Below w.heap.size w wc))
     case first =>
      have H := HC5.out
      clear HC5
      by_cases c10 : x102000_1.toList = ([65, 115, 115, 101, 114, 116] : List UInt8)
      ·rw [if_pos c10] at H
       have c10b0 : (x102000_1.toList == ([65, 115, 115, 101, 114, 116] : List UInt8)) = true := beq_iff_eq.mpr c10
       have c10b1 : (x102000_1.toList != ([65, 115, 115, 101, 114, 116] : List UInt8)) = false := bne_eq_false_iff_eq.mpr c10
       clear c10
       (first | rw [c10b0] | (simp only [i64_w, i32_w]; rw [c10b0]) | skip)
       have H' := Aside0.mk H
       clear H
       go_wp2
       go_meet
       case rel => exact ⟨_, ((x102000_1.toList == ([65, 115, 115, 101, 114, 116] : List UInt8))), fi_, H', ⟨by have := HK1.out; first | omega | exact Nat.le_refl _⟩, ⟨rq_ HO104⟩, ⟨by (with_reducible repeat (first | apply Kd.V_alloc | apply Kd.V_drewN | apply Kd.V_drew)); exact Kd.V_mono HO_102001.out (fun _ hk => ⟨hk.1.1, ⟨hk.2, hk.1.2⟩⟩)⟩, ⟨by (with_reducible repeat (first | apply Kd.V_alloc | apply Kd.V_drewN | apply Kd.V_drew)); exact Kd.V_mono HO_102002.out (fun _ hk => ⟨hk.1.1, ⟨hk.2, hk.1.2⟩⟩)⟩, ⟨bq_ BK101⟩, ⟨be1_ HB GE101⟩⟩
      ·rw [if_neg c10] at H
       have c10b0 : (x102000_1.toList == ([65, 115, 115, 101, 114, 116] : List UInt8)) = false := beq_eq_false_iff_ne.mpr c10
       have c10b1 : (x102000_1.toList != ([65, 115, 115, 101, 114, 116] : List UInt8)) = true := bne_iff_ne.mpr c10
       (first | rw [c10b0] | (simp only [i64_w, i32_w]; rw [c10b0]) | skip)
       by_cases c11 : x102000_1.toList = ([77, 117, 115, 116] : List UInt8)
       ·rw [if_pos c11] at H
        have c11b0 : (x102000_1.toList == ([77, 117, 115, 116] : List UInt8)) = true := beq_iff_eq.mpr c11
        have c11b1 : (x102000_1.toList != ([77, 117, 115, 116] : List UInt8)) = false := bne_eq_false_iff_eq.mpr c11
        clear c11
        have H' := Aside0.mk H
        clear H
        go_wp2
        go_meet
        case rel => exact ⟨_, ((x102000_1.toList == ([77, 117, 115, 116] : List UInt8))), fi_, H', ⟨by have := HK1.out; first | omega | exact Nat.le_refl _⟩, ⟨rq_ HO104⟩, ⟨by (with_reducible repeat (first | apply Kd.V_alloc | apply Kd.V_drewN | apply Kd.V_drew)); exact Kd.V_mono HO_102001.out (fun _ hk => ⟨hk.1.1, ⟨hk.2, hk.1.2⟩⟩)⟩, ⟨by (with_reducible repeat (first | apply Kd.V_alloc | apply Kd.V_drewN | apply Kd.V_drew)); exact Kd.V_mono HO_102002.out (fun _ hk => ⟨hk.1.1, ⟨hk.2, hk.1.2⟩⟩)⟩, ⟨bq_ BK101⟩, ⟨be1_ HB GE101⟩⟩
       ·rw [if_neg c11] at H
        have c11b0 : (x102000_1.toList == ([77, 117, 115, 116] : List UInt8)) = false := beq_eq_false_iff_ne.mpr c11
        have c11b1 : (x102000_1.toList != ([77, 117, 115, 116] : List UInt8)) = true := bne_iff_ne.mpr c11
        by_cases c12 : x102000_1.toList = ([77, 117, 115, 116, 78, 111, 116] : List UInt8)
        ·rw [if_pos c12] at H
         have c12b0 : (x102000_1.toList == ([77, 117, 115, 116, 78, 111, 116] : List UInt8)) = true := beq_iff_eq.mpr c12
         have c12b1 : (x102000_1.toList != ([77, 117, 115, 116, 78, 111, 116] : List UInt8)) = false := bne_eq_false_iff_eq.mpr c12
         clear c12
         have H' := Aside0.mk H
         clear H
         go_wp2
         go_meet
         case rel => exact ⟨_, ((x102000_1.toList == ([77, 117, 115, 116, 78, 111, 116] : List UInt8))), fi_, H', ⟨by have := HK1.out; first | omega | exact Nat.le_refl _⟩, ⟨rq_ HO104⟩, ⟨by (with_reducible repeat (first | apply Kd.V_alloc | apply Kd.V_drewN | apply Kd.V_drew)); exact Kd.V_mono HO_102001.out (fun _ hk => ⟨hk.1.1, ⟨hk.2, hk.1.2⟩⟩)⟩, ⟨by (with_reducible repeat (first | apply Kd.V_alloc | apply Kd.V_drewN | apply Kd.V_drew)); exact Kd.V_mono HO_102002.out (fun _ hk => ⟨hk.1.1, ⟨hk.2, hk.1.2⟩⟩)⟩, ⟨bq_ BK101⟩, ⟨be1_ HB GE101⟩⟩
        ·rw [if_neg c12] at H
         have c12b0 : (x102000_1.toList == ([77, 117, 115, 116, 78, 111, 116] : List UInt8)) = false := beq_eq_false_iff_ne.mpr c12
         have c12b1 : (x102000_1.toList != ([77, 117, 115, 116, 78, 111, 116] : List UInt8)) = true := bne_iff_ne.mpr c12
         have H' := Aside0.mk H
         clear H
         go_wp2
         go_meet
         case rel => exact ⟨_, ((x102000_1.toList == ([77, 97, 121] : List UInt8))), fi_, H', ⟨by have := HK1.out; first | omega | exact Nat.le_refl _⟩, ⟨rq_ HO104⟩, ⟨by (with_reducible repeat (first | apply Kd.V_alloc | apply Kd.V_drewN | apply Kd.V_drew)); exact Kd.V_mono HO_102001.out (fun _ hk => ⟨hk.1.1, ⟨hk.2, hk.1.2⟩⟩)⟩, ⟨by (with_reducible repeat (first | apply Kd.V_alloc | apply Kd.V_drewN | apply Kd.V_drew)); exact Kd.V_mono HO_102002.out (fun _ hk => ⟨hk.1.1, ⟨hk.2, hk.1.2⟩⟩)⟩, ⟨bq_ BK101⟩, ⟨be1_ HB GE101⟩⟩
     case rest =>
      clear HC5
      try clear c1
      try clear p2
      try clear c3
      try clear c3b0
      try clear c3b1
      try clear c4
      try clear c10
      try clear c10b0
      try clear c10b1
      try clear c11
      try clear c11b0
      try clear c11b1
      try clear c12
      try clear c12b0
      try clear c12b1
      try clear hcz6_0
      try clear hcz6_1
      try clear hcz6_2
      try clear hcz9_0
      try clear hcz9_1
      try clear hcz9_2
      try clear hfz6_0
      try clear hfz6_1
      try clear hfz6_2
      try clear hfz9_0
      try clear hfz9_1
      try clear hfz9_2
      try clear p2
      obtain ⟨kq, x14_4, rfl, HA, HJ4, HO_4, HO_102001, HO_102002, BK101, HB⟩ := hcut
      cases kq with
      | zero => exact absurd HA.out (by simp [anaphora_subject.j1])
      | succ kj4 =>
       have H := HA.out
       clear HA
       simp only [anaphora_subject.j1] at H
       by_cases c13 : x14_4 = true
       ·subst c13
        have H1 : (some (y102, true)) = some (r1, r2) := by rw [if_pos rfl] at H; exact H
        clear H
        have H := H1
        clear H1
        simp only [Option.some.injEq, Prod.mk.injEq] at H
        obtain ⟨rfl, rfl⟩ := H
        go_wp2
        go_ret2
        exact ⟨_, er_, by (with_reducible repeat (first | apply Kd.R_alloc | apply Kd.R_drewN | apply Kd.R_drew)); exact HO_4.out, be1_ HB GE101⟩
       ·replace c13 := Bool.eq_false_iff.mpr c13
        subst c13
        have H1 : (if x102000_1.toList = ([68, 117, 114, 105, 110, 103] : List UInt8) then (if 0 < (x102002_1.length : Int) then (anaphora_subject.l0 kj4 y102 ((rd_T27 x102002_1 0).f0) ((rd_T27 x102002_1 0).f1) ((rd_T27 x102002_1 0).f2)) else (none)) else (if x102000_1.toList = ([83, 105, 110, 99, 101] : List UInt8) then (if 0 < (x102002_1.length : Int) then (anaphora_subject.l0 kj4 y102 ((rd_T27 x102002_1 0).f0) ((rd_T27 x102002_1 0).f1) ((rd_T27 x102002_1 0).f2)) else (none)) else (if x102000_1.toList = ([85, 110, 116, 105, 108] : List UInt8) then (if 0 < (x102002_1.length : Int) then (anaphora_subject.l0 kj4 y102 ((rd_T27 x102002_1 0).f0) ((rd_T27 x102002_1 0).f1) ((rd_T27 x102002_1 0).f2)) else (none)) else (if x102000_1.toList = ([80, 108, 101, 97, 115, 101] : List UInt8) then (if 0 < (x102002_1.length : Int) then (anaphora_subject.l0 kj4 y102 ((rd_T27 x102002_1 0).f0) ((rd_T27 x102002_1 0).f1) ((rd_T27 x102002_1 0).f2)) else (none)) else (if x102000_1.toList = ([65, 108, 115, 111] : List UInt8) then (if 0 < (x102002_1.length : Int) then (anaphora_subject.l0 kj4 y102 ((rd_T27 x102002_1 0).f0) ((rd_T27 x102002_1 0).f1) ((rd_T27 x102002_1 0).f2)) else (none)) else (some (([] : List Int), false))))))) = some (r1, r2) := by rw [if_neg (show ¬ (false = true) by decide)] at H; exact H
        clear H
        have H := H1
        clear H1
        by_cases c14 : x102000_1.toList = ([68, 117, 114, 105, 110, 103] : List UInt8)
        ·rw [if_pos c14] at H
         have c14b0 : (x102000_1.toList == ([68, 117, 114, 105, 110, 103] : List UInt8)) = true := beq_iff_eq.mpr c14
         have c14b1 : (x102000_1.toList != ([68, 117, 114, 105, 110, 103] : List UInt8)) = false := bne_eq_false_iff_eq.mpr c14
         clear c14
         by_cases c15 : 0 < (x102002_1.length : Int)
         ·rw [if_pos c15] at H
          have c15b0 : decide (0 < (x102002_1.length : Int)) = true := decide_eq_true c15
          have c15b1 : decide (0 < x102002_1.length) = true := decide_eq_true (by omega)
          clear c15
          have H' := Aside0.mk H
          clear H
          have hcz16_0 : wc.cell? ⟨gb101, 0, none⟩ = some (.string x102000_1) := (blk_cell BK101.out 0).trans rfl
          have hcz16_1 : wc.cell? ⟨gb101, 1, none⟩ = some (u102001) := (blk_cell BK101.out 1).trans rfl
          have hcz16_2 : wc.cell? ⟨gb101, 2, none⟩ = some (.slice Ao7 x102002_1.length co7) := (blk_cell BK101.out 2).trans rfl
          have hfz16_0 := blk_frozen BK101.out 0
          have hfz16_1 := blk_frozen BK101.out 1
          have hfz16_2 := blk_frozen BK101.out 2
          have p105 : 0 ≤ (0 : Int) := (by omega)
          have q105 : 0 < (x102002_1.length : Int) := of_decide_eq_true (by first | (with_reducible assumption) | assumption)
          obtain ⟨ad105, A105_1, c105_1, A105_2, c105_2, e105, hx105_0, hx105_1, hx105_2, hl105_1, hi105_1, hl105_2, hi105_2⟩ := at_T27 (Kd.V_reads' HO_102002.out).2.2 0 p105 q105
          cases e105
          obtain ⟨ce105, hce105, hMe105, hcc105⟩ := Kd.V_get HO_102002.out z27 0 p105 (by first | exact q105 | exact of_decide_eq_true (by first | (with_reducible assumption) | assumption) | (have e_ := (Kd.V_reads' HO_102002.out).1; omega))
          obtain ⟨ua105_1, uc105_1, ua105_2, uc105_2, rfl, ul105_1, ge105_1, ul105_2, ge105_2⟩ := k27_openF hMe105
          have hv105_1 := hcc105 1 _ rfl
          rw [add_field _ _ 1 (by omega)] at hv105_1
          replace hv105_1 := Option.some.inj (hv105_1.symm.trans hx105_1)
          injection hv105_1 with hva_ hvn_ hvc_
          rw [hva_] at ge105_1
          rw [hvc_] at ul105_1
          have HL105_1 := Aside0.mk (show Kd.V (Kd.int .i64) 3 _ w.heap.size _ _ ((rd_T27 x102002_1 0).f1) from Kd.V_mk ul105_1 ge105_1)
          clear hva_ hvn_ hvc_ ge105_1 ul105_1
          have hv105_2 := hcc105 2 _ rfl
          rw [add_field _ _ 2 (by omega)] at hv105_2
          replace hv105_2 := Option.some.inj (hv105_2.symm.trans hx105_2)
          injection hv105_2 with hva_ hvn_ hvc_
          rw [hva_] at ge105_2
          rw [hvc_] at ul105_2
          have HL105_2 := Aside0.mk (show Kd.V k27 27 _ w.heap.size _ _ ((rd_T27 x102002_1 0).f2) from Kd.V_mk ul105_2 ge105_2)
          clear hva_ hvn_ hvc_ ge105_2 ul105_2
          clear hcc105 hce105
          have qi105 : (0 < x102002_1.length) = True := eq_true (by omega)
          (try rw [show ((0 : Int)).toNat = 0 from rfl] at hx105_0)
          (try rw [show 0 * 3 = 0 from rfl] at hx105_0)
          (try rw [Addr.add_zero'] at hx105_0)
          (try rw [show ((0 : Int)).toNat = 0 from rfl] at hx105_1)
          (try rw [show 0 * 3 = 0 from rfl] at hx105_1)
          (try rw [Addr.add_zero'] at hx105_1)
          (try rw [show ((0 : Int)).toNat = 0 from rfl] at hx105_2)
          (try rw [show 0 * 3 = 0 from rfl] at hx105_2)
          (try rw [Addr.add_zero'] at hx105_2)
          have HR105_1 := Aside0.mk hi105_1
          have HC105_1 := Aside0.mk hl105_1
          clear hi105_1 hl105_1
          have HR105_2 := Aside0.mk hi105_2
          have HC105_2 := Aside0.mk hl105_2
          clear hi105_2 hl105_2
          replace p105 := eq_true p105
          replace q105 := eq_true q105
          go_wp2
          go_roundg kj4
          case measure => have := HK1.out; have := HJ4.out; omega
          case rel => exact ⟨(y102), ((rd_T27 x102002_1 0).f0), ((rd_T27 x102002_1 0).f1), ((rd_T27 x102002_1 0).f2), (.slice A105_1 ((rd_T27 x102002_1 0).f1).length c105_1), (.slice A105_2 ((rd_T27 x102002_1 0).f2).length c105_2), H', ⟨by have := HK1.out; have := HJ4.out; omega⟩, ⟨by (with_reducible repeat (first | apply Kd.R_alloc | apply Kd.R_drewN | apply Kd.R_drew)); exact Kd.R_mono (Kd.R_far (p := ⟨gb101, 2, none⟩) (Kd.R_far (p := ⟨gb101, 1, none⟩) (Kd.R_far (p := ⟨gb101, 0, none⟩) (Kd.R_types HO_4.out BK101.out (by decide)) (fun _ hk => hk.2) (.string ((rd_T27 x102002_1 0).f0))) (fun _ hk => hk.2) (.slice A105_1 ((rd_T27 x102002_1 0).f1).length c105_1)) (fun _ hk => hk.2) (.slice A105_2 ((rd_T27 x102002_1 0).f2).length c105_2)) (fun _ hk => hk.1)⟩, ⟨by (with_reducible repeat (first | apply Kd.V_alloc | apply Kd.V_drewN | apply Kd.V_drew)); exact Kd.V_mono (Kd.V_far (p := ⟨gb101, 2, none⟩) (Kd.V_far (p := ⟨gb101, 1, none⟩) (Kd.V_far (p := ⟨gb101, 0, none⟩) (Kd.V_mono HL105_1.out (fun k_ hk => (⟨hk, hk.2.2⟩ : _ ∧ k_ ≠ gb101))) (fun _ hk => hk.2) (.string ((rd_T27 x102002_1 0).f0))) (fun _ hk => hk.2) (.slice A105_1 ((rd_T27 x102002_1 0).f1).length c105_1)) (fun _ hk => hk.2) (.slice A105_2 ((rd_T27 x102002_1 0).f2).length c105_2)) (fun _ hk => ⟨hk.1.1, ⟨hk.1.2.1, hk.1.2.2⟩⟩)⟩, ⟨by (with_reducible repeat (first | apply Kd.V_alloc | apply Kd.V_drewN | apply Kd.V_drew)); exact Kd.V_mono (Kd.V_far (p := ⟨gb101, 2, none⟩) (Kd.V_far (p := ⟨gb101, 1, none⟩) (Kd.V_far (p := ⟨gb101, 0, none⟩) (Kd.V_mono HL105_2.out (fun k_ hk => (⟨hk, hk.2.2⟩ : _ ∧ k_ ≠ gb101))) (fun _ hk => hk.2) (.string ((rd_T27 x102002_1 0).f0))) (fun _ hk => hk.2) (.slice A105_1 ((rd_T27 x102002_1 0).f1).length c105_1)) (fun _ hk => hk.2) (.slice A105_2 ((rd_T27 x102002_1 0).f2).length c105_2)) (fun _ hk => ⟨hk.1.1, ⟨hk.1.2.1, hk.1.2.2⟩⟩)⟩, ⟨by (with_reducible repeat (first | refine blk_drewN ?_ _ | refine blk_drew ?_ | refine blk_alloc ?_ _)); refine blk_put (cs := #[.string ((rd_T27 x102002_1 0).f0), .slice A105_1 ((rd_T27 x102002_1 0).f1).length c105_1, .slice (some ad105) x102002_1.length co7]) ?_ 2 _ rfl; (with_reducible repeat (first | refine blk_drewN ?_ _ | refine blk_drew ?_ | refine blk_alloc ?_ _)); refine blk_put (cs := #[.string ((rd_T27 x102002_1 0).f0), u102001, .slice (some ad105) x102002_1.length co7]) ?_ 1 _ rfl; (with_reducible repeat (first | refine blk_drewN ?_ _ | refine blk_drew ?_ | refine blk_alloc ?_ _)); refine blk_put (cs := #[.string x102000_1, u102001, .slice (some ad105) x102002_1.length co7]) ?_ 0 _ rfl; (with_reducible repeat (first | refine blk_drewN ?_ _ | refine blk_drew ?_ | refine blk_alloc ?_ _)); exact BK101.out⟩, ⟨be1_ HB GE101⟩⟩
         ·rw [if_neg c15] at H
          exact absurd H (by simp)
        ·rw [if_neg c14] at H
         have c14b0 : (x102000_1.toList == ([68, 117, 114, 105, 110, 103] : List UInt8)) = false := beq_eq_false_iff_ne.mpr c14
         have c14b1 : (x102000_1.toList != ([68, 117, 114, 105, 110, 103] : List UInt8)) = true := bne_iff_ne.mpr c14
         by_cases c17 : x102000_1.toList = ([83, 105, 110, 99, 101] : List UInt8)
         ·rw [if_pos c17] at H
          have c17b0 : (x102000_1.toList == ([83, 105, 110, 99, 101] : List UInt8)) = true := beq_iff_eq.mpr c17
          have c17b1 : (x102000_1.toList != ([83, 105, 110, 99, 101] : List UInt8)) = false := bne_eq_false_iff_eq.mpr c17
          clear c17
          by_cases c18 : 0 < (x102002_1.length : Int)
          ·rw [if_pos c18] at H
           have c18b0 : decide (0 < (x102002_1.length : Int)) = true := decide_eq_true c18
           have c18b1 : decide (0 < x102002_1.length) = true := decide_eq_true (by omega)
           clear c18
           have H' := Aside0.mk H
           clear H
           have hcz19_0 : wc.cell? ⟨gb101, 0, none⟩ = some (.string x102000_1) := (blk_cell BK101.out 0).trans rfl
           have hcz19_1 : wc.cell? ⟨gb101, 1, none⟩ = some (u102001) := (blk_cell BK101.out 1).trans rfl
           have hcz19_2 : wc.cell? ⟨gb101, 2, none⟩ = some (.slice Ao7 x102002_1.length co7) := (blk_cell BK101.out 2).trans rfl
           have hfz19_0 := blk_frozen BK101.out 0
           have hfz19_1 := blk_frozen BK101.out 1
           have hfz19_2 := blk_frozen BK101.out 2
           have p106 : 0 ≤ (0 : Int) := (by omega)
           have q106 : 0 < (x102002_1.length : Int) := of_decide_eq_true (by first | (with_reducible assumption) | assumption)
           obtain ⟨ad106, A106_1, c106_1, A106_2, c106_2, e106, hx106_0, hx106_1, hx106_2, hl106_1, hi106_1, hl106_2, hi106_2⟩ := at_T27 (Kd.V_reads' HO_102002.out).2.2 0 p106 q106
           cases e106
           obtain ⟨ce106, hce106, hMe106, hcc106⟩ := Kd.V_get HO_102002.out z27 0 p106 (by first | exact q106 | exact of_decide_eq_true (by first | (with_reducible assumption) | assumption) | (have e_ := (Kd.V_reads' HO_102002.out).1; omega))
           obtain ⟨ua106_1, uc106_1, ua106_2, uc106_2, rfl, ul106_1, ge106_1, ul106_2, ge106_2⟩ := k27_openF hMe106
           have hv106_1 := hcc106 1 _ rfl
           rw [add_field _ _ 1 (by omega)] at hv106_1
           replace hv106_1 := Option.some.inj (hv106_1.symm.trans hx106_1)
           injection hv106_1 with hva_ hvn_ hvc_
           rw [hva_] at ge106_1
           rw [hvc_] at ul106_1
           have HL106_1 := Aside0.mk (show Kd.V (Kd.int .i64) 3 _ w.heap.size _ _ ((rd_T27 x102002_1 0).f1) from Kd.V_mk ul106_1 ge106_1)
           clear hva_ hvn_ hvc_ ge106_1 ul106_1
           have hv106_2 := hcc106 2 _ rfl
           rw [add_field _ _ 2 (by omega)] at hv106_2
           replace hv106_2 := Option.some.inj (hv106_2.symm.trans hx106_2)
           injection hv106_2 with hva_ hvn_ hvc_
           rw [hva_] at ge106_2
           rw [hvc_] at ul106_2
           have HL106_2 := Aside0.mk (show Kd.V k27 27 _ w.heap.size _ _ ((rd_T27 x102002_1 0).f2) from Kd.V_mk ul106_2 ge106_2)
           clear hva_ hvn_ hvc_ ge106_2 ul106_2
           clear hcc106 hce106
           have qi106 : (0 < x102002_1.length) = True := eq_true (by omega)
           (try rw [show ((0 : Int)).toNat = 0 from rfl] at hx106_0)
           (try rw [show 0 * 3 = 0 from rfl] at hx106_0)
           (try rw [Addr.add_zero'] at hx106_0)
           (try rw [show ((0 : Int)).toNat = 0 from rfl] at hx106_1)
           (try rw [show 0 * 3 = 0 from rfl] at hx106_1)
           (try rw [Addr.add_zero'] at hx106_1)
           (try rw [show ((0 : Int)).toNat = 0 from rfl] at hx106_2)
           (try rw [show 0 * 3 = 0 from rfl] at hx106_2)
           (try rw [Addr.add_zero'] at hx106_2)
           have HR106_1 := Aside0.mk hi106_1
           have HC106_1 := Aside0.mk hl106_1
           clear hi106_1 hl106_1
           have HR106_2 := Aside0.mk hi106_2
           have HC106_2 := Aside0.mk hl106_2
           clear hi106_2 hl106_2
           replace p106 := eq_true p106
           replace q106 := eq_true q106
           go_wp2
           go_roundg kj4
           case measure => have := HK1.out; have := HJ4.out; omega
           case rel => exact ⟨(y102), ((rd_T27 x102002_1 0).f0), ((rd_T27 x102002_1 0).f1), ((rd_T27 x102002_1 0).f2), (.slice A106_1 ((rd_T27 x102002_1 0).f1).length c106_1), (.slice A106_2 ((rd_T27 x102002_1 0).f2).length c106_2), H', ⟨by have := HK1.out; have := HJ4.out; omega⟩, ⟨by (with_reducible repeat (first | apply Kd.R_alloc | apply Kd.R_drewN | apply Kd.R_drew)); exact Kd.R_mono (Kd.R_far (p := ⟨gb101, 2, none⟩) (Kd.R_far (p := ⟨gb101, 1, none⟩) (Kd.R_far (p := ⟨gb101, 0, none⟩) (Kd.R_types HO_4.out BK101.out (by decide)) (fun _ hk => hk.2) (.string ((rd_T27 x102002_1 0).f0))) (fun _ hk => hk.2) (.slice A106_1 ((rd_T27 x102002_1 0).f1).length c106_1)) (fun _ hk => hk.2) (.slice A106_2 ((rd_T27 x102002_1 0).f2).length c106_2)) (fun _ hk => hk.1)⟩, ⟨by (with_reducible repeat (first | apply Kd.V_alloc | apply Kd.V_drewN | apply Kd.V_drew)); exact Kd.V_mono (Kd.V_far (p := ⟨gb101, 2, none⟩) (Kd.V_far (p := ⟨gb101, 1, none⟩) (Kd.V_far (p := ⟨gb101, 0, none⟩) (Kd.V_mono HL106_1.out (fun k_ hk => (⟨hk, hk.2.2⟩ : _ ∧ k_ ≠ gb101))) (fun _ hk => hk.2) (.string ((rd_T27 x102002_1 0).f0))) (fun _ hk => hk.2) (.slice A106_1 ((rd_T27 x102002_1 0).f1).length c106_1)) (fun _ hk => hk.2) (.slice A106_2 ((rd_T27 x102002_1 0).f2).length c106_2)) (fun _ hk => ⟨hk.1.1, ⟨hk.1.2.1, hk.1.2.2⟩⟩)⟩, ⟨by (with_reducible repeat (first | apply Kd.V_alloc | apply Kd.V_drewN | apply Kd.V_drew)); exact Kd.V_mono (Kd.V_far (p := ⟨gb101, 2, none⟩) (Kd.V_far (p := ⟨gb101, 1, none⟩) (Kd.V_far (p := ⟨gb101, 0, none⟩) (Kd.V_mono HL106_2.out (fun k_ hk => (⟨hk, hk.2.2⟩ : _ ∧ k_ ≠ gb101))) (fun _ hk => hk.2) (.string ((rd_T27 x102002_1 0).f0))) (fun _ hk => hk.2) (.slice A106_1 ((rd_T27 x102002_1 0).f1).length c106_1)) (fun _ hk => hk.2) (.slice A106_2 ((rd_T27 x102002_1 0).f2).length c106_2)) (fun _ hk => ⟨hk.1.1, ⟨hk.1.2.1, hk.1.2.2⟩⟩)⟩, ⟨by (with_reducible repeat (first | refine blk_drewN ?_ _ | refine blk_drew ?_ | refine blk_alloc ?_ _)); refine blk_put (cs := #[.string ((rd_T27 x102002_1 0).f0), .slice A106_1 ((rd_T27 x102002_1 0).f1).length c106_1, .slice (some ad106) x102002_1.length co7]) ?_ 2 _ rfl; (with_reducible repeat (first | refine blk_drewN ?_ _ | refine blk_drew ?_ | refine blk_alloc ?_ _)); refine blk_put (cs := #[.string ((rd_T27 x102002_1 0).f0), u102001, .slice (some ad106) x102002_1.length co7]) ?_ 1 _ rfl; (with_reducible repeat (first | refine blk_drewN ?_ _ | refine blk_drew ?_ | refine blk_alloc ?_ _)); refine blk_put (cs := #[.string x102000_1, u102001, .slice (some ad106) x102002_1.length co7]) ?_ 0 _ rfl; (with_reducible repeat (first | refine blk_drewN ?_ _ | refine blk_drew ?_ | refine blk_alloc ?_ _)); exact BK101.out⟩, ⟨be1_ HB GE101⟩⟩
          ·rw [if_neg c18] at H
           exact absurd H (by simp)
         ·rw [if_neg c17] at H
          have c17b0 : (x102000_1.toList == ([83, 105, 110, 99, 101] : List UInt8)) = false := beq_eq_false_iff_ne.mpr c17
          have c17b1 : (x102000_1.toList != ([83, 105, 110, 99, 101] : List UInt8)) = true := bne_iff_ne.mpr c17
          by_cases c20 : x102000_1.toList = ([85, 110, 116, 105, 108] : List UInt8)
          ·rw [if_pos c20] at H
           have c20b0 : (x102000_1.toList == ([85, 110, 116, 105, 108] : List UInt8)) = true := beq_iff_eq.mpr c20
           have c20b1 : (x102000_1.toList != ([85, 110, 116, 105, 108] : List UInt8)) = false := bne_eq_false_iff_eq.mpr c20
           clear c20
           by_cases c21 : 0 < (x102002_1.length : Int)
           ·rw [if_pos c21] at H
            have c21b0 : decide (0 < (x102002_1.length : Int)) = true := decide_eq_true c21
            have c21b1 : decide (0 < x102002_1.length) = true := decide_eq_true (by omega)
            clear c21
            have H' := Aside0.mk H
            clear H
            have hcz22_0 : wc.cell? ⟨gb101, 0, none⟩ = some (.string x102000_1) := (blk_cell BK101.out 0).trans rfl
            have hcz22_1 : wc.cell? ⟨gb101, 1, none⟩ = some (u102001) := (blk_cell BK101.out 1).trans rfl
            have hcz22_2 : wc.cell? ⟨gb101, 2, none⟩ = some (.slice Ao7 x102002_1.length co7) := (blk_cell BK101.out 2).trans rfl
            have hfz22_0 := blk_frozen BK101.out 0
            have hfz22_1 := blk_frozen BK101.out 1
            have hfz22_2 := blk_frozen BK101.out 2
            have p107 : 0 ≤ (0 : Int) := (by omega)
            have q107 : 0 < (x102002_1.length : Int) := of_decide_eq_true (by first | (with_reducible assumption) | assumption)
            obtain ⟨ad107, A107_1, c107_1, A107_2, c107_2, e107, hx107_0, hx107_1, hx107_2, hl107_1, hi107_1, hl107_2, hi107_2⟩ := at_T27 (Kd.V_reads' HO_102002.out).2.2 0 p107 q107
            cases e107
            obtain ⟨ce107, hce107, hMe107, hcc107⟩ := Kd.V_get HO_102002.out z27 0 p107 (by first | exact q107 | exact of_decide_eq_true (by first | (with_reducible assumption) | assumption) | (have e_ := (Kd.V_reads' HO_102002.out).1; omega))
            obtain ⟨ua107_1, uc107_1, ua107_2, uc107_2, rfl, ul107_1, ge107_1, ul107_2, ge107_2⟩ := k27_openF hMe107
            have hv107_1 := hcc107 1 _ rfl
            rw [add_field _ _ 1 (by omega)] at hv107_1
            replace hv107_1 := Option.some.inj (hv107_1.symm.trans hx107_1)
            injection hv107_1 with hva_ hvn_ hvc_
            rw [hva_] at ge107_1
            rw [hvc_] at ul107_1
            have HL107_1 := Aside0.mk (show Kd.V (Kd.int .i64) 3 _ w.heap.size _ _ ((rd_T27 x102002_1 0).f1) from Kd.V_mk ul107_1 ge107_1)
            clear hva_ hvn_ hvc_ ge107_1 ul107_1
            have hv107_2 := hcc107 2 _ rfl
            rw [add_field _ _ 2 (by omega)] at hv107_2
            replace hv107_2 := Option.some.inj (hv107_2.symm.trans hx107_2)
            injection hv107_2 with hva_ hvn_ hvc_
            rw [hva_] at ge107_2
            rw [hvc_] at ul107_2
            have HL107_2 := Aside0.mk (show Kd.V k27 27 _ w.heap.size _ _ ((rd_T27 x102002_1 0).f2) from Kd.V_mk ul107_2 ge107_2)
            clear hva_ hvn_ hvc_ ge107_2 ul107_2
            clear hcc107 hce107
            have qi107 : (0 < x102002_1.length) = True := eq_true (by omega)
            (try rw [show ((0 : Int)).toNat = 0 from rfl] at hx107_0)
            (try rw [show 0 * 3 = 0 from rfl] at hx107_0)
            (try rw [Addr.add_zero'] at hx107_0)
            (try rw [show ((0 : Int)).toNat = 0 from rfl] at hx107_1)
            (try rw [show 0 * 3 = 0 from rfl] at hx107_1)
            (try rw [Addr.add_zero'] at hx107_1)
            (try rw [show ((0 : Int)).toNat = 0 from rfl] at hx107_2)
            (try rw [show 0 * 3 = 0 from rfl] at hx107_2)
            (try rw [Addr.add_zero'] at hx107_2)
            have HR107_1 := Aside0.mk hi107_1
            have HC107_1 := Aside0.mk hl107_1
            clear hi107_1 hl107_1
            have HR107_2 := Aside0.mk hi107_2
            have HC107_2 := Aside0.mk hl107_2
            clear hi107_2 hl107_2
            replace p107 := eq_true p107
            replace q107 := eq_true q107
            go_wp2
            go_roundg kj4
            case measure => have := HK1.out; have := HJ4.out; omega
            case rel => exact ⟨(y102), ((rd_T27 x102002_1 0).f0), ((rd_T27 x102002_1 0).f1), ((rd_T27 x102002_1 0).f2), (.slice A107_1 ((rd_T27 x102002_1 0).f1).length c107_1), (.slice A107_2 ((rd_T27 x102002_1 0).f2).length c107_2), H', ⟨by have := HK1.out; have := HJ4.out; omega⟩, ⟨by (with_reducible repeat (first | apply Kd.R_alloc | apply Kd.R_drewN | apply Kd.R_drew)); exact Kd.R_mono (Kd.R_far (p := ⟨gb101, 2, none⟩) (Kd.R_far (p := ⟨gb101, 1, none⟩) (Kd.R_far (p := ⟨gb101, 0, none⟩) (Kd.R_types HO_4.out BK101.out (by decide)) (fun _ hk => hk.2) (.string ((rd_T27 x102002_1 0).f0))) (fun _ hk => hk.2) (.slice A107_1 ((rd_T27 x102002_1 0).f1).length c107_1)) (fun _ hk => hk.2) (.slice A107_2 ((rd_T27 x102002_1 0).f2).length c107_2)) (fun _ hk => hk.1)⟩, ⟨by (with_reducible repeat (first | apply Kd.V_alloc | apply Kd.V_drewN | apply Kd.V_drew)); exact Kd.V_mono (Kd.V_far (p := ⟨gb101, 2, none⟩) (Kd.V_far (p := ⟨gb101, 1, none⟩) (Kd.V_far (p := ⟨gb101, 0, none⟩) (Kd.V_mono HL107_1.out (fun k_ hk => (⟨hk, hk.2.2⟩ : _ ∧ k_ ≠ gb101))) (fun _ hk => hk.2) (.string ((rd_T27 x102002_1 0).f0))) (fun _ hk => hk.2) (.slice A107_1 ((rd_T27 x102002_1 0).f1).length c107_1)) (fun _ hk => hk.2) (.slice A107_2 ((rd_T27 x102002_1 0).f2).length c107_2)) (fun _ hk => ⟨hk.1.1, ⟨hk.1.2.1, hk.1.2.2⟩⟩)⟩, ⟨by (with_reducible repeat (first | apply Kd.V_alloc | apply Kd.V_drewN | apply Kd.V_drew)); exact Kd.V_mono (Kd.V_far (p := ⟨gb101, 2, none⟩) (Kd.V_far (p := ⟨gb101, 1, none⟩) (Kd.V_far (p := ⟨gb101, 0, none⟩) (Kd.V_mono HL107_2.out (fun k_ hk => (⟨hk, hk.2.2⟩ : _ ∧ k_ ≠ gb101))) (fun _ hk => hk.2) (.string ((rd_T27 x102002_1 0).f0))) (fun _ hk => hk.2) (.slice A107_1 ((rd_T27 x102002_1 0).f1).length c107_1)) (fun _ hk => hk.2) (.slice A107_2 ((rd_T27 x102002_1 0).f2).length c107_2)) (fun _ hk => ⟨hk.1.1, ⟨hk.1.2.1, hk.1.2.2⟩⟩)⟩, ⟨by (with_reducible repeat (first | refine blk_drewN ?_ _ | refine blk_drew ?_ | refine blk_alloc ?_ _)); refine blk_put (cs := #[.string ((rd_T27 x102002_1 0).f0), .slice A107_1 ((rd_T27 x102002_1 0).f1).length c107_1, .slice (some ad107) x102002_1.length co7]) ?_ 2 _ rfl; (with_reducible repeat (first | refine blk_drewN ?_ _ | refine blk_drew ?_ | refine blk_alloc ?_ _)); refine blk_put (cs := #[.string ((rd_T27 x102002_1 0).f0), u102001, .slice (some ad107) x102002_1.length co7]) ?_ 1 _ rfl; (with_reducible repeat (first | refine blk_drewN ?_ _ | refine blk_drew ?_ | refine blk_alloc ?_ _)); refine blk_put (cs := #[.string x102000_1, u102001, .slice (some ad107) x102002_1.length co7]) ?_ 0 _ rfl; (with_reducible repeat (first | refine blk_drewN ?_ _ | refine blk_drew ?_ | refine blk_alloc ?_ _)); exact BK101.out⟩, ⟨be1_ HB GE101⟩⟩
           ·rw [if_neg c21] at H
            exact absurd H (by simp)
          ·rw [if_neg c20] at H
           have c20b0 : (x102000_1.toList == ([85, 110, 116, 105, 108] : List UInt8)) = false := beq_eq_false_iff_ne.mpr c20
           have c20b1 : (x102000_1.toList != ([85, 110, 116, 105, 108] : List UInt8)) = true := bne_iff_ne.mpr c20
           by_cases c23 : x102000_1.toList = ([80, 108, 101, 97, 115, 101] : List UInt8)
           ·rw [if_pos c23] at H
            have c23b0 : (x102000_1.toList == ([80, 108, 101, 97, 115, 101] : List UInt8)) = true := beq_iff_eq.mpr c23
            have c23b1 : (x102000_1.toList != ([80, 108, 101, 97, 115, 101] : List UInt8)) = false := bne_eq_false_iff_eq.mpr c23
            clear c23
            by_cases c24 : 0 < (x102002_1.length : Int)
            ·rw [if_pos c24] at H
             have c24b0 : decide (0 < (x102002_1.length : Int)) = true := decide_eq_true c24
             have c24b1 : decide (0 < x102002_1.length) = true := decide_eq_true (by omega)
             clear c24
             have H' := Aside0.mk H
             clear H
             have hcz25_0 : wc.cell? ⟨gb101, 0, none⟩ = some (.string x102000_1) := (blk_cell BK101.out 0).trans rfl
             have hcz25_1 : wc.cell? ⟨gb101, 1, none⟩ = some (u102001) := (blk_cell BK101.out 1).trans rfl
             have hcz25_2 : wc.cell? ⟨gb101, 2, none⟩ = some (.slice Ao7 x102002_1.length co7) := (blk_cell BK101.out 2).trans rfl
             have hfz25_0 := blk_frozen BK101.out 0
             have hfz25_1 := blk_frozen BK101.out 1
             have hfz25_2 := blk_frozen BK101.out 2
             have p108 : 0 ≤ (0 : Int) := (by omega)
             have q108 : 0 < (x102002_1.length : Int) := of_decide_eq_true (by first | (with_reducible assumption) | assumption)
             obtain ⟨ad108, A108_1, c108_1, A108_2, c108_2, e108, hx108_0, hx108_1, hx108_2, hl108_1, hi108_1, hl108_2, hi108_2⟩ := at_T27 (Kd.V_reads' HO_102002.out).2.2 0 p108 q108
             cases e108
             obtain ⟨ce108, hce108, hMe108, hcc108⟩ := Kd.V_get HO_102002.out z27 0 p108 (by first | exact q108 | exact of_decide_eq_true (by first | (with_reducible assumption) | assumption) | (have e_ := (Kd.V_reads' HO_102002.out).1; omega))
             obtain ⟨ua108_1, uc108_1, ua108_2, uc108_2, rfl, ul108_1, ge108_1, ul108_2, ge108_2⟩ := k27_openF hMe108
             have hv108_1 := hcc108 1 _ rfl
             rw [add_field _ _ 1 (by omega)] at hv108_1
             replace hv108_1 := Option.some.inj (hv108_1.symm.trans hx108_1)
             injection hv108_1 with hva_ hvn_ hvc_
             rw [hva_] at ge108_1
             rw [hvc_] at ul108_1
             have HL108_1 := Aside0.mk (show Kd.V (Kd.int .i64) 3 _ w.heap.size _ _ ((rd_T27 x102002_1 0).f1) from Kd.V_mk ul108_1 ge108_1)
             clear hva_ hvn_ hvc_ ge108_1 ul108_1
             have hv108_2 := hcc108 2 _ rfl
             rw [add_field _ _ 2 (by omega)] at hv108_2
             replace hv108_2 := Option.some.inj (hv108_2.symm.trans hx108_2)
             injection hv108_2 with hva_ hvn_ hvc_
             rw [hva_] at ge108_2
             rw [hvc_] at ul108_2
             have HL108_2 := Aside0.mk (show Kd.V k27 27 _ w.heap.size _ _ ((rd_T27 x102002_1 0).f2) from Kd.V_mk ul108_2 ge108_2)
             clear hva_ hvn_ hvc_ ge108_2 ul108_2
             clear hcc108 hce108
             have qi108 : (0 < x102002_1.length) = True := eq_true (by omega)
             (try rw [show ((0 : Int)).toNat = 0 from rfl] at hx108_0)
             (try rw [show 0 * 3 = 0 from rfl] at hx108_0)
             (try rw [Addr.add_zero'] at hx108_0)
             (try rw [show ((0 : Int)).toNat = 0 from rfl] at hx108_1)
             (try rw [show 0 * 3 = 0 from rfl] at hx108_1)
             (try rw [Addr.add_zero'] at hx108_1)
             (try rw [show ((0 : Int)).toNat = 0 from rfl] at hx108_2)
             (try rw [show 0 * 3 = 0 from rfl] at hx108_2)
             (try rw [Addr.add_zero'] at hx108_2)
             have HR108_1 := Aside0.mk hi108_1
             have HC108_1 := Aside0.mk hl108_1
             clear hi108_1 hl108_1
             have HR108_2 := Aside0.mk hi108_2
             have HC108_2 := Aside0.mk hl108_2
             clear hi108_2 hl108_2
             replace p108 := eq_true p108
             replace q108 := eq_true q108
             go_wp2
             go_roundg kj4
             case measure => have := HK1.out; have := HJ4.out; omega
             case rel => exact ⟨(y102), ((rd_T27 x102002_1 0).f0), ((rd_T27 x102002_1 0).f1), ((rd_T27 x102002_1 0).f2), (.slice A108_1 ((rd_T27 x102002_1 0).f1).length c108_1), (.slice A108_2 ((rd_T27 x102002_1 0).f2).length c108_2), H', ⟨by have := HK1.out; have := HJ4.out; omega⟩, ⟨by (with_reducible repeat (first | apply Kd.R_alloc | apply Kd.R_drewN | apply Kd.R_drew)); exact Kd.R_mono (Kd.R_far (p := ⟨gb101, 2, none⟩) (Kd.R_far (p := ⟨gb101, 1, none⟩) (Kd.R_far (p := ⟨gb101, 0, none⟩) (Kd.R_types HO_4.out BK101.out (by decide)) (fun _ hk => hk.2) (.string ((rd_T27 x102002_1 0).f0))) (fun _ hk => hk.2) (.slice A108_1 ((rd_T27 x102002_1 0).f1).length c108_1)) (fun _ hk => hk.2) (.slice A108_2 ((rd_T27 x102002_1 0).f2).length c108_2)) (fun _ hk => hk.1)⟩, ⟨by (with_reducible repeat (first | apply Kd.V_alloc | apply Kd.V_drewN | apply Kd.V_drew)); exact Kd.V_mono (Kd.V_far (p := ⟨gb101, 2, none⟩) (Kd.V_far (p := ⟨gb101, 1, none⟩) (Kd.V_far (p := ⟨gb101, 0, none⟩) (Kd.V_mono HL108_1.out (fun k_ hk => (⟨hk, hk.2.2⟩ : _ ∧ k_ ≠ gb101))) (fun _ hk => hk.2) (.string ((rd_T27 x102002_1 0).f0))) (fun _ hk => hk.2) (.slice A108_1 ((rd_T27 x102002_1 0).f1).length c108_1)) (fun _ hk => hk.2) (.slice A108_2 ((rd_T27 x102002_1 0).f2).length c108_2)) (fun _ hk => ⟨hk.1.1, ⟨hk.1.2.1, hk.1.2.2⟩⟩)⟩, ⟨by (with_reducible repeat (first | apply Kd.V_alloc | apply Kd.V_drewN | apply Kd.V_drew)); exact Kd.V_mono (Kd.V_far (p := ⟨gb101, 2, none⟩) (Kd.V_far (p := ⟨gb101, 1, none⟩) (Kd.V_far (p := ⟨gb101, 0, none⟩) (Kd.V_mono HL108_2.out (fun k_ hk => (⟨hk, hk.2.2⟩ : _ ∧ k_ ≠ gb101))) (fun _ hk => hk.2) (.string ((rd_T27 x102002_1 0).f0))) (fun _ hk => hk.2) (.slice A108_1 ((rd_T27 x102002_1 0).f1).length c108_1)) (fun _ hk => hk.2) (.slice A108_2 ((rd_T27 x102002_1 0).f2).length c108_2)) (fun _ hk => ⟨hk.1.1, ⟨hk.1.2.1, hk.1.2.2⟩⟩)⟩, ⟨by (with_reducible repeat (first | refine blk_drewN ?_ _ | refine blk_drew ?_ | refine blk_alloc ?_ _)); refine blk_put (cs := #[.string ((rd_T27 x102002_1 0).f0), .slice A108_1 ((rd_T27 x102002_1 0).f1).length c108_1, .slice (some ad108) x102002_1.length co7]) ?_ 2 _ rfl; (with_reducible repeat (first | refine blk_drewN ?_ _ | refine blk_drew ?_ | refine blk_alloc ?_ _)); refine blk_put (cs := #[.string ((rd_T27 x102002_1 0).f0), u102001, .slice (some ad108) x102002_1.length co7]) ?_ 1 _ rfl; (with_reducible repeat (first | refine blk_drewN ?_ _ | refine blk_drew ?_ | refine blk_alloc ?_ _)); refine blk_put (cs := #[.string x102000_1, u102001, .slice (some ad108) x102002_1.length co7]) ?_ 0 _ rfl; (with_reducible repeat (first | refine blk_drewN ?_ _ | refine blk_drew ?_ | refine blk_alloc ?_ _)); exact BK101.out⟩, ⟨be1_ HB GE101⟩⟩
            ·rw [if_neg c24] at H
             exact absurd H (by simp)
           ·rw [if_neg c23] at H
            have c23b0 : (x102000_1.toList == ([80, 108, 101, 97, 115, 101] : List UInt8)) = false := beq_eq_false_iff_ne.mpr c23
            have c23b1 : (x102000_1.toList != ([80, 108, 101, 97, 115, 101] : List UInt8)) = true := bne_iff_ne.mpr c23
            by_cases c26 : x102000_1.toList = ([65, 108, 115, 111] : List UInt8)
            ·rw [if_pos c26] at H
             have c26b0 : (x102000_1.toList == ([65, 108, 115, 111] : List UInt8)) = true := beq_iff_eq.mpr c26
             have c26b1 : (x102000_1.toList != ([65, 108, 115, 111] : List UInt8)) = false := bne_eq_false_iff_eq.mpr c26
             clear c26
             by_cases c27 : 0 < (x102002_1.length : Int)
             ·rw [if_pos c27] at H
              have c27b0 : decide (0 < (x102002_1.length : Int)) = true := decide_eq_true c27
              have c27b1 : decide (0 < x102002_1.length) = true := decide_eq_true (by omega)
              clear c27
              have H' := Aside0.mk H
              clear H
              have hcz28_0 : wc.cell? ⟨gb101, 0, none⟩ = some (.string x102000_1) := (blk_cell BK101.out 0).trans rfl
              have hcz28_1 : wc.cell? ⟨gb101, 1, none⟩ = some (u102001) := (blk_cell BK101.out 1).trans rfl
              have hcz28_2 : wc.cell? ⟨gb101, 2, none⟩ = some (.slice Ao7 x102002_1.length co7) := (blk_cell BK101.out 2).trans rfl
              have hfz28_0 := blk_frozen BK101.out 0
              have hfz28_1 := blk_frozen BK101.out 1
              have hfz28_2 := blk_frozen BK101.out 2
              have p109 : 0 ≤ (0 : Int) := (by omega)
              have q109 : 0 < (x102002_1.length : Int) := of_decide_eq_true (by first | (with_reducible assumption) | assumption)
              obtain ⟨ad109, A109_1, c109_1, A109_2, c109_2, e109, hx109_0, hx109_1, hx109_2, hl109_1, hi109_1, hl109_2, hi109_2⟩ := at_T27 (Kd.V_reads' HO_102002.out).2.2 0 p109 q109
              cases e109
              obtain ⟨ce109, hce109, hMe109, hcc109⟩ := Kd.V_get HO_102002.out z27 0 p109 (by first | exact q109 | exact of_decide_eq_true (by first | (with_reducible assumption) | assumption) | (have e_ := (Kd.V_reads' HO_102002.out).1; omega))
              obtain ⟨ua109_1, uc109_1, ua109_2, uc109_2, rfl, ul109_1, ge109_1, ul109_2, ge109_2⟩ := k27_openF hMe109
              have hv109_1 := hcc109 1 _ rfl
              rw [add_field _ _ 1 (by omega)] at hv109_1
              replace hv109_1 := Option.some.inj (hv109_1.symm.trans hx109_1)
              injection hv109_1 with hva_ hvn_ hvc_
              rw [hva_] at ge109_1
              rw [hvc_] at ul109_1
              have HL109_1 := Aside0.mk (show Kd.V (Kd.int .i64) 3 _ w.heap.size _ _ ((rd_T27 x102002_1 0).f1) from Kd.V_mk ul109_1 ge109_1)
              clear hva_ hvn_ hvc_ ge109_1 ul109_1
              have hv109_2 := hcc109 2 _ rfl
              rw [add_field _ _ 2 (by omega)] at hv109_2
              replace hv109_2 := Option.some.inj (hv109_2.symm.trans hx109_2)
              injection hv109_2 with hva_ hvn_ hvc_
              rw [hva_] at ge109_2
              rw [hvc_] at ul109_2
              have HL109_2 := Aside0.mk (show Kd.V k27 27 _ w.heap.size _ _ ((rd_T27 x102002_1 0).f2) from Kd.V_mk ul109_2 ge109_2)
              clear hva_ hvn_ hvc_ ge109_2 ul109_2
              clear hcc109 hce109
              have qi109 : (0 < x102002_1.length) = True := eq_true (by omega)
              (try rw [show ((0 : Int)).toNat = 0 from rfl] at hx109_0)
              (try rw [show 0 * 3 = 0 from rfl] at hx109_0)
              (try rw [Addr.add_zero'] at hx109_0)
              (try rw [show ((0 : Int)).toNat = 0 from rfl] at hx109_1)
              (try rw [show 0 * 3 = 0 from rfl] at hx109_1)
              (try rw [Addr.add_zero'] at hx109_1)
              (try rw [show ((0 : Int)).toNat = 0 from rfl] at hx109_2)
              (try rw [show 0 * 3 = 0 from rfl] at hx109_2)
              (try rw [Addr.add_zero'] at hx109_2)
              have HR109_1 := Aside0.mk hi109_1
              have HC109_1 := Aside0.mk hl109_1
              clear hi109_1 hl109_1
              have HR109_2 := Aside0.mk hi109_2
              have HC109_2 := Aside0.mk hl109_2
              clear hi109_2 hl109_2
              replace p109 := eq_true p109
              replace q109 := eq_true q109
              go_wp2
              go_roundg kj4
              case measure => have := HK1.out; have := HJ4.out; omega
              case rel => exact ⟨(y102), ((rd_T27 x102002_1 0).f0), ((rd_T27 x102002_1 0).f1), ((rd_T27 x102002_1 0).f2), (.slice A109_1 ((rd_T27 x102002_1 0).f1).length c109_1), (.slice A109_2 ((rd_T27 x102002_1 0).f2).length c109_2), H', ⟨by have := HK1.out; have := HJ4.out; omega⟩, ⟨by (with_reducible repeat (first | apply Kd.R_alloc | apply Kd.R_drewN | apply Kd.R_drew)); exact Kd.R_mono (Kd.R_far (p := ⟨gb101, 2, none⟩) (Kd.R_far (p := ⟨gb101, 1, none⟩) (Kd.R_far (p := ⟨gb101, 0, none⟩) (Kd.R_types HO_4.out BK101.out (by decide)) (fun _ hk => hk.2) (.string ((rd_T27 x102002_1 0).f0))) (fun _ hk => hk.2) (.slice A109_1 ((rd_T27 x102002_1 0).f1).length c109_1)) (fun _ hk => hk.2) (.slice A109_2 ((rd_T27 x102002_1 0).f2).length c109_2)) (fun _ hk => hk.1)⟩, ⟨by (with_reducible repeat (first | apply Kd.V_alloc | apply Kd.V_drewN | apply Kd.V_drew)); exact Kd.V_mono (Kd.V_far (p := ⟨gb101, 2, none⟩) (Kd.V_far (p := ⟨gb101, 1, none⟩) (Kd.V_far (p := ⟨gb101, 0, none⟩) (Kd.V_mono HL109_1.out (fun k_ hk => (⟨hk, hk.2.2⟩ : _ ∧ k_ ≠ gb101))) (fun _ hk => hk.2) (.string ((rd_T27 x102002_1 0).f0))) (fun _ hk => hk.2) (.slice A109_1 ((rd_T27 x102002_1 0).f1).length c109_1)) (fun _ hk => hk.2) (.slice A109_2 ((rd_T27 x102002_1 0).f2).length c109_2)) (fun _ hk => ⟨hk.1.1, ⟨hk.1.2.1, hk.1.2.2⟩⟩)⟩, ⟨by (with_reducible repeat (first | apply Kd.V_alloc | apply Kd.V_drewN | apply Kd.V_drew)); exact Kd.V_mono (Kd.V_far (p := ⟨gb101, 2, none⟩) (Kd.V_far (p := ⟨gb101, 1, none⟩) (Kd.V_far (p := ⟨gb101, 0, none⟩) (Kd.V_mono HL109_2.out (fun k_ hk => (⟨hk, hk.2.2⟩ : _ ∧ k_ ≠ gb101))) (fun _ hk => hk.2) (.string ((rd_T27 x102002_1 0).f0))) (fun _ hk => hk.2) (.slice A109_1 ((rd_T27 x102002_1 0).f1).length c109_1)) (fun _ hk => hk.2) (.slice A109_2 ((rd_T27 x102002_1 0).f2).length c109_2)) (fun _ hk => ⟨hk.1.1, ⟨hk.1.2.1, hk.1.2.2⟩⟩)⟩, ⟨by (with_reducible repeat (first | refine blk_drewN ?_ _ | refine blk_drew ?_ | refine blk_alloc ?_ _)); refine blk_put (cs := #[.string ((rd_T27 x102002_1 0).f0), .slice A109_1 ((rd_T27 x102002_1 0).f1).length c109_1, .slice (some ad109) x102002_1.length co7]) ?_ 2 _ rfl; (with_reducible repeat (first | refine blk_drewN ?_ _ | refine blk_drew ?_ | refine blk_alloc ?_ _)); refine blk_put (cs := #[.string ((rd_T27 x102002_1 0).f0), u102001, .slice (some ad109) x102002_1.length co7]) ?_ 1 _ rfl; (with_reducible repeat (first | refine blk_drewN ?_ _ | refine blk_drew ?_ | refine blk_alloc ?_ _)); refine blk_put (cs := #[.string x102000_1, u102001, .slice (some ad109) x102002_1.length co7]) ?_ 0 _ rfl; (with_reducible repeat (first | refine blk_drewN ?_ _ | refine blk_drew ?_ | refine blk_alloc ?_ _)); exact BK101.out⟩, ⟨be1_ HB GE101⟩⟩
             ·rw [if_neg c27] at H
              exact absurd H (by simp)
            ·rw [if_neg c26] at H
             have c26b0 : (x102000_1.toList == ([65, 108, 115, 111] : List UInt8)) = false := beq_eq_false_iff_ne.mpr c26
             have c26b1 : (x102000_1.toList != ([65, 108, 115, 111] : List UInt8)) = true := bne_iff_ne.mpr c26
             simp only [Option.some.injEq, Prod.mk.injEq] at H
             obtain ⟨rfl, rfl⟩ := H
             go_wp2
             go_ret2
             exact ⟨_, er_, by first | exact Kd.R_nil _ _ _ _ _ | exact Kd.N_nil _ _ _ _ _ | exact Kd.V_nil _ _ _ _ _ | exact Kd.Q_nil _ _ _ _ _ | exact Kd.S_nil _ _ _ _ _, be1_ HB GE101⟩
    ·rw [if_neg c4] at H
     exact absurd H (by simp)
   ·rw [if_neg c3] at H
    have c3b0 : decide (0 < (x102002_1.length : Int)) = false := decide_eq_false c3
    have c3b1 : decide (0 < x102002_1.length) = false := decide_eq_false (by omega)
    clear c3
    simp only [Option.some.injEq, Prod.mk.injEq] at H
    obtain ⟨rfl, rfl⟩ := H
    have hcz29_0 : wr.cell? ⟨gb101, 0, none⟩ = some (.string x102000_1) := (blk_cell BK101.out 0).trans rfl
    have hcz29_1 : wr.cell? ⟨gb101, 1, none⟩ = some (u102001) := (blk_cell BK101.out 1).trans rfl
    have hcz29_2 : wr.cell? ⟨gb101, 2, none⟩ = some (u102002) := (blk_cell BK101.out 2).trans rfl
    have hfz29_0 := blk_frozen BK101.out 0
    have hfz29_1 := blk_frozen BK101.out 1
    have hfz29_2 := blk_frozen BK101.out 2
    obtain ⟨Ao30, co30, eo30⟩ := Kd.V_slice HO_102002.out
    subst eo30
    go_wp2
    go_ret2
    exact ⟨_, er_, by first | exact Kd.R_nil _ _ _ _ _ | exact Kd.N_nil _ _ _ _ _ | exact Kd.V_nil _ _ _ _ _ | exact Kd.Q_nil _ _ _ _ _ | exact Kd.S_nil _ _ _ _ _, be1_ HB GE101⟩

end Go.Proofs.Ytfampmajmbediaa.P
