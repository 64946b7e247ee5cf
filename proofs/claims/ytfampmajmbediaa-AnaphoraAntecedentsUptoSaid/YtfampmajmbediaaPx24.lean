-- Written by the session's own program wip/tools/xprint.py out of the translation, with the kit's print.py on a scratch copy; functions given by hand stand among them.
import Derived.Test.YtfampmajmbediaaPx0
namespace Go.Proofs.Ytfampmajmbediaa.P
open Go.RowKit Go.Proofs.YtfampmajmbediaaW.PrintWords Go.Proofs.YtfampmajmbediaaW.PrintLast Go.Proofs.YtfampmajmbediaaW.PrintMore
attribute [local go_sem] max2_int min2_int max_two min_two max_three min_three max_four min_four   -- for this text's walks alone
set_option linter.unusedVariables false
set_option linter.unusedSimpArgs false

/-! ### pentaglotref31_At: function 55 -/
def pentaglotref31_At.l0 : Nat → List Int → Int → ByteArray → List Int → List (S27) → Option (ByteArray × List Int × (List (S27)) × Bool)
 | 0, _, _, _, _, _ => none
 | k + 1, x1, x6, x332000, x332001, x332002 => if x6 < (x1.length : Int) then (if 0 ≤ x6 then (if (rd x1 x6) < 0 then (some ((⟨#[]⟩ : ByteArray), ([] : List Int), ([] : List (S27)), false)) else (if (rd x1 x6) ≥ (x332002.length : Int) then (some ((⟨#[]⟩ : ByteArray), ([] : List Int), ([] : List (S27)), false)) else (if 0 ≤ (rd x1 x6) then (if (rd x1 x6) < (x332002.length : Int) then (pentaglotref31_At.l0 k x1 (wrap64 (x6 + 1)) ((rd_T27 x332002 (rd x1 x6)).f0) ((rd_T27 x332002 (rd x1 x6)).f1) ((rd_T27 x332002 (rd x1 x6)).f2)) else (none)) else (none)))) else (none)) else (some (x332000, x332001, x332002, true))
def pentaglotref31_At.f (k : Nat) (a0_0 : ByteArray) (l0_1 : List Int) (l0_2 : List (S27)) (l1 : List Int) : Option (ByteArray × List Int × (List (S27)) × Bool) := pentaglotref31_At.l0 k l1 0 a0_0 l0_1 l0_2
theorem pentaglotref31_At.mono_l : ∀ k, (∀ y0 y1 y2 y3 y4, LeO (pentaglotref31_At.l0 k y0 y1 y2 y3 y4) (pentaglotref31_At.l0 (k + 1) y0 y1 y2 y3 y4))
 | 0 => fun _ _ _ _ _ r h => by simp [pentaglotref31_At.l0] at h
 | k + 1 => by
  have ih0 := pentaglotref31_At.mono_l k
  ·intro y0 y1 y2 y3 y4
   unfold pentaglotref31_At.l0
   repeat' first
   | (with_reducible exact ih0 _ _ _ _ _)
   | (with_reducible exact LeO.refl _)
   | (with_reducible exact LeO.none _)
   | (with_reducible refine LeO.ite ?_ ?_)
   | (with_reducible refine LeO.bind ?_ (fun _ => ?_))
   | exact ih0 _ _ _ _ _
   | exact LeO.none _
   | refine LeO.ite ?_ ?_
   | refine LeO.bind ?_ (fun _ => ?_)
theorem pentaglotref31_At.mono : ∀ a0 a1 a2 a3 k, LeO (pentaglotref31_At.f k a0 a1 a2 a3) (pentaglotref31_At.f (k + 1) a0 a1 a2 a3) := by
 intro a0 a1 a2 a3 k
 have ih0 := pentaglotref31_At.mono_l k
 unfold pentaglotref31_At.f
 repeat' first
   | (with_reducible exact ih0 _ _ _ _ _)
   | (with_reducible exact LeO.refl _)
   | (with_reducible exact LeO.none _)
   | (with_reducible refine LeO.ite ?_ ?_)
   | (with_reducible refine LeO.bind ?_ (fun _ => ?_))
   | exact ih0 _ _ _ _ _
   | exact LeO.none _
   | refine LeO.ite ?_ ?_
   | refine LeO.bind ?_ (fun _ => ?_)
def pentaglotref31_At.T4 : Bool × List (List Nat × List Nat) := (true, [([], []), ([], []), ([0, 1], [0, 1]), ([2], [2]), ([3], [3]), ([4], [4]), ([5], [5]), ([5], [5]), ([6, 7, 5], [5, 6, 7]), ([8, 5], [5, 8]), ([5], [5]), ([10, 5], [5, 10]), ([11, 5], [5, 11]), ([9, 12, 5], [5, 9, 12]), ([5, 13], [5, 13])])
def pentaglotref31_At.B4 : List Nat := [0, 0, 3, 7, 15, 31, 63, 63, 255, 511, 63, 1087, 3135, 8191, 16383]
theorem pentaglotref31_At.tab4 : rtab .any (opsOf Try.f55 4) = pentaglotref31_At.T4 := by kernel_rfl
theorem pentaglotref31_At.bits4 : waitsOk pentaglotref31_At.T4.2 pentaglotref31_At.B4 = true := by kernel_rfl
def pentaglotref31_At.T6 : Bool × List (List Nat × List Nat) := (true, [([], []), ([0], [0]), ([], []), ([], []), ([2, 3], [2, 3]), ([4], [4]), ([1, 5], [1, 5]), ([6], [6]), ([7, 0, 1, 2, 3, 4, 5, 6, 7], [7])])
def pentaglotref31_At.B6 : List Nat := [0, 1, 0, 0, 12, 28, 63, 127, 255]
theorem pentaglotref31_At.tab6 : rtab .any (opsOf Try.f55 6) = pentaglotref31_At.T6 := by kernel_rfl
theorem pentaglotref31_At.bits6 : waitsOk pentaglotref31_At.T6.2 pentaglotref31_At.B6 = true := by kernel_rfl
set_option maxHeartbeats 8000000 in
set_option maxRecDepth 100000 in
theorem pentaglotref31_At.calls (k : Nat) (a0_0 : ByteArray) (P0_1_ : Nat → Prop) (A0_1 : Option Addr) (c0_1 : Nat) (l0_1 : List Int) (P0_2_ : Nat → Prop) (A0_2 : Option Addr) (c0_2 : Nat) (l0_2 : List (S27)) (A1 : Option Addr) (c1 : Nat) (l1 : List Int) (r1 : ByteArray) (r2 : List Int) (r3 : List (S27)) (r4 : Bool) (w : World) (hs0_1 : Kd.V (Kd.int .i64) 3 w w.heap.size (fun k_ => P0_1_ k_) (.slice A0_1 l0_1.length c0_1) l0_1) (hs0_2 : Kd.V k27 27 w w.heap.size (fun k_ => P0_2_ k_) (.slice A0_2 l0_2.length c0_2) l0_2) (hr1 : Kd.C (Kd.int .i64) w A1 l1.length l1) (hc1 : l1.length ≤ c1) (h : pentaglotref31_At.f k a0_0 l0_1 l0_2 l1 = some (r1, r2, r3, r4)) :
  Calls Try.prog 55 #[.agg #[.string a0_0, .slice A0_1 l0_1.length c0_1, .slice A0_2 l0_2.length c0_2], .slice A1 l1.length c1] w fun e w' => ∃ v1_ v2_ : Value, e = .returned (.tuple #[.agg #[.string r1, v1_, v2_], .bool r4]) ∧ Kd.V (Kd.int .i64) 3 w' w.heap.size (fun k_ => ((P0_1_ k_ ∨ P0_2_ k_) ∨ w.heap.size ≤ k_)) v1_ r2 ∧ Kd.V k27 27 w' w.heap.size (fun k_ => ((P0_1_ k_ ∨ P0_2_ k_) ∨ w.heap.size ≤ k_)) v2_ r3 ∧ Below w.heap.size w w' := by
 have hu27 := Try.underlying27
 have HO0_1 := Aside0.mk (show Kd.V (Kd.int .i64) 3 w w.heap.size (fun k_ => ((P0_1_ k_ ∨ P0_2_ k_) ∨ w.heap.size ≤ k_)) (.slice A0_1 l0_1.length c0_1) l0_1 from Kd.V_mono hs0_1 (fun k_ hk => .inl (.inl hk)))
 have HO0_2 := Aside0.mk (show Kd.V k27 27 w w.heap.size (fun k_ => ((P0_1_ k_ ∨ P0_2_ k_) ∨ w.heap.size ≤ k_)) (.slice A0_2 l0_2.length c0_2) l0_2 from Kd.V_mono hs0_2 (fun k_ hk => .inl (.inr hk)))
 have HR1 := Aside0.mk hr1
 have HC1 := Aside0.mk hc1
 clear hr1 hc1
 have HB := Aside0.mk (Below.refl w.heap.size w)
 have H : (pentaglotref31_At.l0 k l1 0 a0_0 l0_1 l0_2) = some (r1, r2, r3, r4) := h
 clear h
 have H' := Aside0.mk H
 clear H
 go_enter Try.func55, Try.ntmps55
 go_wp2_with (first | ((with_reducible refine gate_dst (N := 2) rfl ?_); (try (refine gate_guard (by rfl) ?_; dsimp only)); refine box_event ?hg (N := 2) ?hd (cs := #[.string a0_0, .slice A0_1 l0_1.length c0_1, .slice A0_2 l0_2.length c0_2]) (t := 27) ?hr ?_; (case hd => rfl); (case hg => rfl); (case hr => first | (go_simp; done) | (go_simp; rfl)); intro gb331 hg w3 hbox hb; have n0_ := Aside0.mk (Kd.V_below (Kd.V_elderB (vq_ HO0_1) gb331 (Nat.le_of_eq hg.symm)) hb); have n1_ := Aside0.mk (Kd.V_below (Kd.V_elderB (vq_ HO0_2) gb331 (Nat.le_of_eq hg.symm)) hb); have n2_ := Aside0.mk (below_step (be_ HB) hb); have n3_ := Aside0.mk (hbox); have n4_ := Aside0.mk ((by rw [hg]; exact (below_size (be_ HB)) : w.heap.size ≤ gb331)); have n5_ := Aside0.mk ((by rw [hg]; exact (below_size (be_ HB)) : w.heap.size ≤ gb331)); clear HO0_1; clear HO0_2; clear HB; have HO0_1 := n0_; have HO0_2 := n1_; have HB := n2_; have BK331 := n3_; have GW331 := n4_; have GE331 := n5_; clear n0_ n1_ n2_ n3_ n4_ n5_; clear hb hbox hg) | ((with_reducible refine gate_dst (N := 4) rfl ?_); (try (refine gate_guard (by rfl) ?_; dsimp only)); refine box_event ?hg (N := 4) ?hd (cs := #[.string (⟨#[]⟩ : ByteArray), .slice none 0 0, .slice none 0 0]) (t := 27) ?hr ?_; (case hd => rfl); (case hg => rfl); (case hr => first | (go_simp; done) | (go_simp; rfl)); intro gb332 hg w4 hbox hb; have n0_ := Aside0.mk (Kd.V_below (Kd.V_elderB (vq_ HO0_1) gb332 (Nat.le_of_eq hg.symm)) hb); have n1_ := Aside0.mk (Kd.V_below (Kd.V_elderB (vq_ HO0_2) gb332 (Nat.le_of_eq hg.symm)) hb); have n2_ := Aside0.mk (blk_below (g := gb331) (o := .cells #[.string a0_0, .slice A0_1 l0_1.length c0_1, .slice A0_2 l0_2.length c0_2] 27 (0, 0)) (bq_ BK331) hb); have n3_ := Aside0.mk (below_step (be1_ HB GE331) hb); have n4_ := Aside0.mk (hbox); have n5_ := Aside0.mk ((by rw [hg]; exact (below_size (be1_ HB GE331)) : w.heap.size ≤ gb332)); have n6_ := Aside0.mk ((by rw [hg]; exact (below_size (be1_ HB GE331)) : w.heap.size ≤ gb332)); have n7_ := Aside0.mk ((by rw [hg]; exact Nat.ne_of_lt (blk_lt (g := gb331) (o := .cells #[.string a0_0, .slice A0_1 l0_1.length c0_1, .slice A0_2 l0_2.length c0_2] 27 (0, 0)) (bq_ BK331)) : gb331 ≠ gb332)); have n8_ := Aside0.mk ((by rw [hg]; exact Nat.ne_of_gt (blk_lt (g := gb331) (o := .cells #[.string a0_0, .slice A0_1 l0_1.length c0_1, .slice A0_2 l0_2.length c0_2] 27 (0, 0)) (bq_ BK331)) : gb332 ≠ gb331)); clear HO0_1; clear HO0_2; clear BK331; clear HB; have HO0_1 := n0_; have HO0_2 := n1_; have BK331 := n2_; have HB := n3_; have BK332 := n4_; have GW332 := n5_; have GE332 := n6_; have NB331_332 := n7_; have NB332_331 := n8_; clear n0_ n1_ n2_ n3_ n4_ n5_ n6_ n7_ n8_; clear hb hbox hg))
 go_loopg [6] k (fun kq v6 w' => ∃ (x6_1 : Int) (x332000_1 : ByteArray) (x332001_1 : List Int) (x332002_1 : List (S27)) (x333000_1 : ByteArray) (u332001 : Value) (u332002 : Value), v6 = .int .i64 x6_1 ∧ Aside0 (pentaglotref31_At.l0 kq l1 x6_1 x332000_1 x332001_1 x332002_1 = some (r1, r2, r3, r4)) ∧ Aside0 (kq ≤ k) ∧ Aside0 (Kd.V (Kd.int .i64) 3 w' w.heap.size (fun k_ => ((P0_1_ k_ ∨ P0_2_ k_) ∨ w.heap.size ≤ k_) ∧ k_ ≠ gb331 ∧ k_ ≠ gb332) u332001 x332001_1) ∧ Aside0 (Kd.V k27 27 w' w.heap.size (fun k_ => ((P0_1_ k_ ∨ P0_2_ k_) ∨ w.heap.size ≤ k_) ∧ k_ ≠ gb331 ∧ k_ ≠ gb332) u332002 x332002_1) ∧ Aside0 (w'.heap[gb331]? = some (.cells #[.string x332000_1, u332001, u332002] 27 (0, 0))) ∧ Aside0 (w'.heap[gb332]? = some (.cells #[.string x333000_1, (.slice none 0 0), (.slice none 0 0)] 27 (0, 0))) ∧ Aside0 (Below w.heap.size w w'))
 case atStart => exact ⟨(0), (a0_0), (l0_1), (l0_2), ((⟨#[]⟩ : ByteArray)), (.slice A0_1 l0_1.length c0_1), (.slice A0_2 l0_2.length c0_2), fi_, H', ⟨Nat.le_refl _⟩, ⟨by (with_reducible repeat (first | apply Kd.V_alloc | apply Kd.V_drewN | apply Kd.V_drew)); exact Kd.V_mono HO0_1.out (fun _ hk => ⟨hk.1.1, ⟨hk.1.2, hk.2⟩⟩)⟩, ⟨by (with_reducible repeat (first | apply Kd.V_alloc | apply Kd.V_drewN | apply Kd.V_drew)); exact Kd.V_mono HO0_2.out (fun _ hk => ⟨hk.1.1, ⟨hk.1.2, hk.2⟩⟩)⟩, ⟨bq_ BK331⟩, ⟨bq_ BK332⟩, ⟨be2_ HB GE331 GE332⟩⟩
 case round =>
  clear H'
  try clear c1
  try clear p2
  obtain ⟨x6_1, x332000_1, x332001_1, x332002_1, x333000_1, u332001, u332002, rfl, HA, HK1, HO_332001, HO_332002, BK331, BK332, HB⟩ := hrel
  cases gk with
  | zero => exact absurd HA.out (by simp [pentaglotref31_At.l0])
  | succ k1 =>
   have H := HA.out
   clear HA
   simp only [pentaglotref31_At.l0] at H
   by_cases c5 : x6_1 < (l1.length : Int)
   ·rw [if_pos c5] at H
    have c5b0 : decide (x6_1 < (l1.length : Int)) = true := decide_eq_true c5
    clear c5
    by_cases c6 : 0 ≤ x6_1
    ·rw [if_pos c6] at H
     have c6b0 : decide (0 ≤ x6_1) = true := decide_eq_true c6
     clear c6
     by_cases c7 : (rd l1 x6_1) < 0
     ·rw [if_pos c7] at H
      have c7b0 : decide ((rd l1 x6_1) < 0) = true := decide_eq_true c7
      clear c7
      simp only [Option.some.injEq, Prod.mk.injEq] at H
      obtain ⟨rfl, rfl, rfl, rfl⟩ := H
      try go_wp2
      have n0_ := Aside0.mk (Kd.V_drew HO_332001.out)
      have n1_ := Aside0.mk (Kd.V_drew HO_332002.out)
      have n2_ := Aside0.mk (blk_drew BK331.out)
      have n3_ := Aside0.mk (blk_drew BK332.out)
      have n4_ := Aside0.mk (below_drew1 HB.out)
      clear HO_332001
      clear HO_332002
      clear BK331
      clear BK332
      clear HB
      have HO_332001 := n0_
      have HO_332002 := n1_
      have BK331 := n2_
      have BK332 := n3_
      have HB := n4_
      clear n0_ n1_ n2_ n3_ n4_
      have p333 : 0 ≤ (x6_1 : Int) := of_decide_eq_true (by first | (with_reducible assumption) | assumption)
      have q333 : x6_1 < (l1.length : Int) := of_decide_eq_true (by first | (with_reducible assumption) | assumption)
      obtain ⟨ad333, e333, hx333_0⟩ := Kd.at_int HR1.out x6_1 p333 q333
      have hw333_0 := hx333_0
      cases e333
      replace hx333_0 := (HB.out.cell (World.block_lt_of_cell? w _ hx333_0)).trans hx333_0
      replace p333 := eq_true p333
      replace q333 := eq_true q333
      refine start_ (n := 15) (S := fun w' => w'.cell? (ad333.add (x6_1).toNat) = some (.int .i64 (rd l1 x6_1))) (ds := []) #[false, false, false, false, false, false, false, false, false, false, false, false, false, false, false] (by kernel_rfl) rfl rfl (((HB.out.cell (World.block_lt_of_cell? w _ hw333_0)).trans hw333_0)) (fun hHeld => ?_); refine with_tabW pentaglotref31_At.tab4 pentaglotref31_At.bits4 (fun HT_ HW_ => ?_)
      generalize wr.drew = w8 at HO_332001 HO_332002 BK331 BK332 HB hx333_0 hHeld ⊢
      refine pu_ 0 (some 13) ?_
      refine pu_ 1 (some 14) ?_
      refine pu_ 2 (some 15) ?_
      refine take_ (i := 3) (N := some 16) (v := ?_) (a' := ?_) #[true, true, true, true, false, false, false, false, false, false, false, false, false, false, false] rfl rfl (take_ofW HT_.out HW_.out (by kernel_rfl)) (fun _ _ _ h => h) (Or.inl ⟨by rfl, ?_⟩) hHeld ?_ ?_
      rotate_left
      ·intro w' s0
       go_simp
       with_reducible rfl
      rotate_left
      ·simp only [Act.put, List.setIfInBounds_toArray, List.set_cons_zero, List.set_cons_succ, i64_w, i32_w]
       rfl
      refine pu_ 4 (some 17) ?_
      refine pu_ 5 (some 18) ?_
      refine pure_ (i := 6) (N := some 19) (v := undef) (a' := ?_) #[true, true, true, true, true, true, true, false, false, false, false, false, false, false, false] rfl rfl (any_of HT_.out (by kernel_rfl)) (fun _ _ _ h => h) (Or.inr ⟨by rfl, rfl⟩) ?_ ?_
      rotate_left
      ·simp only [Act.put, List.setIfInBounds_toArray, List.set_cons_zero, List.set_cons_succ, i64_w, i32_w]
       rfl
      refine pure_ (i := 7) (N := some 20) (v := undef) (a' := ?_) #[true, true, true, true, true, true, true, true, false, false, false, false, false, false, false] rfl rfl (any_of HT_.out (by kernel_rfl)) (fun _ _ _ h => h) (Or.inr ⟨by rfl, rfl⟩) ?_ ?_
      rotate_left
      ·simp only [Act.put, List.setIfInBounds_toArray, List.set_cons_zero, List.set_cons_succ, i64_w, i32_w]
       rfl
      refine pure_ (i := 8) (N := some 21) (v := undef) (a' := ?_) #[true, true, true, true, true, true, true, true, true, false, false, false, false, false, false] rfl rfl (any_of HT_.out (by kernel_rfl)) (fun _ _ _ h => h) (Or.inr ⟨by rfl, rfl⟩) ?_ ?_
      rotate_left
      ·simp only [Act.put, List.setIfInBounds_toArray, List.set_cons_zero, List.set_cons_succ, i64_w, i32_w]
       rfl
      refine pure_ (i := 9) (N := some 22) (v := undef) (a' := ?_) #[true, true, true, true, true, true, true, true, true, true, false, false, false, false, false] rfl rfl (any_of HT_.out (by kernel_rfl)) (fun _ _ _ h => h) (Or.inr ⟨by rfl, rfl⟩) ?_ ?_
      rotate_left
      ·simp only [Act.put, List.setIfInBounds_toArray, List.set_cons_zero, List.set_cons_succ, i64_w, i32_w]
       rfl
      refine pure_ (i := 10) (N := some 23) (v := undef) (a' := ?_) #[true, true, true, true, true, true, true, true, true, true, true, false, false, false, false] rfl rfl (any_of HT_.out (by kernel_rfl)) (fun _ _ _ h => h) (Or.inr ⟨by rfl, rfl⟩) ?_ ?_
      rotate_left
      ·simp only [Act.put, List.setIfInBounds_toArray, List.set_cons_zero, List.set_cons_succ, i64_w, i32_w]
       rfl
      refine pure_ (i := 11) (N := some 24) (v := undef) (a' := ?_) #[true, true, true, true, true, true, true, true, true, true, true, true, false, false, false] rfl rfl (any_of HT_.out (by kernel_rfl)) (fun _ _ _ h => h) (Or.inr ⟨by rfl, rfl⟩) ?_ ?_
      rotate_left
      ·simp only [Act.put, List.setIfInBounds_toArray, List.set_cons_zero, List.set_cons_succ, i64_w, i32_w]
       rfl
      refine pure_ (i := 12) (N := some 25) (v := undef) (a' := ?_) #[true, true, true, true, true, true, true, true, true, true, true, true, true, false, false] rfl rfl (any_of HT_.out (by kernel_rfl)) (fun _ _ _ h => h) (Or.inr ⟨by rfl, rfl⟩) ?_ ?_
      rotate_left
      ·simp only [Act.put, List.setIfInBounds_toArray, List.set_cons_zero, List.set_cons_succ, i64_w, i32_w]
       rfl
      refine pure_ (i := 13) (N := some 26) (v := undef) (a' := ?_) #[true, true, true, true, true, true, true, true, true, true, true, true, true, true, false] rfl rfl (any_of HT_.out (by kernel_rfl)) (fun _ _ _ h => h) (Or.inr ⟨by rfl, rfl⟩) ?_ ?_
      rotate_left
      ·simp only [Act.put, List.setIfInBounds_toArray, List.set_cons_zero, List.set_cons_succ, i64_w, i32_w]
       rfl
      refine pu_ 14 (some 27) ?_
      refine done_ (done_of HT_.out (by kernel_rfl)) ?_
      have hnb9 := NB332_331.out
      have hnc9 := NB331_332.out
      have hcz10_0 : w8.cell? ⟨gb332, 0, none⟩ = some (.string x333000_1) := (blk_cell BK332.out 0).trans rfl
      have hcz10_1 : w8.cell? ⟨gb332, 1, none⟩ = some (.slice none 0 0) := (blk_cell BK332.out 1).trans rfl
      have hcz10_2 : w8.cell? ⟨gb332, 2, none⟩ = some (.slice none 0 0) := (blk_cell BK332.out 2).trans rfl
      have hfz10_0 := blk_frozen BK332.out 0
      have hfz10_1 := blk_frozen BK332.out 1
      have hfz10_2 := blk_frozen BK332.out 2
      try go_wp2
      refine bodyPost_ret (results_ct rfl _ _ gb332 27 #[.string (⟨#[]⟩ : ByteArray), .slice none 0 0, .slice none 0 0] (0, 0) _ rfl (by (with_reducible repeat (first | refine blk_drewN ?_ _ | refine blk_drew ?_ | refine blk_alloc ?_ _)); refine blk_put (cs := #[.string (⟨#[]⟩ : ByteArray), .slice none 0 0, .slice none 0 0]) ?_ 2 _ rfl; (with_reducible repeat (first | refine blk_drewN ?_ _ | refine blk_drew ?_ | refine blk_alloc ?_ _)); refine blk_put (cs := #[.string (⟨#[]⟩ : ByteArray), .slice none 0 0, .slice none 0 0]) ?_ 1 _ rfl; (with_reducible repeat (first | refine blk_drewN ?_ _ | refine blk_drew ?_ | refine blk_alloc ?_ _)); refine blk_put (cs := #[.string x333000_1, .slice none 0 0, .slice none 0 0]) ?_ 0 _ rfl; (with_reducible repeat (first | refine blk_drewN ?_ _ | refine blk_drew ?_ | refine blk_alloc ?_ _)); exact BK332.out) Try.underlying27 rfl (by kernel_rfl)) rfl ?_
      exact ⟨_, _, er_, Kd.V_nil _ _ _ _ _, Kd.V_nil _ _ _ _ _, be2_ HB GE331 GE332⟩
     ·rw [if_neg c7] at H
      have c7b0 : decide ((rd l1 x6_1) < 0) = false := decide_eq_false c7
      clear c7
      by_cases c11 : (rd l1 x6_1) ≥ (x332002_1.length : Int)
      ·rw [if_pos c11] at H
       have c11b0 : decide ((x332002_1.length : Int) ≤ (rd l1 x6_1)) = true := decide_eq_true c11
       clear c11
       simp only [Option.some.injEq, Prod.mk.injEq] at H
       obtain ⟨rfl, rfl, rfl, rfl⟩ := H
       try go_wp2
       have n0_ := Aside0.mk (Kd.V_drew HO_332001.out)
       have n1_ := Aside0.mk (Kd.V_drew HO_332002.out)
       have n2_ := Aside0.mk (blk_drew BK331.out)
       have n3_ := Aside0.mk (blk_drew BK332.out)
       have n4_ := Aside0.mk (below_drew1 HB.out)
       clear HO_332001
       clear HO_332002
       clear BK331
       clear BK332
       clear HB
       have HO_332001 := n0_
       have HO_332002 := n1_
       have BK331 := n2_
       have BK332 := n3_
       have HB := n4_
       clear n0_ n1_ n2_ n3_ n4_
       have p333 : 0 ≤ (x6_1 : Int) := of_decide_eq_true (by first | (with_reducible assumption) | assumption)
       have q333 : x6_1 < (l1.length : Int) := of_decide_eq_true (by first | (with_reducible assumption) | assumption)
       obtain ⟨ad333, e333, hx333_0⟩ := Kd.at_int HR1.out x6_1 p333 q333
       have hw333_0 := hx333_0
       cases e333
       replace hx333_0 := (HB.out.cell (World.block_lt_of_cell? w _ hx333_0)).trans hx333_0
       replace p333 := eq_true p333
       replace q333 := eq_true q333
       have p334 : 0 ≤ (x6_1 : Int) := of_decide_eq_true (by first | (with_reducible assumption) | assumption)
       have q334 : x6_1 < (l1.length : Int) := of_decide_eq_true (by first | (with_reducible assumption) | assumption)
       obtain ⟨ad334, e334, hx334_0⟩ := Kd.at_int HR1.out x6_1 p334 q334
       have hw334_0 := hx334_0
       obtain rfl : ad333 = ad334 := (by injection e334)
       replace hx334_0 := (HB.out.cell (World.block_lt_of_cell? w _ hx334_0)).trans hx334_0
       replace p334 := eq_true p334
       replace q334 := eq_true q334
       obtain ⟨Ao13, co13, eo13⟩ := Kd.V_slice HO_332002.out
       (first | subst eo13 | (injection eo13 with f1_ f2_ f3_; have f4_ := f1_.symm; have f5_ := f3_.symm; clear f1_ f2_ f3_; subst f4_; subst f5_))
       refine start_ (n := 15) (S := fun w' => w'.cell? ⟨gb331, 0, none⟩ = some (.string x332000_1) ∧ w'.cell? ⟨gb331, 1, none⟩ = some (u332001) ∧ w'.cell? ⟨gb331, 2, none⟩ = some (.slice Ao13 x332002_1.length co13) ∧ w'.cell? (ad333.add (x6_1).toNat) = some (.int .i64 (rd l1 x6_1)) ∧ w'.cell? (ad333.add (x6_1).toNat) = some (.int .i64 (rd l1 x6_1))) (ds := []) #[false, false, false, false, false, false, false, false, false, false, false, false, false, false, false] (by kernel_rfl) rfl rfl ⟨(blk_cell BK331.out 0).trans rfl, (blk_cell BK331.out 1).trans rfl, (blk_cell BK331.out 2).trans rfl, ((HB.out.cell (World.block_lt_of_cell? w _ hw333_0)).trans hw333_0), ((HB.out.cell (World.block_lt_of_cell? w _ hw334_0)).trans hw334_0)⟩ (fun hHeld => ?_); refine with_tabW pentaglotref31_At.tab4 pentaglotref31_At.bits4 (fun HT_ HW_ => ?_)
       generalize wr.drew = w12 at HO_332001 HO_332002 BK331 BK332 HB hx333_0 hx334_0 hHeld ⊢
       refine pu_ 0 (some 13) ?_
       refine pu_ 1 (some 14) ?_
       refine pu_ 2 (some 15) ?_
       refine tk_ 3 (some 16) hHeld ?_
       refine pu_ 4 (some 17) ?_
       refine pu_ 5 (some 18) ?_
       refine pu_ 6 (some 19) ?_
       refine pu_ 7 (some 20) ?_
       refine pu_ 8 (some 21) ?_
       refine pu_ 10 (some 23) ?_
       refine tk_ 9 (some 22) hHeld ?_
       refine tk_ 11 (some 24) hHeld ?_
       refine pu_ 12 (some 25) ?_
       refine pu_ 13 (some 26) ?_
       refine pu_ 14 (some 27) ?_
       refine done_ (done_of HT_.out (by kernel_rfl)) ?_
       have hnb14 := NB332_331.out
       have hnc14 := NB331_332.out
       have hcz15_0 : w12.cell? ⟨gb332, 0, none⟩ = some (.string x333000_1) := (blk_cell BK332.out 0).trans rfl
       have hcz15_1 : w12.cell? ⟨gb332, 1, none⟩ = some (.slice none 0 0) := (blk_cell BK332.out 1).trans rfl
       have hcz15_2 : w12.cell? ⟨gb332, 2, none⟩ = some (.slice none 0 0) := (blk_cell BK332.out 2).trans rfl
       have hfz15_0 := blk_frozen BK332.out 0
       have hfz15_1 := blk_frozen BK332.out 1
       have hfz15_2 := blk_frozen BK332.out 2
       try go_wp2
       refine bodyPost_ret (results_ct rfl _ _ gb332 27 #[.string (⟨#[]⟩ : ByteArray), .slice none 0 0, .slice none 0 0] (0, 0) _ rfl (by (with_reducible repeat (first | refine blk_drewN ?_ _ | refine blk_drew ?_ | refine blk_alloc ?_ _)); refine blk_put (cs := #[.string (⟨#[]⟩ : ByteArray), .slice none 0 0, .slice none 0 0]) ?_ 2 _ rfl; (with_reducible repeat (first | refine blk_drewN ?_ _ | refine blk_drew ?_ | refine blk_alloc ?_ _)); refine blk_put (cs := #[.string (⟨#[]⟩ : ByteArray), .slice none 0 0, .slice none 0 0]) ?_ 1 _ rfl; (with_reducible repeat (first | refine blk_drewN ?_ _ | refine blk_drew ?_ | refine blk_alloc ?_ _)); refine blk_put (cs := #[.string x333000_1, .slice none 0 0, .slice none 0 0]) ?_ 0 _ rfl; (with_reducible repeat (first | refine blk_drewN ?_ _ | refine blk_drew ?_ | refine blk_alloc ?_ _)); exact BK332.out) Try.underlying27 rfl (by kernel_rfl)) rfl ?_
       exact ⟨_, _, er_, Kd.V_nil _ _ _ _ _, Kd.V_nil _ _ _ _ _, be2_ HB GE331 GE332⟩
      ·rw [if_neg c11] at H
       have c11b0 : decide ((x332002_1.length : Int) ≤ (rd l1 x6_1)) = false := decide_eq_false c11
       clear c11
       by_cases c16 : 0 ≤ (rd l1 x6_1)
       ·rw [if_pos c16] at H
        have c16b0 : decide (0 ≤ (rd l1 x6_1)) = true := decide_eq_true c16
        clear c16
        by_cases c17 : (rd l1 x6_1) < (x332002_1.length : Int)
        ·rw [if_pos c17] at H
         have c17b0 : decide ((rd l1 x6_1) < (x332002_1.length : Int)) = true := decide_eq_true c17
         clear c17
         have H' := Aside0.mk H
         clear H
         try go_wp2
         have n0_ := Aside0.mk (Kd.V_drew HO_332001.out)
         have n1_ := Aside0.mk (Kd.V_drew HO_332002.out)
         have n2_ := Aside0.mk (blk_drew BK331.out)
         have n3_ := Aside0.mk (blk_drew BK332.out)
         have n4_ := Aside0.mk (below_drew1 HB.out)
         clear HO_332001
         clear HO_332002
         clear BK331
         clear BK332
         clear HB
         have HO_332001 := n0_
         have HO_332002 := n1_
         have BK331 := n2_
         have BK332 := n3_
         have HB := n4_
         clear n0_ n1_ n2_ n3_ n4_
         have p333 : 0 ≤ (x6_1 : Int) := of_decide_eq_true (by first | (with_reducible assumption) | assumption)
         have q333 : x6_1 < (l1.length : Int) := of_decide_eq_true (by first | (with_reducible assumption) | assumption)
         obtain ⟨ad333, e333, hx333_0⟩ := Kd.at_int HR1.out x6_1 p333 q333
         have hw333_0 := hx333_0
         cases e333
         replace hx333_0 := (HB.out.cell (World.block_lt_of_cell? w _ hx333_0)).trans hx333_0
         replace p333 := eq_true p333
         replace q333 := eq_true q333
         have p334 : 0 ≤ (x6_1 : Int) := of_decide_eq_true (by first | (with_reducible assumption) | assumption)
         have q334 : x6_1 < (l1.length : Int) := of_decide_eq_true (by first | (with_reducible assumption) | assumption)
         obtain ⟨ad334, e334, hx334_0⟩ := Kd.at_int HR1.out x6_1 p334 q334
         have hw334_0 := hx334_0
         obtain rfl : ad333 = ad334 := (by injection e334)
         replace hx334_0 := (HB.out.cell (World.block_lt_of_cell? w _ hx334_0)).trans hx334_0
         replace p334 := eq_true p334
         replace q334 := eq_true q334
         obtain ⟨Ao19, co19, eo19⟩ := Kd.V_slice HO_332002.out
         (first | subst eo19 | (injection eo19 with f1_ f2_ f3_; have f4_ := f1_.symm; have f5_ := f3_.symm; clear f1_ f2_ f3_; subst f4_; subst f5_))
         refine start_ (n := 15) (S := fun w' => w'.cell? ⟨gb331, 0, none⟩ = some (.string x332000_1) ∧ w'.cell? ⟨gb331, 1, none⟩ = some (u332001) ∧ w'.cell? ⟨gb331, 2, none⟩ = some (.slice Ao19 x332002_1.length co19) ∧ w'.cell? (ad333.add (x6_1).toNat) = some (.int .i64 (rd l1 x6_1)) ∧ w'.cell? (ad333.add (x6_1).toNat) = some (.int .i64 (rd l1 x6_1))) (ds := []) #[false, false, false, false, false, false, false, false, false, false, false, false, false, false, false] (by kernel_rfl) rfl rfl ⟨(blk_cell BK331.out 0).trans rfl, (blk_cell BK331.out 1).trans rfl, (blk_cell BK331.out 2).trans rfl, ((HB.out.cell (World.block_lt_of_cell? w _ hw333_0)).trans hw333_0), ((HB.out.cell (World.block_lt_of_cell? w _ hw334_0)).trans hw334_0)⟩ (fun hHeld => ?_); refine with_tabW pentaglotref31_At.tab4 pentaglotref31_At.bits4 (fun HT_ HW_ => ?_)
         generalize wr.drew = w18 at HO_332001 HO_332002 BK331 BK332 HB hx333_0 hx334_0 hHeld ⊢
         refine pu_ 0 (some 13) ?_
         refine pu_ 1 (some 14) ?_
         refine pu_ 2 (some 15) ?_
         refine tk_ 3 (some 16) hHeld ?_
         refine pu_ 4 (some 17) ?_
         refine pu_ 5 (some 18) ?_
         refine pu_ 6 (some 19) ?_
         refine pu_ 7 (some 20) ?_
         refine pu_ 8 (some 21) ?_
         refine pu_ 10 (some 23) ?_
         refine tk_ 9 (some 22) hHeld ?_
         refine tk_ 11 (some 24) hHeld ?_
         refine pu_ 12 (some 25) ?_
         refine pu_ 13 (some 26) ?_
         refine pu_ 14 (some 27) ?_
         refine done_ (done_of HT_.out (by kernel_rfl)) ?_
         try go_wp2
         have n0_ := Aside0.mk (Kd.V_drew HO_332001.out)
         have n1_ := Aside0.mk (Kd.V_drew HO_332002.out)
         have n2_ := Aside0.mk (blk_drew BK331.out)
         have n3_ := Aside0.mk (blk_drew BK332.out)
         have n4_ := Aside0.mk (below_drew1 HB.out)
         clear HO_332001
         clear HO_332002
         clear BK331
         clear BK332
         clear HB
         have HO_332001 := n0_
         have HO_332002 := n1_
         have BK331 := n2_
         have BK332 := n3_
         have HB := n4_
         clear n0_ n1_ n2_ n3_ n4_
         have p335 : 0 ≤ (x6_1 : Int) := of_decide_eq_true (by first | (with_reducible assumption) | assumption)
         have q335 : x6_1 < (l1.length : Int) := of_decide_eq_true (by first | (with_reducible assumption) | assumption)
         obtain ⟨ad335, e335, hx335_0⟩ := Kd.at_int HR1.out x6_1 p335 q335
         have hw335_0 := hx335_0
         obtain rfl : ad333 = ad335 := (by injection e335)
         replace hx335_0 := (HB.out.cell (World.block_lt_of_cell? w _ hx335_0)).trans hx335_0
         replace p335 := eq_true p335
         replace q335 := eq_true q335
         have p336 : 0 ≤ ((rd l1 x6_1) : Int) := of_decide_eq_true (by first | (with_reducible assumption) | assumption)
         have q336 : (rd l1 x6_1) < (x332002_1.length : Int) := of_decide_eq_true (by first | (with_reducible assumption) | assumption)
         obtain ⟨ad336, A336_1, c336_1, A336_2, c336_2, e336, hx336_0, hx336_1, hx336_2, hl336_1, hi336_1, hl336_2, hi336_2⟩ := at_T27 (Kd.V_reads' HO_332002.out).2.2 (rd l1 x6_1) p336 q336
         cases e336
         obtain ⟨ce336, hce336, hMe336, hcc336⟩ := Kd.V_get HO_332002.out z27 (rd l1 x6_1) p336 (by first | exact q336 | exact of_decide_eq_true (by first | (with_reducible assumption) | assumption) | (have e_ := (Kd.V_reads' HO_332002.out).1; omega))
         obtain ⟨ua336_1, uc336_1, ua336_2, uc336_2, rfl, ul336_1, ge336_1, ul336_2, ge336_2⟩ := k27_openF hMe336
         have hv336_1 := hcc336 1 _ rfl
         rw [add_field _ _ 1 (by omega)] at hv336_1
         replace hv336_1 := Option.some.inj (hv336_1.symm.trans hx336_1)
         injection hv336_1 with hva_ hvn_ hvc_
         rw [hva_] at ge336_1
         rw [hvc_] at ul336_1
         have HL336_1 := Aside0.mk (show Kd.V (Kd.int .i64) 3 _ w.heap.size _ _ ((rd_T27 x332002_1 (rd l1 x6_1)).f1) from Kd.V_mk ul336_1 ge336_1)
         clear hva_ hvn_ hvc_ ge336_1 ul336_1
         have hv336_2 := hcc336 2 _ rfl
         rw [add_field _ _ 2 (by omega)] at hv336_2
         replace hv336_2 := Option.some.inj (hv336_2.symm.trans hx336_2)
         injection hv336_2 with hva_ hvn_ hvc_
         rw [hva_] at ge336_2
         rw [hvc_] at ul336_2
         have HL336_2 := Aside0.mk (show Kd.V k27 27 _ w.heap.size _ _ ((rd_T27 x332002_1 (rd l1 x6_1)).f2) from Kd.V_mk ul336_2 ge336_2)
         clear hva_ hvn_ hvc_ ge336_2 ul336_2
         clear hcc336 hce336
         have HR336_1 := Aside0.mk hi336_1
         have HC336_1 := Aside0.mk hl336_1
         clear hi336_1 hl336_1
         have HR336_2 := Aside0.mk hi336_2
         have HC336_2 := Aside0.mk hl336_2
         clear hi336_2 hl336_2
         replace p336 := eq_true p336
         replace q336 := eq_true q336
         refine start_ (n := 9) (S := fun w' => w'.cell? ⟨gb331, 0, none⟩ = some (.string x332000_1) ∧ w'.cell? ⟨gb331, 1, none⟩ = some (u332001) ∧ w'.cell? ⟨gb331, 2, none⟩ = some (.slice (some ad336) x332002_1.length co19) ∧ w'.cell? (ad333.add (x6_1).toNat) = some (.int .i64 (rd l1 x6_1)) ∧ w'.cell? (ad336.add (((rd l1 x6_1)).toNat * 3)) = some (.string ((rd_T27 x332002_1 (rd l1 x6_1)).f0)) ∧ w'.cell? ⟨(ad336.add (((rd l1 x6_1)).toNat * 3)).block, (ad336.add (((rd l1 x6_1)).toNat * 3)).off + 1, none⟩ = some (.slice A336_1 ((rd_T27 x332002_1 (rd l1 x6_1)).f1).length c336_1) ∧ w'.cell? ⟨(ad336.add (((rd l1 x6_1)).toNat * 3)).block, (ad336.add (((rd l1 x6_1)).toNat * 3)).off + 2, none⟩ = some (.slice A336_2 ((rd_T27 x332002_1 (rd l1 x6_1)).f2).length c336_2)) (ds := [8]) #[false, false, false, false, false, false, false, false, false] (by kernel_rfl) rfl rfl ⟨(blk_cell BK331.out 0).trans rfl, (blk_cell BK331.out 1).trans rfl, (blk_cell BK331.out 2).trans rfl, ((HB.out.cell (World.block_lt_of_cell? w _ hw335_0)).trans hw335_0), hx336_0, hx336_1, hx336_2⟩ (fun hHeld => ?_); refine with_tabW pentaglotref31_At.tab6 pentaglotref31_At.bits6 (fun HT_ HW_ => ?_)
         generalize w18.drew = w20 at HO_332001 HO_332002 BK331 BK332 HB HL336_1 HL336_2 HR336_1 HR336_2 hx335_0 hx336_0 hx336_1 hx336_2 hHeld ⊢
         refine pu_ 0 (some 29) ?_
         refine pu_ 2 (some 31) ?_
         refine pu_ 3 (some 32) ?_
         refine pu_ 4 (some 33) ?_
         refine tk_ 1 (some 30) hHeld ?_
         refine tk_ 5 (some 34) hHeld ?_
         refine pu_ 6 (some 35) ?_
         refine tk_ 7 (some 36) hHeld ?_
         refine la_ 8 (none) (fun K hK => ?_)
         have hs21 : w20.cell? ⟨gb331, 0, none⟩ = some (.string x332000_1) := (blk_cell BK331.out 0).trans rfl
         have hfs21 := blk_frozen BK331.out 0
         have hns21_1 := NB332_331.out
         have hms21_1 := NB331_332.out
         have hs22 : w20.cell? ⟨gb331, 1, none⟩ = some (u332001) := (blk_cell BK331.out 1).trans rfl
         have hfs22 := blk_frozen BK331.out 1
         have hns22_1 := NB332_331.out
         have hms22_1 := NB331_332.out
         have hs23 : w20.cell? ⟨gb331, 2, none⟩ = some (.slice (some ad336) x332002_1.length co19) := (blk_cell BK331.out 2).trans rfl
         have hfs23 := blk_frozen BK331.out 2
         have hns23_1 := NB332_331.out
         have hms23_1 := NB331_332.out
         refine skip_ (w1 := ?_) (by rfl) rfl ?_ ?_
         rotate_left
         ·go_simp
          rfl
         refine hK.out _ _ ?_
         clear hK K
         refine done_ (done_of HT_.out (by kernel_rfl)) ?_
         try go_wp2
         go_roundg k1
         case measure => have := HK1.out; omega
         case rel => exact ⟨(wrap64 (x6_1 + 1)), ((rd_T27 x332002_1 (rd l1 x6_1)).f0), ((rd_T27 x332002_1 (rd l1 x6_1)).f1), ((rd_T27 x332002_1 (rd l1 x6_1)).f2), (x333000_1), (.slice A336_1 ((rd_T27 x332002_1 (rd l1 x6_1)).f1).length c336_1), (.slice A336_2 ((rd_T27 x332002_1 (rd l1 x6_1)).f2).length c336_2), fi_, H', ⟨by have := HK1.out; omega⟩, ⟨by (with_reducible repeat (first | apply Kd.V_alloc | apply Kd.V_drewN | apply Kd.V_drew)); exact Kd.V_mono (Kd.V_far (p := ⟨gb331, 2, none⟩) (Kd.V_far (p := ⟨gb331, 1, none⟩) (Kd.V_far (p := ⟨gb331, 0, none⟩) (Kd.V_mono HL336_1.out (fun k_ hk => (⟨hk, hk.2.1⟩ : _ ∧ k_ ≠ gb331))) (fun _ hk => hk.2) (.string ((rd_T27 x332002_1 (rd l1 x6_1)).f0))) (fun _ hk => hk.2) (.slice A336_1 ((rd_T27 x332002_1 (rd l1 x6_1)).f1).length c336_1)) (fun _ hk => hk.2) (.slice A336_2 ((rd_T27 x332002_1 (rd l1 x6_1)).f2).length c336_2)) (fun _ hk => ⟨hk.1.1, ⟨hk.1.2.1, hk.1.2.2⟩⟩)⟩, ⟨by (with_reducible repeat (first | apply Kd.V_alloc | apply Kd.V_drewN | apply Kd.V_drew)); exact Kd.V_mono (Kd.V_far (p := ⟨gb331, 2, none⟩) (Kd.V_far (p := ⟨gb331, 1, none⟩) (Kd.V_far (p := ⟨gb331, 0, none⟩) (Kd.V_mono HL336_2.out (fun k_ hk => (⟨hk, hk.2.1⟩ : _ ∧ k_ ≠ gb331))) (fun _ hk => hk.2) (.string ((rd_T27 x332002_1 (rd l1 x6_1)).f0))) (fun _ hk => hk.2) (.slice A336_1 ((rd_T27 x332002_1 (rd l1 x6_1)).f1).length c336_1)) (fun _ hk => hk.2) (.slice A336_2 ((rd_T27 x332002_1 (rd l1 x6_1)).f2).length c336_2)) (fun _ hk => ⟨hk.1.1, ⟨hk.1.2.1, hk.1.2.2⟩⟩)⟩, ⟨by (with_reducible repeat (first | refine blk_drewN ?_ _ | refine blk_drew ?_ | refine blk_alloc ?_ _)); refine blk_put (cs := #[.string ((rd_T27 x332002_1 (rd l1 x6_1)).f0), .slice A336_1 ((rd_T27 x332002_1 (rd l1 x6_1)).f1).length c336_1, .slice (some ad336) x332002_1.length co19]) ?_ 2 _ rfl; (with_reducible repeat (first | refine blk_drewN ?_ _ | refine blk_drew ?_ | refine blk_alloc ?_ _)); refine blk_put (cs := #[.string ((rd_T27 x332002_1 (rd l1 x6_1)).f0), u332001, .slice (some ad336) x332002_1.length co19]) ?_ 1 _ rfl; (with_reducible repeat (first | refine blk_drewN ?_ _ | refine blk_drew ?_ | refine blk_alloc ?_ _)); refine blk_put (cs := #[.string x332000_1, u332001, .slice (some ad336) x332002_1.length co19]) ?_ 0 _ rfl; (with_reducible repeat (first | refine blk_drewN ?_ _ | refine blk_drew ?_ | refine blk_alloc ?_ _)); exact BK331.out⟩, ⟨by (with_reducible repeat (first | refine blk_drewN ?_ _ | refine blk_drew ?_ | refine blk_alloc ?_ _)); refine blk_far ?_ NB332_331.out _; (with_reducible repeat (first | refine blk_drewN ?_ _ | refine blk_drew ?_ | refine blk_alloc ?_ _)); refine blk_far ?_ NB332_331.out _; (with_reducible repeat (first | refine blk_drewN ?_ _ | refine blk_drew ?_ | refine blk_alloc ?_ _)); refine blk_far ?_ NB332_331.out _; (with_reducible repeat (first | refine blk_drewN ?_ _ | refine blk_drew ?_ | refine blk_alloc ?_ _)); exact BK332.out⟩, ⟨be2_ HB GE331 GE332⟩⟩
        ·rw [if_neg c17] at H
         exact absurd H (by simp)
       ·rw [if_neg c16] at H
        exact absurd H (by simp)
    ·rw [if_neg c6] at H
     exact absurd H (by simp)
   ·rw [if_neg c5] at H
    have c5b0 : decide (x6_1 < (l1.length : Int)) = false := decide_eq_false c5
    clear c5
    simp only [Option.some.injEq, Prod.mk.injEq] at H
    obtain ⟨rfl, rfl, rfl, rfl⟩ := H
    have hnb24 := NB331_332.out
    have hnc24 := NB332_331.out
    have hcz25_0 : wr.cell? ⟨gb331, 0, none⟩ = some (.string x332000_1) := (blk_cell BK331.out 0).trans rfl
    have hcz25_1 : wr.cell? ⟨gb331, 1, none⟩ = some (u332001) := (blk_cell BK331.out 1).trans rfl
    have hcz25_2 : wr.cell? ⟨gb331, 2, none⟩ = some (u332002) := (blk_cell BK331.out 2).trans rfl
    have hfz25_0 := blk_frozen BK331.out 0
    have hfz25_1 := blk_frozen BK331.out 1
    have hfz25_2 := blk_frozen BK331.out 2
    have hcz26_0 : wr.cell? ⟨gb332, 0, none⟩ = some (.string x333000_1) := (blk_cell BK332.out 0).trans rfl
    have hcz26_1 : wr.cell? ⟨gb332, 1, none⟩ = some (.slice none 0 0) := (blk_cell BK332.out 1).trans rfl
    have hcz26_2 : wr.cell? ⟨gb332, 2, none⟩ = some (.slice none 0 0) := (blk_cell BK332.out 2).trans rfl
    have hfz26_0 := blk_frozen BK332.out 0
    have hfz26_1 := blk_frozen BK332.out 1
    have hfz26_2 := blk_frozen BK332.out 2
    obtain ⟨Ao27, co27, eo27⟩ := Kd.V_slice HO_332001.out
    subst eo27
    obtain ⟨Ao28, co28, eo28⟩ := Kd.V_slice HO_332002.out
    subst eo28
    go_wp2
    refine bodyPost_ret (results_ct rfl _ _ gb332 27 #[.string x332000_1, .slice Ao27 x332001_1.length co27, .slice Ao28 x332002_1.length co28] (0, 0) _ rfl (by (with_reducible repeat (first | refine blk_drewN ?_ _ | refine blk_drew ?_ | refine blk_alloc ?_ _)); refine blk_put (cs := #[.string x332000_1, .slice Ao27 x332001_1.length co27, .slice none 0 0]) ?_ 2 _ rfl; (with_reducible repeat (first | refine blk_drewN ?_ _ | refine blk_drew ?_ | refine blk_alloc ?_ _)); refine blk_put (cs := #[.string x332000_1, .slice none 0 0, .slice none 0 0]) ?_ 1 _ rfl; (with_reducible repeat (first | refine blk_drewN ?_ _ | refine blk_drew ?_ | refine blk_alloc ?_ _)); refine blk_put (cs := #[.string x333000_1, .slice none 0 0, .slice none 0 0]) ?_ 0 _ rfl; (with_reducible repeat (first | refine blk_drewN ?_ _ | refine blk_drew ?_ | refine blk_alloc ?_ _)); exact BK332.out) Try.underlying27 rfl (by kernel_rfl)) rfl ?_
    exact ⟨_, _, er_, by (with_reducible repeat (first | apply Kd.V_alloc | apply Kd.V_drewN | apply Kd.V_drew)); exact Kd.V_mono (Kd.V_far (p := ⟨gb332, 2, none⟩) (Kd.V_far (p := ⟨gb332, 1, none⟩) (Kd.V_far (p := ⟨gb332, 0, none⟩) (Kd.V_mono HO_332001.out (fun k_ hk => (⟨hk, hk.2.2⟩ : _ ∧ k_ ≠ gb332))) (fun _ hk => hk.2) (.string x332000_1)) (fun _ hk => hk.2) (.slice Ao27 x332001_1.length co27)) (fun _ hk => hk.2) (.slice Ao28 x332002_1.length co28)) (fun _ hk => hk.1.1), by (with_reducible repeat (first | apply Kd.V_alloc | apply Kd.V_drewN | apply Kd.V_drew)); exact Kd.V_mono (Kd.V_far (p := ⟨gb332, 2, none⟩) (Kd.V_far (p := ⟨gb332, 1, none⟩) (Kd.V_far (p := ⟨gb332, 0, none⟩) (Kd.V_mono HO_332002.out (fun k_ hk => (⟨hk, hk.2.2⟩ : _ ∧ k_ ≠ gb332))) (fun _ hk => hk.2) (.string x332000_1)) (fun _ hk => hk.2) (.slice Ao27 x332001_1.length co27)) (fun _ hk => hk.2) (.slice Ao28 x332002_1.length co28)) (fun _ hk => hk.1.1), be2_ HB GE331 GE332⟩

end Go.Proofs.Ytfampmajmbediaa.P
