-- Written by the session's own program wip/tools/xprint.py out of the translation, with the kit's print.py on a scratch copy; functions given by hand stand among them.
import Derived.Test.YtfampmajmbediaaPx0
namespace Go.Proofs.Ytfampmajmbediaa.P
open Go.RowKit Go.Proofs.YtfampmajmbediaaW.PrintWords Go.Proofs.YtfampmajmbediaaW.PrintLast Go.Proofs.YtfampmajmbediaaW.PrintMore
attribute [local go_sem] max2_int min2_int max_two min_two max_three min_three max_four min_four   -- for this text's walks alone
set_option linter.unusedVariables false
set_option linter.unusedSimpArgs false

/-! ### anaphora_clone: function 38 -/
mutual
def anaphora_clone.l0 : Nat → List (S27) → Int → Int → ByteArray → List Int → List (S27) → Option (ByteArray × List Int × (List (S27)))
 | 0, _, _, _, _, _, _ => none
 | k + 1, x13, x14, x15, x150000, x150001, x150002 => if x15 < x14 then (if 0 ≤ x15 then (if x15 < (x13.length : Int) then ((anaphora_clone.f k ((rd_T27 x13 x15).f0) ((rd_T27 x13 x15).f1) ((rd_T27 x13 x15).f2)).bind fun bt152 => (if x150002.length < 2199023255552 then (anaphora_clone.l0 k x13 x14 (wrap64 (x15 + 1)) x150000 x150001 (x150002 ++ [(⟨bt152.1, bt152.2.1, bt152.2.2⟩ : S27)])) else (none))) else (none)) else (none)) else (some (x150000, x150001, x150002))
def anaphora_clone.f : Nat → ByteArray → List Int → List (S27) → Option (ByteArray × List Int × (List (S27)))
 | 0, _, _, _ => none
 | k + 1, a0_0, l0_1, l0_2 => if ([] : List Int).length + l0_1.length < 17592186044416 then (anaphora_clone.l0 k l0_2 (l0_2.length : Int) 0 a0_0 (([] : List Int) ++ l0_1) ([] : List (S27))) else (none)
end
theorem anaphora_clone.mono_l : ∀ k, (∀ y0 y1 y2, LeO (anaphora_clone.f k y0 y1 y2) (anaphora_clone.f (k + 1) y0 y1 y2)) ∧ (∀ y0 y1 y2 y3 y4 y5, LeO (anaphora_clone.l0 k y0 y1 y2 y3 y4 y5) (anaphora_clone.l0 (k + 1) y0 y1 y2 y3 y4 y5))
 | 0 => ⟨fun _ _ _ r h => by simp [anaphora_clone.f] at h, fun _ _ _ _ _ _ r h => by simp [anaphora_clone.l0] at h⟩
 | k + 1 => by
  obtain ⟨ih0, ih1⟩ := anaphora_clone.mono_l k
  refine ⟨?_, ?_⟩
  ·intro y0 y1 y2
   unfold anaphora_clone.f
   repeat' first
   | (with_reducible exact ih0 _ _ _)
   | (with_reducible exact ih1 _ _ _ _ _ _)
   | (with_reducible exact LeO.refl _)
   | (with_reducible exact LeO.none _)
   | (with_reducible refine LeO.ite ?_ ?_)
   | (with_reducible refine LeO.bind ?_ (fun _ => ?_))
   | exact ih0 _ _ _
   | exact ih1 _ _ _ _ _ _
   | exact LeO.none _
   | refine LeO.ite ?_ ?_
   | refine LeO.bind ?_ (fun _ => ?_)
  ·intro y0 y1 y2 y3 y4 y5
   unfold anaphora_clone.l0
   repeat' first
   | (with_reducible exact ih0 _ _ _)
   | (with_reducible exact ih1 _ _ _ _ _ _)
   | (with_reducible exact LeO.refl _)
   | (with_reducible exact LeO.none _)
   | (with_reducible refine LeO.ite ?_ ?_)
   | (with_reducible refine LeO.bind ?_ (fun _ => ?_))
   | exact ih0 _ _ _
   | exact ih1 _ _ _ _ _ _
   | exact LeO.none _
   | refine LeO.ite ?_ ?_
   | refine LeO.bind ?_ (fun _ => ?_)
theorem anaphora_clone.mono : ∀ a0 a1 a2 k, LeO (anaphora_clone.f k a0 a1 a2) (anaphora_clone.f (k + 1) a0 a1 a2) := by
 intro a0 a1 a2 k
 obtain ⟨ih0, ih1⟩ := anaphora_clone.mono_l k
 exact ih0 a0 a1 a2
def anaphora_clone.T1 : Bool × List (List Nat × List Nat) := (true, [([], []), ([0], [0]), ([], []), ([2], [2]), ([3], [3]), ([1, 4], [1, 4]), ([], []), ([6, 5, 4, 0, 1, 2, 3, 4, 5, 6], [5, 6])])
def anaphora_clone.B1 : List Nat := [0, 1, 0, 4, 12, 31, 0, 127]
theorem anaphora_clone.tab1 : rtab .any (opsOf Try.f38 1) = anaphora_clone.T1 := by kernel_rfl
theorem anaphora_clone.bits1 : waitsOk anaphora_clone.T1.2 anaphora_clone.B1 = true := by kernel_rfl
def anaphora_clone.T5 : Bool × List (List Nat × List Nat) := (true, [([], []), ([0], [0]), ([], []), ([2], [2]), ([3], [3]), ([1, 4, 3], [1, 4]), ([0, 1, 2, 3, 4, 5], []), ([6, 5, 5, 0, 1, 2, 3, 4, 5], [5, 6])])
def anaphora_clone.B5 : List Nat := [0, 1, 0, 4, 12, 31, 63, 127]
theorem anaphora_clone.tab5 : rtab .any (opsOf Try.f38 5) = anaphora_clone.T5 := by kernel_rfl
theorem anaphora_clone.bits5 : waitsOk anaphora_clone.T5.2 anaphora_clone.B5 = true := by kernel_rfl
set_option maxHeartbeats 8000000 in
set_option maxRecDepth 100000 in
theorem anaphora_clone.calls (k : Nat) : ∀ (a0_0 : ByteArray) (A0_1 : Option Addr) (c0_1 : Nat) (l0_1 : List Int) (A0_2 : Option Addr) (c0_2 : Nat) (l0_2 : List (S27)) (r1 : ByteArray) (r2 : List Int) (r3 : List (S27)) (w : World) (hr0_1 : Kd.C (Kd.int .i64) w A0_1 l0_1.length l0_1) (hc0_1 : l0_1.length ≤ c0_1) (hr0_2 : Kd.C k27 w A0_2 l0_2.length l0_2) (hc0_2 : l0_2.length ≤ c0_2) (h : anaphora_clone.f k a0_0 l0_1 l0_2 = some (r1, r2, r3)),
  Calls Try.prog 38 #[.agg #[.string a0_0, .slice A0_1 l0_1.length c0_1, .slice A0_2 l0_2.length c0_2]] w fun e w' => ∃ v1_ v2_ : Value, e = .returned (.agg #[.string r1, v1_, v2_]) ∧ Kd.R (Kd.int .i64) 3 w' w.heap.size (fun _ => True) v1_ r2 ∧ Kd.R k27 27 w' w.heap.size (fun k_ => some k_ ≠ (v1_ : Value).ownBlock) v2_ r3 ∧ Below w.heap.size w w' := by
 induction k using Nat.strongRecOn with
 | _ k ih =>
 intro a0_0 A0_1 c0_1 l0_1 A0_2 c0_2 l0_2 r1 r2 r3 w hr0_1 hc0_1 hr0_2 hc0_2 h
 cases k with
 | zero => exact absurd h (by simp [anaphora_clone.f])
 | succ k =>
 simp only [anaphora_clone.f] at h
 have hu27 := Try.underlying27
 have HR0_1 := Aside0.mk hr0_1
 have HC0_1 := Aside0.mk hc0_1
 clear hr0_1 hc0_1
 have HR0_2 := Aside0.mk hr0_2
 have HC0_2 := Aside0.mk hc0_2
 clear hr0_2 hc0_2
 have HB := Aside0.mk (Below.refl w.heap.size w)
 have H : (if ([] : List Int).length + l0_1.length < 17592186044416 then (anaphora_clone.l0 k l0_2 (l0_2.length : Int) 0 a0_0 (([] : List Int) ++ l0_1) ([] : List (S27))) else (none)) = some (r1, r2, r3) := h
 clear h
 by_cases c2 : ([] : List Int).length + l0_1.length < 17592186044416
 ·rw [if_pos c2] at H
  have LMc2 := Aside0.mk c2
  clear c2
  obtain ⟨y146, hy146⟩ : ∃ y_ : List Int, y_ = (([] : List Int) ++ l0_1) := ⟨_, rfl⟩
  replace H : (anaphora_clone.l0 k l0_2 (l0_2.length : Int) 0 a0_0 y146 ([] : List (S27))) = some (r1, r2, r3) := by first | (rw [hy146]; with_reducible exact H) | (have H2_ := (Option.bind_some _ _).symm.trans H; rw [hy146]; with_reducible exact H2_) | (have H2_ := (Option.bind_some _ _).symm.trans H; with_reducible exact H2_) | with_reducible exact H | (rw [hy146]; exact H) | exact H
  have Ny146 := Aside0.mk hy146
  clear hy146
  have H' := Aside0.mk H
  clear H
  go_enter Try.func38, Try.ntmps38
  try go_wp2_with (first | ((with_reducible refine gate_dst (N := 1) rfl ?_); refine box_event ?hg (N := 1) ?hd (cs := #[.string a0_0, .slice A0_1 l0_1.length c0_1, .slice A0_2 l0_2.length c0_2]) (t := 27) ?hr ?_; (case hd => rfl); (case hg => rfl); (case hr => first | (go_simp; done) | (go_simp; rfl)); intro gb144 hg w3 hbox hb; have n0_ := Aside0.mk (below_step (be_ HB) hb); have n1_ := Aside0.mk (hbox); have n2_ := Aside0.mk ((by rw [hg]; exact (below_size (be_ HB)) : w.heap.size ≤ gb144)); have n3_ := Aside0.mk ((by rw [hg]; exact (below_size (be_ HB)) : w.heap.size ≤ gb144)); clear HB; have HB := n0_; have BK144 := n1_; have GW144 := n2_; have GE144 := n3_; clear n0_ n1_ n2_ n3_; clear hb hbox hg) | ((with_reducible refine gate_dst (N := 2) rfl ?_); refine box_event ?hg (N := 2) ?hd (cs := #[.string (⟨#[]⟩ : ByteArray), .slice none 0 0, .slice none 0 0]) (t := 27) ?hr ?_; (case hd => rfl); (case hg => rfl); (case hr => first | (go_simp; done) | (go_simp; rfl)); intro gb145 hg w4 hbox hb; have n0_ := Aside0.mk (blk_below (g := gb144) (o := .cells #[.string a0_0, .slice A0_1 l0_1.length c0_1, .slice A0_2 l0_2.length c0_2] 27 (0, 0)) (bq_ BK144) hb); have n1_ := Aside0.mk (below_step (be1_ HB GE144) hb); have n2_ := Aside0.mk (hbox); have n3_ := Aside0.mk ((by rw [hg]; exact (below_size (be1_ HB GE144)) : w.heap.size ≤ gb145)); have n4_ := Aside0.mk ((by rw [hg]; exact (below_size (be1_ HB GE144)) : w.heap.size ≤ gb145)); have n5_ := Aside0.mk ((by rw [hg]; exact Nat.ne_of_lt (blk_lt (g := gb144) (o := .cells #[.string a0_0, .slice A0_1 l0_1.length c0_1, .slice A0_2 l0_2.length c0_2] 27 (0, 0)) (bq_ BK144)) : gb144 ≠ gb145)); have n6_ := Aside0.mk ((by rw [hg]; exact Nat.ne_of_gt (blk_lt (g := gb144) (o := .cells #[.string a0_0, .slice A0_1 l0_1.length c0_1, .slice A0_2 l0_2.length c0_2] 27 (0, 0)) (bq_ BK144)) : gb145 ≠ gb144)); clear BK144; clear HB; have BK144 := n0_; have HB := n1_; have BK145 := n2_; have GW145 := n3_; have GE145 := n4_; have NB144_145 := n5_; have NB145_144 := n6_; clear n0_ n1_ n2_ n3_ n4_ n5_ n6_; clear hb hbox hg))
  have n0_ := Aside0.mk (blk_drew BK144.out)
  have n1_ := Aside0.mk (blk_drew BK145.out)
  have n2_ := Aside0.mk (below_drew1 HB.out)
  clear BK144
  clear BK145
  clear HB
  have BK144 := n0_
  have BK145 := n1_
  have HB := n2_
  clear n0_ n1_ n2_
  refine start_ (n := 8) (S := fun w' => w'.cell? ⟨gb144, 0, none⟩ = some (.string a0_0) ∧ w'.cell? ⟨gb144, 1, none⟩ = some (.slice A0_1 l0_1.length c0_1) ∧ w'.cell? ⟨gb144, 2, none⟩ = some (.slice A0_2 l0_2.length c0_2)) (ds := []) #[false, false, false, false, false, false, false, false] (by kernel_rfl) rfl rfl ⟨(blk_cell BK144.out 0).trans rfl, (blk_cell BK144.out 1).trans rfl, (blk_cell BK144.out 2).trans rfl⟩ (fun hHeld => ?_); refine with_tabW anaphora_clone.tab1 anaphora_clone.bits1 (fun HT_ HW_ => ?_)
  generalize w4.drew = w5 at BK144 BK145 HB hHeld ⊢
  refine pu_ 0 (some 6) ?_
  refine pu_ 2 (some 8) ?_
  refine tk_ 1 (some 7) hHeld ?_
  refine tk_ 3 (some 9) hHeld ?_
  refine join_ (σ := Value × Nat) 1 #[true, true, true, true, true, true, true, false] (fun s_ => [(10, s_.1), (3, .pointer (some ⟨s_.2, 0, none⟩)), (11, .agg #[.string a0_0, s_.1, .slice none 0 0])]) (fun s_ w' => (w'.cell? ⟨gb144, 0, none⟩ = some (.string a0_0) ∧ w'.cell? ⟨gb144, 1, none⟩ = some (.slice A0_1 l0_1.length c0_1) ∧ w'.cell? ⟨gb144, 2, none⟩ = some (.slice A0_2 l0_2.length c0_2)) ∧ (Kd.R (Kd.int .i64) 3 w' w.heap.size (fun _ => True) s_.1 y146) ∧ (w'.heap[gb144]? = some (.cells #[.string a0_0, .slice A0_1 l0_1.length c0_1, .slice A0_2 l0_2.length c0_2] 27 (0, 0))) ∧ (w'.heap[gb145]? = some (.cells #[.string (⟨#[]⟩ : ByteArray), .slice none 0 0, .slice none 0 0] 27 (0, 0))) ∧ (w'.heap[s_.2]? = some (.cells #[.string (⟨#[]⟩ : ByteArray), .slice none 0 0, .slice none 0 0] 27 (0, 0))) ∧ (w.heap.size ≤ s_.2) ∧ (w.heap.size ≤ s_.2) ∧ (gb144 ≠ s_.2) ∧ (s_.2 ≠ gb144) ∧ (gb145 ≠ s_.2) ∧ (s_.2 ≠ gb145) ∧ (Below w.heap.size w w')) ?_ ?_
  rotate_left
  ·intro hCont
   refine two_ (i := 4) (j := 6) (Ni := some 10) (Nj := some 3) #[true, true, true, true, true, false, false, false] #[true, true, true, true, false, false, true, false] rfl rfl rfl rfl (two_of HT_.out (by kernel_rfl)) (by decide) (by decide) (fun K hK => ?_) (fun K hK => ?_)
   ·skip
    refine Kd.R_append_rows_step (Kd.int .i64) (w0 := w) w.heap.size rfl (.const (.slice none 0 0)) (.tmp 9) 25 3 (.int .i64 0) 8 rfl Try.underlying25 info3 rfl (by decide) (by omega) (.slice none 0 0) ([] : List Int) l0_1 _ _ _ (fun _ => True) (fun _ => False) rfl rfl ?aO ?aR (fun _ _ h => h) (fun _ h => h.elim) ?aF ?aB ?aS ?aL ?_
    (case aR => repeat (first | exact (Kd.C_below HR0_1.out HB.out) | (with_reducible refine Kd.C_alloc ?_ _) | (with_reducible refine Kd.C_drewN ?_ _) | (with_reducible refine Kd.C_drew ?_)))
    (case aB => exact (be2_ HB GE144 GE145))
    (case aF => exact (fun _ _ => trivial))
    (case aO => exact ((Kd.R_nil _ _ _ _ (fun _ => True))))
    (case aS => exact (below_size (be2_ HB GE144 GE145)))
    (case aL => have := LMc2.out; omega)
    intro v147 w6 ho hb hg hat
    rw [← Ny146.out] at ho
    have n0_ := Aside0.mk (blk_grown (g := gb144) (o := .cells #[.string a0_0, .slice A0_1 l0_1.length c0_1, .slice A0_2 l0_2.length c0_2] 27 (0, 0)) (bq_ BK144) hg (by simp [Value.ownBlock]))
    have n1_ := Aside0.mk (blk_grown (g := gb145) (o := .cells #[.string (⟨#[]⟩ : ByteArray), .slice none 0 0, .slice none 0 0] 27 (0, 0)) (bq_ BK145) hg (by simp [Value.ownBlock]))
    have n2_ := Aside0.mk (hb)
    have n3_ := Aside0.mk (ho)
    clear BK144
    clear BK145
    clear HB
    have BK144 := n0_
    have BK145 := n1_
    have HB := n2_
    have HO148 := n3_
    clear n0_ n1_ n2_ n3_
    clear ho hb hg hat
    obtain ⟨Ao7, co7, eo7⟩ := Kd.R_slice HO148.out
    (first | subst eo7 | (injection eo7 with f1_ f2_ f3_; have f4_ := f1_.symm; have f5_ := f3_.symm; clear f1_ f2_ f3_; subst f4_; subst f5_))
    refine hK.out _ _ ⟨(blk_cell BK144.out 0).trans rfl, (blk_cell BK144.out 1).trans rfl, (blk_cell BK144.out 2).trans rfl⟩ (fun hHeld => ?_)
    clear hK K
    refine no_ (N := some 10) ?_
    refine pu_ 5 (some 11) ?_
    refine on_ 6 (some 3) (fun K hK => ?_)
    refine box_step ?hg (N := 3) ?hd (cs := #[.string (⟨#[]⟩ : ByteArray), .slice none 0 0, .slice none 0 0]) (t := 27) ?hr ?_; (case hd => rfl); (case hg => rfl); (case hr => first | (go_simp; done) | (go_simp; rfl))
    intro gb149 hg w8 hbox hb
    have n0_ := Aside0.mk (Kd.R_below (rq_ HO148) hb)
    have n1_ := Aside0.mk (blk_below (g := gb144) (o := .cells #[.string a0_0, .slice A0_1 l0_1.length c0_1, .slice A0_2 l0_2.length c0_2] 27 (0, 0)) (bq_ BK144) hb)
    have n2_ := Aside0.mk (blk_below (g := gb145) (o := .cells #[.string (⟨#[]⟩ : ByteArray), .slice none 0 0, .slice none 0 0] 27 (0, 0)) (bq_ BK145) hb)
    have n3_ := Aside0.mk (below_step (be2_ HB GE144 GE145) hb)
    have n4_ := Aside0.mk (hbox)
    have n5_ := Aside0.mk ((by rw [hg]; exact (below_size (be2_ HB GE144 GE145)) : w.heap.size ≤ gb149))
    have n6_ := Aside0.mk ((by rw [hg]; exact (below_size (be2_ HB GE144 GE145)) : w.heap.size ≤ gb149))
    have n7_ := Aside0.mk ((by rw [hg]; exact Nat.ne_of_lt (blk_lt (g := gb144) (o := .cells #[.string a0_0, .slice A0_1 l0_1.length c0_1, .slice A0_2 l0_2.length c0_2] 27 (0, 0)) (bq_ BK144)) : gb144 ≠ gb149))
    have n8_ := Aside0.mk ((by rw [hg]; exact Nat.ne_of_gt (blk_lt (g := gb144) (o := .cells #[.string a0_0, .slice A0_1 l0_1.length c0_1, .slice A0_2 l0_2.length c0_2] 27 (0, 0)) (bq_ BK144)) : gb149 ≠ gb144))
    have n9_ := Aside0.mk ((by rw [hg]; exact Nat.ne_of_lt (blk_lt (g := gb145) (o := .cells #[.string (⟨#[]⟩ : ByteArray), .slice none 0 0, .slice none 0 0] 27 (0, 0)) (bq_ BK145)) : gb145 ≠ gb149))
    have n10_ := Aside0.mk ((by rw [hg]; exact Nat.ne_of_gt (blk_lt (g := gb145) (o := .cells #[.string (⟨#[]⟩ : ByteArray), .slice none 0 0, .slice none 0 0] 27 (0, 0)) (bq_ BK145)) : gb149 ≠ gb145))
    clear HO148
    clear BK144
    clear BK145
    clear HB
    have HO148 := n0_
    have BK144 := n1_
    have BK145 := n2_
    have HB := n3_
    have BK149 := n4_
    have GW149 := n5_
    have GE149 := n6_
    have NB144_149 := n7_
    have NB149_144 := n8_
    have NB145_149 := n9_
    have NB149_145 := n10_
    clear n0_ n1_ n2_ n3_ n4_ n5_ n6_ n7_ n8_ n9_ n10_
    clear hb hbox hg
    refine hK.out _ _ ⟨(blk_cell BK144.out 0).trans rfl, (blk_cell BK144.out 1).trans rfl, (blk_cell BK144.out 2).trans rfl⟩ (fun hHeld => ?_)
    clear hK K
    refine no_ (N := some 3) ?_
    exact norm_ (by simp only [putAll, Act.put, List.setIfInBounds_toArray, List.set_cons_zero, List.set_cons_succ]) (hCont (.slice Ao7 y146.length co7, gb149) _ ⟨hHeld, (rq_ HO148), (bq_ BK144), (bq_ BK145), (bq_ BK149), GW149.out, GE149.out, NB144_149.out, NB149_144.out, NB145_149.out, NB149_145.out, (be3_ HB GE144 GE145 GE149)⟩)
   ·skip
    refine box_step ?hg (N := 3) ?hd (cs := #[.string (⟨#[]⟩ : ByteArray), .slice none 0 0, .slice none 0 0]) (t := 27) ?hr ?_; (case hd => rfl); (case hg => rfl); (case hr => first | (go_simp; done) | (go_simp; rfl))
    intro gb149 hg w6 hbox hb
    have n0_ := Aside0.mk (blk_below (g := gb144) (o := .cells #[.string a0_0, .slice A0_1 l0_1.length c0_1, .slice A0_2 l0_2.length c0_2] 27 (0, 0)) (bq_ BK144) hb)
    have n1_ := Aside0.mk (blk_below (g := gb145) (o := .cells #[.string (⟨#[]⟩ : ByteArray), .slice none 0 0, .slice none 0 0] 27 (0, 0)) (bq_ BK145) hb)
    have n2_ := Aside0.mk (below_step (be2_ HB GE144 GE145) hb)
    have n3_ := Aside0.mk (hbox)
    have n4_ := Aside0.mk ((by rw [hg]; exact (below_size (be2_ HB GE144 GE145)) : w.heap.size ≤ gb149))
    have n5_ := Aside0.mk ((by rw [hg]; exact (below_size (be2_ HB GE144 GE145)) : w.heap.size ≤ gb149))
    have n6_ := Aside0.mk ((by rw [hg]; exact Nat.ne_of_lt (blk_lt (g := gb144) (o := .cells #[.string a0_0, .slice A0_1 l0_1.length c0_1, .slice A0_2 l0_2.length c0_2] 27 (0, 0)) (bq_ BK144)) : gb144 ≠ gb149))
    have n7_ := Aside0.mk ((by rw [hg]; exact Nat.ne_of_gt (blk_lt (g := gb144) (o := .cells #[.string a0_0, .slice A0_1 l0_1.length c0_1, .slice A0_2 l0_2.length c0_2] 27 (0, 0)) (bq_ BK144)) : gb149 ≠ gb144))
    have n8_ := Aside0.mk ((by rw [hg]; exact Nat.ne_of_lt (blk_lt (g := gb145) (o := .cells #[.string (⟨#[]⟩ : ByteArray), .slice none 0 0, .slice none 0 0] 27 (0, 0)) (bq_ BK145)) : gb145 ≠ gb149))
    have n9_ := Aside0.mk ((by rw [hg]; exact Nat.ne_of_gt (blk_lt (g := gb145) (o := .cells #[.string (⟨#[]⟩ : ByteArray), .slice none 0 0, .slice none 0 0] 27 (0, 0)) (bq_ BK145)) : gb149 ≠ gb145))
    clear BK144
    clear BK145
    clear HB
    have BK144 := n0_
    have BK145 := n1_
    have HB := n2_
    have BK149 := n3_
    have GW149 := n4_
    have GE149 := n5_
    have NB144_149 := n6_
    have NB149_144 := n7_
    have NB145_149 := n8_
    have NB149_145 := n9_
    clear n0_ n1_ n2_ n3_ n4_ n5_ n6_ n7_ n8_ n9_
    clear hb hbox hg
    refine hK.out _ _ ⟨(blk_cell BK144.out 0).trans rfl, (blk_cell BK144.out 1).trans rfl, (blk_cell BK144.out 2).trans rfl⟩ (fun hHeld => ?_)
    clear hK K
    refine no_ (N := some 3) ?_
    refine on_ 4 (some 10) (fun K hK => ?_)
    refine Kd.R_append_rows_step (Kd.int .i64) (w0 := w) w.heap.size rfl (.const (.slice none 0 0)) (.tmp 9) 25 3 (.int .i64 0) 8 rfl Try.underlying25 info3 rfl (by decide) (by omega) (.slice none 0 0) ([] : List Int) l0_1 _ _ _ (fun _ => True) (fun _ => False) rfl rfl ?aO ?aR (fun _ _ h => h) (fun _ h => h.elim) ?aF ?aB ?aS ?aL ?_
    (case aR => repeat (first | exact (Kd.C_below HR0_1.out HB.out) | (with_reducible refine Kd.C_alloc ?_ _) | (with_reducible refine Kd.C_drewN ?_ _) | (with_reducible refine Kd.C_drew ?_)))
    (case aB => exact (be3_ HB GE144 GE145 GE149))
    (case aF => exact (fun _ _ => trivial))
    (case aO => exact ((Kd.R_nil _ _ _ _ (fun _ => True))))
    (case aS => exact (below_size (be3_ HB GE144 GE145 GE149)))
    (case aL => have := LMc2.out; omega)
    intro v147 w7 ho hb hg hat
    rw [← Ny146.out] at ho
    have n0_ := Aside0.mk (blk_grown (g := gb144) (o := .cells #[.string a0_0, .slice A0_1 l0_1.length c0_1, .slice A0_2 l0_2.length c0_2] 27 (0, 0)) (bq_ BK144) hg (by simp [Value.ownBlock]))
    have n1_ := Aside0.mk (blk_grown (g := gb145) (o := .cells #[.string (⟨#[]⟩ : ByteArray), .slice none 0 0, .slice none 0 0] 27 (0, 0)) (bq_ BK145) hg (by simp [Value.ownBlock]))
    have n2_ := Aside0.mk (blk_grown (g := gb149) (o := .cells #[.string (⟨#[]⟩ : ByteArray), .slice none 0 0, .slice none 0 0] 27 (0, 0)) (bq_ BK149) hg (by simp [Value.ownBlock]))
    have n3_ := Aside0.mk (hb)
    have n4_ := Aside0.mk (ho)
    clear BK144
    clear BK145
    clear BK149
    clear HB
    have BK144 := n0_
    have BK145 := n1_
    have BK149 := n2_
    have HB := n3_
    have HO148 := n4_
    clear n0_ n1_ n2_ n3_ n4_
    clear ho hb hg hat
    obtain ⟨Ao8, co8, eo8⟩ := Kd.R_slice HO148.out
    (first | subst eo8 | (injection eo8 with f1_ f2_ f3_; have f4_ := f1_.symm; have f5_ := f3_.symm; clear f1_ f2_ f3_; subst f4_; subst f5_))
    refine hK.out _ _ ⟨(blk_cell BK144.out 0).trans rfl, (blk_cell BK144.out 1).trans rfl, (blk_cell BK144.out 2).trans rfl⟩ (fun hHeld => ?_)
    clear hK K
    refine no_ (N := some 10) ?_
    refine pu_ 5 (some 11) ?_
    exact norm_ (by simp only [putAll, Act.put, List.setIfInBounds_toArray, List.set_cons_zero, List.set_cons_succ]) (hCont (.slice Ao8 y146.length co8, gb149) _ ⟨hHeld, (rq_ HO148), (bq_ BK144), (bq_ BK145), (bq_ BK149), GW149.out, GE149.out, NB144_149.out, NB149_144.out, NB145_149.out, NB149_145.out, (be3_ HB GE144 GE145 GE149)⟩)
  rintro ⟨v147, gb149⟩ w9 ⟨hS_, h0_, h1_, h2_, h3_, h4_, h5_, h6_, h7_, h8_, h9_, h10_⟩
  have n0_ : Aside0 (Kd.R (Kd.int .i64) 3 w9 w.heap.size (fun _ => True) v147 y146) := ⟨h0_⟩
  have n1_ : Aside0 (w9.heap[gb144]? = some (.cells #[.string a0_0, .slice A0_1 l0_1.length c0_1, .slice A0_2 l0_2.length c0_2] 27 (0, 0))) := ⟨h1_⟩
  have n2_ : Aside0 (w9.heap[gb145]? = some (.cells #[.string (⟨#[]⟩ : ByteArray), .slice none 0 0, .slice none 0 0] 27 (0, 0))) := ⟨h2_⟩
  have n3_ : Aside0 (w9.heap[gb149]? = some (.cells #[.string (⟨#[]⟩ : ByteArray), .slice none 0 0, .slice none 0 0] 27 (0, 0))) := ⟨h3_⟩
  have n4_ : Aside0 (w.heap.size ≤ gb149) := ⟨h4_⟩
  have n5_ : Aside0 (w.heap.size ≤ gb149) := ⟨h5_⟩
  have n6_ : Aside0 (gb144 ≠ gb149) := ⟨h6_⟩
  have n7_ : Aside0 (gb149 ≠ gb144) := ⟨h7_⟩
  have n8_ : Aside0 (gb145 ≠ gb149) := ⟨h8_⟩
  have n9_ : Aside0 (gb149 ≠ gb145) := ⟨h9_⟩
  have n10_ : Aside0 (Below w.heap.size w w9) := ⟨h10_⟩
  clear BK144
  clear BK145
  clear HB
  clear h0_ h1_ h2_ h3_ h4_ h5_ h6_ h7_ h8_ h9_ h10_
  have HO148 := n0_
  have BK144 := n1_
  have BK145 := n2_
  have BK149 := n3_
  have GW149 := n4_
  have GE149 := n5_
  have NB144_149 := n6_
  have NB149_144 := n7_
  have NB145_149 := n8_
  have NB149_145 := n9_
  have HB := n10_
  clear n0_ n1_ n2_ n3_ n4_ n5_ n6_ n7_ n8_ n9_ n10_
  have hHeld : w9.cell? ⟨gb144, 0, none⟩ = some (.string a0_0) ∧ w9.cell? ⟨gb144, 1, none⟩ = some (.slice A0_1 l0_1.length c0_1) ∧ w9.cell? ⟨gb144, 2, none⟩ = some (.slice A0_2 l0_2.length c0_2) := hS_
  obtain ⟨Ao10, co10, eo10⟩ := Kd.R_slice HO148.out
  (first | subst eo10 | (injection eo10 with f1_ f2_ f3_; have f4_ := f1_.symm; have f5_ := f3_.symm; clear f1_ f2_ f3_; subst f4_; subst f5_))
  refine norm_ (a' := ?_) ?_ ?_
  rotate_left
  ·simp only [putAll, Act.put, List.setIfInBounds_toArray, List.set_cons_zero, List.set_cons_succ]
   rfl
  refine on_ 7 (none) (fun K hK => ?_)
  have hs11 : w9.cell? ⟨gb149, 0, none⟩ = some (.string (⟨#[]⟩ : ByteArray)) := (blk_cell BK149.out 0).trans rfl
  have hfs11 := blk_frozen BK149.out 0
  have hns11_0 := NB144_149.out
  have hns11_1 := NB145_149.out
  have hms11_0 := NB149_144.out
  have hms11_1 := NB149_145.out
  have hs12 : w9.cell? ⟨gb149, 1, none⟩ = some (.slice none 0 0) := (blk_cell BK149.out 1).trans rfl
  have hfs12 := blk_frozen BK149.out 1
  have hns12_0 := NB144_149.out
  have hns12_1 := NB145_149.out
  have hms12_0 := NB149_144.out
  have hms12_1 := NB149_145.out
  have hs13 : w9.cell? ⟨gb149, 2, none⟩ = some (.slice none 0 0) := (blk_cell BK149.out 2).trans rfl
  have hfs13 := blk_frozen BK149.out 2
  have hns13_0 := NB144_149.out
  have hns13_1 := NB145_149.out
  have hms13_0 := NB149_144.out
  have hms13_1 := NB149_145.out
  refine skip_ (w1 := ?_) (by rfl) rfl ?_ ?_
  rotate_left
  ·go_simp
   rfl
  refine hK.out _ _ ⟨((cell_far (p := ⟨gb149, _, none⟩) NB144_149.out _).trans (((cell_far (p := ⟨gb149, _, none⟩) NB144_149.out _).trans (((cell_far (p := ⟨gb149, _, none⟩) NB144_149.out _).trans (hHeld.1)))))), ((cell_far (p := ⟨gb149, _, none⟩) NB144_149.out _).trans (((cell_far (p := ⟨gb149, _, none⟩) NB144_149.out _).trans (((cell_far (p := ⟨gb149, _, none⟩) NB144_149.out _).trans (hHeld.2.1)))))), ((cell_far (p := ⟨gb149, _, none⟩) NB144_149.out _).trans (((cell_far (p := ⟨gb149, _, none⟩) NB144_149.out _).trans (((cell_far (p := ⟨gb149, _, none⟩) NB144_149.out _).trans (hHeld.2.2))))))⟩ (fun hHeld => ?_)
  clear hK K
  refine done_ (done_of HT_.out (by kernel_rfl)) ?_
  have hnb14 := NB144_145.out
  have hnc14 := NB145_144.out
  have hnb15 := NB144_149.out
  have hnc15 := NB149_144.out
  have hcz16_0 : w9.cell? ⟨gb144, 0, none⟩ = some (.string a0_0) := (blk_cell BK144.out 0).trans rfl
  have hcz16_1 : w9.cell? ⟨gb144, 1, none⟩ = some (.slice A0_1 l0_1.length c0_1) := (blk_cell BK144.out 1).trans rfl
  have hcz16_2 : w9.cell? ⟨gb144, 2, none⟩ = some (.slice A0_2 l0_2.length c0_2) := (blk_cell BK144.out 2).trans rfl
  have hfz16_0 := blk_frozen BK144.out 0
  have hfz16_1 := blk_frozen BK144.out 1
  have hfz16_2 := blk_frozen BK144.out 2
  try go_wp2
  go_loopg [15] k (fun kq v15 w' => ∃ (x15_1 : Int) (x150002_1 : List (S27)) (u150002 : Value), v15 = .int .i64 x15_1 ∧ Aside0 (anaphora_clone.l0 kq l0_2 (l0_2.length : Int) x15_1 a0_0 y146 x150002_1 = some (r1, r2, r3)) ∧ Aside0 (kq ≤ k) ∧ Aside0 (Kd.R (Kd.int .i64) 3 w' w.heap.size (fun _ => True) (.slice Ao10 y146.length co10) y146) ∧ Aside0 (Kd.R k27 27 w' w.heap.size (fun k_ => some k_ ≠ ((.slice Ao10 y146.length co10) : Value).ownBlock ∧ k_ ≠ gb144 ∧ k_ ≠ gb145 ∧ k_ ≠ gb149) u150002 x150002_1) ∧ Aside0 (w'.heap[gb144]? = some (.cells #[.string a0_0, (.slice A0_1 l0_1.length c0_1), (.slice A0_2 l0_2.length c0_2)] 27 (0, 0))) ∧ Aside0 (w'.heap[gb145]? = some (.cells #[.string (⟨#[]⟩ : ByteArray), (.slice none 0 0), (.slice none 0 0)] 27 (0, 0))) ∧ Aside0 (w'.heap[gb149]? = some (.cells #[.string a0_0, (.slice Ao10 y146.length co10), u150002] 27 (0, 0))) ∧ Aside0 (Below w.heap.size w w'))
  case atStart => exact ⟨(0), (([] : List (S27))), (.slice none 0 0), fi_, H', ⟨Nat.le_refl _⟩, ⟨by (with_reducible repeat (first | apply Kd.R_alloc | apply Kd.R_drewN | apply Kd.R_drew)); exact Kd.R_mono (Kd.R_far (p := ⟨gb149, 2, none⟩) (Kd.R_far (p := ⟨gb149, 1, none⟩) (Kd.R_far (p := ⟨gb149, 0, none⟩) (Kd.R_types HO148.out BK149.out (by decide)) (fun _ hk => hk.2) (.string a0_0)) (fun _ hk => hk.2) (.slice Ao10 y146.length co10)) (fun _ hk => hk.2) (.slice none 0 0)) (fun _ hk => trivial)⟩, ⟨by first | exact Kd.R_nil _ _ _ _ _ | exact Kd.N_nil _ _ _ _ _ | exact Kd.V_nil _ _ _ _ _ | exact Kd.Q_nil _ _ _ _ _ | exact Kd.S_nil _ _ _ _ _⟩, ⟨by (with_reducible repeat (first | refine blk_drewN ?_ _ | refine blk_drew ?_ | refine blk_alloc ?_ _)); refine blk_far ?_ NB144_149.out _; (with_reducible repeat (first | refine blk_drewN ?_ _ | refine blk_drew ?_ | refine blk_alloc ?_ _)); refine blk_far ?_ NB144_149.out _; (with_reducible repeat (first | refine blk_drewN ?_ _ | refine blk_drew ?_ | refine blk_alloc ?_ _)); refine blk_far ?_ NB144_149.out _; (with_reducible repeat (first | refine blk_drewN ?_ _ | refine blk_drew ?_ | refine blk_alloc ?_ _)); exact BK144.out⟩, ⟨by (with_reducible repeat (first | refine blk_drewN ?_ _ | refine blk_drew ?_ | refine blk_alloc ?_ _)); refine blk_far ?_ NB145_149.out _; (with_reducible repeat (first | refine blk_drewN ?_ _ | refine blk_drew ?_ | refine blk_alloc ?_ _)); refine blk_far ?_ NB145_149.out _; (with_reducible repeat (first | refine blk_drewN ?_ _ | refine blk_drew ?_ | refine blk_alloc ?_ _)); refine blk_far ?_ NB145_149.out _; (with_reducible repeat (first | refine blk_drewN ?_ _ | refine blk_drew ?_ | refine blk_alloc ?_ _)); exact BK145.out⟩, ⟨by (with_reducible repeat (first | refine blk_drewN ?_ _ | refine blk_drew ?_ | refine blk_alloc ?_ _)); refine blk_put (cs := #[.string a0_0, .slice Ao10 y146.length co10, .slice none 0 0]) ?_ 2 _ rfl; (with_reducible repeat (first | refine blk_drewN ?_ _ | refine blk_drew ?_ | refine blk_alloc ?_ _)); refine blk_put (cs := #[.string a0_0, .slice none 0 0, .slice none 0 0]) ?_ 1 _ rfl; (with_reducible repeat (first | refine blk_drewN ?_ _ | refine blk_drew ?_ | refine blk_alloc ?_ _)); refine blk_put (cs := #[.string (⟨#[]⟩ : ByteArray), .slice none 0 0, .slice none 0 0]) ?_ 0 _ rfl; (with_reducible repeat (first | refine blk_drewN ?_ _ | refine blk_drew ?_ | refine blk_alloc ?_ _)); exact BK149.out⟩, ⟨be3_ HB GE144 GE145 GE149⟩⟩
  case round =>
   clear H'
   try clear c1
   try clear c2
   try clear p2
   try clear c3
   try clear c14
   try clear c15
   try clear hcz16_0
   try clear hcz16_1
   try clear hcz16_2
   try clear hfz16_0
   try clear hfz16_1
   try clear hfz16_2
   obtain ⟨x15_1, x150002_1, u150002, rfl, HA, HK1, HO_150001, HO_150002, BK144, BK145, BK149, HB⟩ := hrel
   cases gk with
   | zero => exact absurd HA.out (by simp [anaphora_clone.l0])
   | succ k1 =>
    have H := HA.out
    clear HA
    simp only [anaphora_clone.l0] at H
    by_cases c17 : x15_1 < (l0_2.length : Int)
    ·rw [if_pos c17] at H
     have c17b0 : decide (x15_1 < (l0_2.length : Int)) = true := decide_eq_true c17
     clear c17
     by_cases c18 : 0 ≤ x15_1
     ·rw [if_pos c18] at H
      have c18b0 : decide (0 ≤ x15_1) = true := decide_eq_true c18
      clear c18
      by_cases c19 : x15_1 < (l0_2.length : Int)
      ·rw [if_pos c19] at H
       have c19b0 : decide (x15_1 < (l0_2.length : Int)) = true := decide_eq_true c19
       clear c19
       replace H := Option.bind_eq_some_iff.mp H
       obtain ⟨⟨t152, t153, t156⟩, A200, H⟩ := H
       replace H : (if x150002_1.length < 2199023255552 then (anaphora_clone.l0 k1 l0_2 (l0_2.length : Int) (wrap64 (x15_1 + 1)) a0_0 y146 (x150002_1 ++ [(⟨t152, t153, t156⟩ : S27)])) else (none)) = some (r1, r2, r3) := H
       have A20 := Aside0.mk A200
       clear A200
       by_cases c21 : x150002_1.length < 2199023255552
       ·rw [if_pos c21] at H
        have LMc21 := Aside0.mk c21
        clear c21
        obtain ⟨y159, hy159⟩ : ∃ y_ : List (S27), y_ = (x150002_1 ++ [(⟨t152, t153, t156⟩ : S27)]) := ⟨_, rfl⟩
        replace H : (anaphora_clone.l0 k1 l0_2 (l0_2.length : Int) (wrap64 (x15_1 + 1)) a0_0 y146 y159) = some (r1, r2, r3) := by first | (rw [hy159]; with_reducible exact H) | (have H2_ := (Option.bind_some _ _).symm.trans H; rw [hy159]; with_reducible exact H2_) | (have H2_ := (Option.bind_some _ _).symm.trans H; with_reducible exact H2_) | with_reducible exact H | (rw [hy159]; exact H) | exact H
        have Ny159 := Aside0.mk hy159
        clear hy159
        have H' := Aside0.mk H
        clear H
        have p150 : 0 ≤ (x15_1 : Int) := of_decide_eq_true (by first | (with_reducible assumption) | assumption)
        have q150 : x15_1 < (l0_2.length : Int) := of_decide_eq_true (by first | (with_reducible assumption) | assumption)
        obtain ⟨ad150, A150_1, c150_1, A150_2, c150_2, e150, hx150_0, hx150_1, hx150_2, hl150_1, hi150_1, hl150_2, hi150_2⟩ := at_T27 HR0_2.out x15_1 p150 q150
        cases e150
        replace hx150_0 := (HB.out.cell (World.block_lt_of_cell? w _ hx150_0)).trans hx150_0
        replace hx150_1 := (HB.out.cell (World.block_lt_of_cell? w _ hx150_1)).trans hx150_1
        replace hx150_2 := (HB.out.cell (World.block_lt_of_cell? w _ hx150_2)).trans hx150_2
        have HR150_1 := Aside0.mk hi150_1
        have HC150_1 := Aside0.mk hl150_1
        clear hi150_1 hl150_1
        have HR150_2 := Aside0.mk hi150_2
        have HC150_2 := Aside0.mk hl150_2
        clear hi150_2 hl150_2
        replace p150 := eq_true p150
        replace q150 := eq_true q150
        try go_wp2_with (first | ((with_reducible refine gate_dst (N := 5) rfl ?_); refine box_event ?hg (N := 5) ?hd (cs := #[.string (⟨#[]⟩ : ByteArray), .slice none 0 0, .slice none 0 0]) (t := 27) ?hr ?_; (case hd => rfl); (case hg => rfl); (case hr => first | (go_simp; done) | (go_simp; rfl)); intro gb151 hg w22 hbox hb; have n0_ := Aside0.mk (Kd.R_below (rq_ HO_150001) hb); have n1_ := Aside0.mk (Kd.R_below (Kd.R_elderB (rq_ HO_150002) gb151 (Nat.le_of_eq hg.symm)) hb); have n2_ := Aside0.mk (blk_below (g := gb144) (o := .cells #[.string a0_0, .slice A0_1 l0_1.length c0_1, .slice (some ad150) l0_2.length c0_2] 27 (0, 0)) (bq_ BK144) hb); have n3_ := Aside0.mk (blk_below (g := gb145) (o := .cells #[.string (⟨#[]⟩ : ByteArray), .slice none 0 0, .slice none 0 0] 27 (0, 0)) (bq_ BK145) hb); have n4_ := Aside0.mk (blk_below (g := gb149) (o := .cells #[.string a0_0, .slice Ao10 y146.length co10, u150002] 27 (0, 0)) (bq_ BK149) hb); have n5_ := Aside0.mk (below_step (be3_ HB GE144 GE145 GE149) hb); have n6_ := Aside0.mk (hbox); have n7_ := Aside0.mk ((by rw [hg]; exact (below_size (be3_ HB GE144 GE145 GE149)) : w.heap.size ≤ gb151)); have n8_ := Aside0.mk ((by rw [hg]; exact (below_size (be3_ HB GE144 GE145 GE149)) : w.heap.size ≤ gb151)); have n9_ := Aside0.mk ((by rw [hg]; exact Nat.ne_of_lt (blk_lt (g := gb144) (o := .cells #[.string a0_0, .slice A0_1 l0_1.length c0_1, .slice (some ad150) l0_2.length c0_2] 27 (0, 0)) (bq_ BK144)) : gb144 ≠ gb151)); have n10_ := Aside0.mk ((by rw [hg]; exact Nat.ne_of_gt (blk_lt (g := gb144) (o := .cells #[.string a0_0, .slice A0_1 l0_1.length c0_1, .slice (some ad150) l0_2.length c0_2] 27 (0, 0)) (bq_ BK144)) : gb151 ≠ gb144)); have n11_ := Aside0.mk ((by rw [hg]; exact Nat.ne_of_lt (blk_lt (g := gb145) (o := .cells #[.string (⟨#[]⟩ : ByteArray), .slice none 0 0, .slice none 0 0] 27 (0, 0)) (bq_ BK145)) : gb145 ≠ gb151)); have n12_ := Aside0.mk ((by rw [hg]; exact Nat.ne_of_gt (blk_lt (g := gb145) (o := .cells #[.string (⟨#[]⟩ : ByteArray), .slice none 0 0, .slice none 0 0] 27 (0, 0)) (bq_ BK145)) : gb151 ≠ gb145)); have n13_ := Aside0.mk ((by rw [hg]; exact Nat.ne_of_lt (blk_lt (g := gb149) (o := .cells #[.string a0_0, .slice Ao10 y146.length co10, u150002] 27 (0, 0)) (bq_ BK149)) : gb149 ≠ gb151)); have n14_ := Aside0.mk ((by rw [hg]; exact Nat.ne_of_gt (blk_lt (g := gb149) (o := .cells #[.string a0_0, .slice Ao10 y146.length co10, u150002] 27 (0, 0)) (bq_ BK149)) : gb151 ≠ gb149)); clear HO_150001; clear HO_150002; clear BK144; clear BK145; clear BK149; clear HB; have HO_150001 := n0_; have HO_150002 := n1_; have BK144 := n2_; have BK145 := n3_; have BK149 := n4_; have HB := n5_; have BK151 := n6_; have GW151 := n7_; have GE151 := n8_; have NB144_151 := n9_; have NB151_144 := n10_; have NB145_151 := n11_; have NB151_145 := n12_; have NB149_151 := n13_; have NB151_149 := n14_; clear n0_ n1_ n2_ n3_ n4_ n5_ n6_ n7_ n8_ n9_ n10_ n11_ n12_ n13_ n14_; clear hb hbox hg; have hnb23 := NB151_144.out; have hnc23 := NB144_151.out; have hnb24 := NB151_145.out; have hnc24 := NB145_151.out; have hnb25 := NB151_149.out; have hnc25 := NB149_151.out; have hcz26_0 : w22.cell? ⟨gb151, 0, none⟩ = some (.string (⟨#[]⟩ : ByteArray)) := (blk_cell BK151.out 0).trans rfl; have hcz26_1 : w22.cell? ⟨gb151, 1, none⟩ = some (.slice none 0 0) := (blk_cell BK151.out 1).trans rfl; have hcz26_2 : w22.cell? ⟨gb151, 2, none⟩ = some (.slice none 0 0) := (blk_cell BK151.out 2).trans rfl; have hfz26_0 := blk_frozen BK151.out 0; have hfz26_1 := blk_frozen BK151.out 1; have hfz26_2 := blk_frozen BK151.out 2))
        have n0_ : Aside0 (Kd.R (Kd.int .i64) 3 (((w22.setCell ⟨gb151, 0, none⟩ (.string ((rd_T27 l0_2 x15_1).f0))).setCell ⟨gb151, 1, none⟩ (.slice A150_1 ((rd_T27 l0_2 x15_1).f1).length c150_1)).setCell ⟨gb151, 2, none⟩ (.slice A150_2 ((rd_T27 l0_2 x15_1).f2).length c150_2)) w.heap.size (fun _ => True) (.slice Ao10 y146.length co10) y146) := ⟨by (with_reducible repeat (first | apply Kd.R_alloc | apply Kd.R_drewN | apply Kd.R_drew)); exact Kd.R_mono (Kd.R_far (p := ⟨gb151, 2, none⟩) (Kd.R_far (p := ⟨gb151, 1, none⟩) (Kd.R_far (p := ⟨gb151, 0, none⟩) (Kd.R_types HO_150001.out BK151.out (by decide)) (fun _ hk => hk.2) (.string ((rd_T27 l0_2 x15_1).f0))) (fun _ hk => hk.2) (.slice A150_1 ((rd_T27 l0_2 x15_1).f1).length c150_1)) (fun _ hk => hk.2) (.slice A150_2 ((rd_T27 l0_2 x15_1).f2).length c150_2)) (fun _ hk => trivial)⟩
        have n1_ : Aside0 (Kd.R k27 27 (((w22.setCell ⟨gb151, 0, none⟩ (.string ((rd_T27 l0_2 x15_1).f0))).setCell ⟨gb151, 1, none⟩ (.slice A150_1 ((rd_T27 l0_2 x15_1).f1).length c150_1)).setCell ⟨gb151, 2, none⟩ (.slice A150_2 ((rd_T27 l0_2 x15_1).f2).length c150_2)) w.heap.size (fun k_ => some k_ ≠ (.slice Ao10 y146.length co10 : Value).ownBlock ∧ k_ ≠ gb144 ∧ k_ ≠ gb145 ∧ k_ ≠ gb149 ∧ k_ ≠ gb151) u150002 x150002_1) := ⟨by (with_reducible repeat (first | apply Kd.R_alloc | apply Kd.R_drewN | apply Kd.R_drew)); exact Kd.R_mono (Kd.R_far (p := ⟨gb151, 2, none⟩) (Kd.R_far (p := ⟨gb151, 1, none⟩) (Kd.R_far (p := ⟨gb151, 0, none⟩) (Kd.R_mono HO_150002.out (fun k_ hk => (⟨hk, hk.2⟩ : _ ∧ k_ ≠ gb151))) (fun _ hk => hk.2) (.string ((rd_T27 l0_2 x15_1).f0))) (fun _ hk => hk.2) (.slice A150_1 ((rd_T27 l0_2 x15_1).f1).length c150_1)) (fun _ hk => hk.2) (.slice A150_2 ((rd_T27 l0_2 x15_1).f2).length c150_2)) (fun _ hk => ⟨hk.1.1.1, ⟨hk.1.1.2.1, ⟨hk.1.1.2.2.1, ⟨hk.1.1.2.2.2, hk.1.2⟩⟩⟩⟩)⟩
        have n2_ : Aside0 ((((w22.setCell ⟨gb151, 0, none⟩ (.string ((rd_T27 l0_2 x15_1).f0))).setCell ⟨gb151, 1, none⟩ (.slice A150_1 ((rd_T27 l0_2 x15_1).f1).length c150_1)).setCell ⟨gb151, 2, none⟩ (.slice A150_2 ((rd_T27 l0_2 x15_1).f2).length c150_2)).heap[gb144]? = some (.cells #[.string a0_0, .slice A0_1 l0_1.length c0_1, .slice (some ad150) l0_2.length c0_2] 27 (0, 0))) := ⟨by (with_reducible repeat (first | refine blk_drewN ?_ _ | refine blk_drew ?_ | refine blk_alloc ?_ _)); refine blk_far ?_ NB144_151.out _; (with_reducible repeat (first | refine blk_drewN ?_ _ | refine blk_drew ?_ | refine blk_alloc ?_ _)); refine blk_far ?_ NB144_151.out _; (with_reducible repeat (first | refine blk_drewN ?_ _ | refine blk_drew ?_ | refine blk_alloc ?_ _)); refine blk_far ?_ NB144_151.out _; (with_reducible repeat (first | refine blk_drewN ?_ _ | refine blk_drew ?_ | refine blk_alloc ?_ _)); exact BK144.out⟩
        have n3_ : Aside0 ((((w22.setCell ⟨gb151, 0, none⟩ (.string ((rd_T27 l0_2 x15_1).f0))).setCell ⟨gb151, 1, none⟩ (.slice A150_1 ((rd_T27 l0_2 x15_1).f1).length c150_1)).setCell ⟨gb151, 2, none⟩ (.slice A150_2 ((rd_T27 l0_2 x15_1).f2).length c150_2)).heap[gb145]? = some (.cells #[.string (⟨#[]⟩ : ByteArray), .slice none 0 0, .slice none 0 0] 27 (0, 0))) := ⟨by (with_reducible repeat (first | refine blk_drewN ?_ _ | refine blk_drew ?_ | refine blk_alloc ?_ _)); refine blk_far ?_ NB145_151.out _; (with_reducible repeat (first | refine blk_drewN ?_ _ | refine blk_drew ?_ | refine blk_alloc ?_ _)); refine blk_far ?_ NB145_151.out _; (with_reducible repeat (first | refine blk_drewN ?_ _ | refine blk_drew ?_ | refine blk_alloc ?_ _)); refine blk_far ?_ NB145_151.out _; (with_reducible repeat (first | refine blk_drewN ?_ _ | refine blk_drew ?_ | refine blk_alloc ?_ _)); exact BK145.out⟩
        have n4_ : Aside0 ((((w22.setCell ⟨gb151, 0, none⟩ (.string ((rd_T27 l0_2 x15_1).f0))).setCell ⟨gb151, 1, none⟩ (.slice A150_1 ((rd_T27 l0_2 x15_1).f1).length c150_1)).setCell ⟨gb151, 2, none⟩ (.slice A150_2 ((rd_T27 l0_2 x15_1).f2).length c150_2)).heap[gb149]? = some (.cells #[.string a0_0, .slice Ao10 y146.length co10, u150002] 27 (0, 0))) := ⟨by (with_reducible repeat (first | refine blk_drewN ?_ _ | refine blk_drew ?_ | refine blk_alloc ?_ _)); refine blk_far ?_ NB149_151.out _; (with_reducible repeat (first | refine blk_drewN ?_ _ | refine blk_drew ?_ | refine blk_alloc ?_ _)); refine blk_far ?_ NB149_151.out _; (with_reducible repeat (first | refine blk_drewN ?_ _ | refine blk_drew ?_ | refine blk_alloc ?_ _)); refine blk_far ?_ NB149_151.out _; (with_reducible repeat (first | refine blk_drewN ?_ _ | refine blk_drew ?_ | refine blk_alloc ?_ _)); exact BK149.out⟩
        have n5_ : Aside0 ((((w22.setCell ⟨gb151, 0, none⟩ (.string ((rd_T27 l0_2 x15_1).f0))).setCell ⟨gb151, 1, none⟩ (.slice A150_1 ((rd_T27 l0_2 x15_1).f1).length c150_1)).setCell ⟨gb151, 2, none⟩ (.slice A150_2 ((rd_T27 l0_2 x15_1).f2).length c150_2)).heap[gb151]? = some (.cells #[.string ((rd_T27 l0_2 x15_1).f0), .slice A150_1 ((rd_T27 l0_2 x15_1).f1).length c150_1, .slice A150_2 ((rd_T27 l0_2 x15_1).f2).length c150_2] 27 (0, 0))) := ⟨by (with_reducible repeat (first | refine blk_drewN ?_ _ | refine blk_drew ?_ | refine blk_alloc ?_ _)); refine blk_put (cs := #[.string ((rd_T27 l0_2 x15_1).f0), .slice A150_1 ((rd_T27 l0_2 x15_1).f1).length c150_1, .slice none 0 0]) ?_ 2 _ rfl; (with_reducible repeat (first | refine blk_drewN ?_ _ | refine blk_drew ?_ | refine blk_alloc ?_ _)); refine blk_put (cs := #[.string ((rd_T27 l0_2 x15_1).f0), .slice none 0 0, .slice none 0 0]) ?_ 1 _ rfl; (with_reducible repeat (first | refine blk_drewN ?_ _ | refine blk_drew ?_ | refine blk_alloc ?_ _)); refine blk_put (cs := #[.string (⟨#[]⟩ : ByteArray), .slice none 0 0, .slice none 0 0]) ?_ 0 _ rfl; (with_reducible repeat (first | refine blk_drewN ?_ _ | refine blk_drew ?_ | refine blk_alloc ?_ _)); exact BK151.out⟩
        have n6_ : Aside0 (Below w.heap.size w (((w22.setCell ⟨gb151, 0, none⟩ (.string ((rd_T27 l0_2 x15_1).f0))).setCell ⟨gb151, 1, none⟩ (.slice A150_1 ((rd_T27 l0_2 x15_1).f1).length c150_1)).setCell ⟨gb151, 2, none⟩ (.slice A150_2 ((rd_T27 l0_2 x15_1).f2).length c150_2))) := ⟨be4_ HB GE144 GE145 GE149 GE151⟩
        (try clear HO_150001)
        (try clear HO_150002)
        (try clear BK144)
        (try clear BK145)
        (try clear BK149)
        (try clear BK151)
        (try clear HB)
        generalize (((w22.setCell ⟨gb151, 0, none⟩ (.string ((rd_T27 l0_2 x15_1).f0))).setCell ⟨gb151, 1, none⟩ (.slice A150_1 ((rd_T27 l0_2 x15_1).f1).length c150_1)).setCell ⟨gb151, 2, none⟩ (.slice A150_2 ((rd_T27 l0_2 x15_1).f2).length c150_2)) = w27 at n0_ n1_ n2_ n3_ n4_ n5_ n6_ ⊢
        have HO_150001 := n0_
        have HO_150002 := n1_
        have BK144 := n2_
        have BK145 := n3_
        have BK149 := n4_
        have BK151 := n5_
        have HB := n6_
        clear n0_ n1_ n2_ n3_ n4_ n5_ n6_
        have n0_ := Aside0.mk (Kd.R_drew HO_150001.out)
        have n1_ := Aside0.mk (Kd.R_drew HO_150002.out)
        have n2_ := Aside0.mk (blk_drew BK144.out)
        have n3_ := Aside0.mk (blk_drew BK145.out)
        have n4_ := Aside0.mk (blk_drew BK149.out)
        have n5_ := Aside0.mk (blk_drew BK151.out)
        have n6_ := Aside0.mk (below_drew1 HB.out)
        clear HO_150001
        clear HO_150002
        clear BK144
        clear BK145
        clear BK149
        clear BK151
        clear HB
        have HO_150001 := n0_
        have HO_150002 := n1_
        have BK144 := n2_
        have BK145 := n3_
        have BK149 := n4_
        have BK151 := n5_
        have HB := n6_
        clear n0_ n1_ n2_ n3_ n4_ n5_ n6_
        refine start_ (n := 8) (S := fun w' => w'.cell? ⟨gb149, 0, none⟩ = some (.string a0_0) ∧ w'.cell? ⟨gb149, 1, none⟩ = some (.slice Ao10 y146.length co10) ∧ w'.cell? ⟨gb149, 2, none⟩ = some (u150002) ∧ w'.cell? ⟨gb151, 0, none⟩ = some (.string ((rd_T27 l0_2 x15_1).f0)) ∧ w'.cell? ⟨gb151, 1, none⟩ = some (.slice A150_1 ((rd_T27 l0_2 x15_1).f1).length c150_1) ∧ w'.cell? ⟨gb151, 2, none⟩ = some (.slice A150_2 ((rd_T27 l0_2 x15_1).f2).length c150_2)) (ds := [7]) #[false, false, false, false, false, false, false, false] (by kernel_rfl) rfl rfl ⟨(blk_cell BK149.out 0).trans rfl, (blk_cell BK149.out 1).trans rfl, (blk_cell BK149.out 2).trans rfl, (blk_cell BK151.out 0).trans rfl, (blk_cell BK151.out 1).trans rfl, (blk_cell BK151.out 2).trans rfl⟩ (fun hHeld => ?_); refine with_tabW anaphora_clone.tab5 anaphora_clone.bits5 (fun HT_ HW_ => ?_)
        generalize w27.drew = w28 at HO_150001 HO_150002 BK144 BK145 BK149 BK151 HB hHeld ⊢
        refine pu_ 0 (some 19) ?_
        refine tk_ 1 (some 20) hHeld ?_
        refine tk_ 2 (some 21) hHeld ?_
        refine on_ 3 (some 22) (fun K hK => ?_)
        refine goes_ Try.func38 (by kernel_rfl) rfl #[.agg #[.string ((rd_T27 l0_2 x15_1).f0), .slice A150_1 ((rd_T27 l0_2 x15_1).f1).length c150_1, .slice A150_2 ((rd_T27 l0_2 x15_1).f2).length c150_2]] (by rfl) rfl rfl (by (try simp only [List.map_toArray, List.map_cons, List.map_nil]); first | done | rfl | (simp only [List.length_drop, List.length_take]; rfl)) ?_
        with_reducible refine (ih k1 (by have := HK1.out; omega) ((rd_T27 l0_2 x15_1).f0) _ _ ((rd_T27 l0_2 x15_1).f1) _ _ ((rd_T27 l0_2 x15_1).f2) t152 t153 t156 _ ?side1 ?side2 ?side3 ?side4 A20.out).mono ?_
        (case side1 => exact cs_ (Kd.C_below HR150_1.out HB.out))
        (case side2 => exact HC150_1.out)
        (case side3 => exact cs_ (Kd.C_below HR150_2.out HB.out))
        (case side4 => exact HC150_2.out)
        rintro e w29 ⟨v154, v157, rfl, ho0, ho1, hb⟩
        refine ⟨_, rfl, ?_⟩
        have n0_ := Aside0.mk (Kd.R_elder' (rq_ HO_150001) (Kd.R_base ho0) hb)
        have n1_ := Aside0.mk (Kd.R_mono (Kd.R_told (Kd.R_told (Kd.R_old (rq_ HO_150002) hb) (Kd.R_base ho0)) (Kd.R_base ho1)) (fun _ h_ => h_.1))
        have n2_ := Aside0.mk (Kd.R_lower (Kd.R_new' ho0 (Kd.R_lt (rq_ HO_150001))) (below_size (be4_ HB GE144 GE145 GE149 GE151)))
        have n3_ := Aside0.mk (Kd.R_lower (Kd.R_newB (Kd.R_newB (Kd.R_newB (Kd.R_newB (Kd.R_new' (Kd.R_new' ho1 (Kd.R_lt (rq_ HO_150001))) (Kd.R_lt (rq_ HO_150002))) (g := gb144) (o := .cells #[.string a0_0, .slice A0_1 l0_1.length c0_1, .slice (some ad150) l0_2.length c0_2] 27 (0, 0)) (bq_ BK144)) (g := gb145) (o := .cells #[.string (⟨#[]⟩ : ByteArray), .slice none 0 0, .slice none 0 0] 27 (0, 0)) (bq_ BK145)) (g := gb149) (o := .cells #[.string a0_0, .slice Ao10 y146.length co10, u150002] 27 (0, 0)) (bq_ BK149)) (g := gb151) (o := .cells #[.string ((rd_T27 l0_2 x15_1).f0), .slice A150_1 ((rd_T27 l0_2 x15_1).f1).length c150_1, .slice A150_2 ((rd_T27 l0_2 x15_1).f2).length c150_2] 27 (0, 0)) (bq_ BK151)) (below_size (be4_ HB GE144 GE145 GE149 GE151)))
        have n4_ := Aside0.mk (blk_below (g := gb144) (o := .cells #[.string a0_0, .slice A0_1 l0_1.length c0_1, .slice (some ad150) l0_2.length c0_2] 27 (0, 0)) (bq_ BK144) hb)
        have n5_ := Aside0.mk (blk_below (g := gb145) (o := .cells #[.string (⟨#[]⟩ : ByteArray), .slice none 0 0, .slice none 0 0] 27 (0, 0)) (bq_ BK145) hb)
        have n6_ := Aside0.mk (blk_below (g := gb149) (o := .cells #[.string a0_0, .slice Ao10 y146.length co10, u150002] 27 (0, 0)) (bq_ BK149) hb)
        have n7_ := Aside0.mk (blk_below (g := gb151) (o := .cells #[.string ((rd_T27 l0_2 x15_1).f0), .slice A150_1 ((rd_T27 l0_2 x15_1).f1).length c150_1, .slice A150_2 ((rd_T27 l0_2 x15_1).f2).length c150_2] 27 (0, 0)) (bq_ BK151) hb)
        have n8_ := Aside0.mk (below_step (be4_ HB GE144 GE145 GE149 GE151) hb)
        clear HO_150001
        clear HO_150002
        clear BK144
        clear BK145
        clear BK149
        clear BK151
        clear HB
        have HO_150001 := n0_
        have HO_150002 := n1_
        have HO155 := n2_
        have HO158 := n3_
        have BK144 := n4_
        have BK145 := n5_
        have BK149 := n6_
        have BK151 := n7_
        have HB := n8_
        clear n0_ n1_ n2_ n3_ n4_ n5_ n6_ n7_ n8_
        (try clear hb)
        (try clear hb2)
        (try clear hk)
        (try clear hi)
        (try clear ho0)
        (try clear ho1)
        obtain ⟨Ao31, co31, eo31⟩ := Kd.R_slice HO155.out
        (first | subst eo31 | (injection eo31 with f1_ f2_ f3_; have f4_ := f1_.symm; have f5_ := f3_.symm; clear f1_ f2_ f3_; subst f4_; subst f5_))
        obtain ⟨Ao32, co32, eo32⟩ := Kd.R_slice HO158.out
        (first | subst eo32 | (injection eo32 with f1_ f2_ f3_; have f4_ := f1_.symm; have f5_ := f3_.symm; clear f1_ f2_ f3_; subst f4_; subst f5_))
        refine hK.out _ _ ⟨(blk_cell BK149.out 0).trans rfl, (blk_cell BK149.out 1).trans rfl, (blk_cell BK149.out 2).trans rfl, (blk_cell BK151.out 0).trans rfl, (blk_cell BK151.out 1).trans rfl, (blk_cell BK151.out 2).trans rfl⟩ (fun hHeld => ?_)
        clear hK K
        refine no_ (N := some 22) ?_
        refine on_ 4 (some 23) (fun K hK => ?_)
        refine value_ (w1 := ?_) (v := ?_) (by rfl) rfl ?_ ?_
        rotate_left 2
        ·go_simp
         constructor
         ·rfl
         ·rfl
        refine hK.out _ _ ⟨(blk_cell (blk_alloc BK149.out _) 0).trans rfl, (blk_cell (blk_alloc BK149.out _) 1).trans rfl, (blk_cell (blk_alloc BK149.out _) 2).trans rfl, (blk_cell (blk_alloc BK151.out _) 0).trans rfl, (blk_cell (blk_alloc BK151.out _) 1).trans rfl, (blk_cell (blk_alloc BK151.out _) 2).trans rfl⟩ (fun hHeld => ?_)
        clear hK K
        refine no_ (N := some 23) ?_
        refine on_ 5 (some 24) (fun K hK => ?_)
        refine Kd.R_append_step k27 (w0 := w) w.heap.size (by rfl) (.tmp 20) (.tmp 23) 22 27 (.agg #[(.string ⟨#[]⟩), (.slice none 0 0), (.slice none 0 0)]) 64 rfl Try.underlying22 info27 rfl (by decide) (by omega) u150002 x150002_1 (⟨t152, t153, t156⟩ : S27) [.string t152, .slice Ao31 t153.length co31, .slice Ao32 t156.length co32] (fun k_ => some k_ ≠ (.slice Ao10 y146.length co10 : Value).ownBlock ∧ k_ ≠ gb144 ∧ k_ ≠ gb145 ∧ k_ ≠ gb149 ∧ k_ ≠ gb151) (fun k_ => ((fun k_ => some k_ ≠ (.slice Ao10 y146.length co10 : Value).ownBlock ∧ k_ ≠ gb144 ∧ k_ ≠ gb145 ∧ k_ ≠ gb149 ∧ k_ ≠ gb151)) k_ ∧ some k_ ≠ (u150002 : Value).ownBlock) rfl rfl ?aP (fun _ hk => hk) ?aF ?aO ?aB ?aS ?aL ?_
        (case aP => exact k27_mkM _ _ _ (⟨t152, t153, t156⟩ : S27) (Kd.R_mono (Kd.R_types (Kd.R_types (Kd.R_types (Kd.R_types (Kd.R_apart' (HO155.out) (Kd.R_typed HO_150002.out) (by decide)) BK144.out (by decide)) BK145.out (by decide)) BK149.out (by decide)) BK151.out (by decide)) (fun k_ hk => ⟨⟨hk.1.1.1.1.1.2, ⟨hk.1.1.1.2, ⟨hk.1.1.2, ⟨hk.1.2, hk.2⟩⟩⟩⟩, hk.1.1.1.1.2⟩)) (Kd.R_mono (HO158.out) (fun k_ hk => ⟨⟨hk.1.1.1.1.1.2, ⟨hk.1.1.1.2, ⟨hk.1.1.2, ⟨hk.1.2, hk.2⟩⟩⟩⟩, hk.1.1.1.1.2⟩)))
        (case aB => exact (be4_ HB GE144 GE145 GE149 GE151))
        (case aF => exact (fun k_ hk => ⟨Kd.fresh' (Kd.R_lt (rq_ HO_150001)) k_ hk, Kd.freshB (g := gb144) (o := .cells #[.string a0_0, .slice A0_1 l0_1.length c0_1, .slice (some ad150) l0_2.length c0_2] 27 (0, 0)) (bq_ BK144) k_ hk, Kd.freshB (g := gb145) (o := .cells #[.string (⟨#[]⟩ : ByteArray), .slice none 0 0, .slice none 0 0] 27 (0, 0)) (bq_ BK145) k_ hk, Kd.freshB (g := gb149) (o := .cells #[.string a0_0, .slice Ao10 y146.length co10, u150002] 27 (0, 0)) (bq_ BK149) k_ hk, Kd.freshB (g := gb151) (o := .cells #[.string ((rd_T27 l0_2 x15_1).f0), .slice A150_1 ((rd_T27 l0_2 x15_1).f1).length c150_1, .slice A150_2 ((rd_T27 l0_2 x15_1).f2).length c150_2] 27 (0, 0)) (bq_ BK151) k_ hk⟩))
        (case aO => exact (by (with_reducible repeat (first | apply Kd.R_alloc | apply Kd.R_drewN | apply Kd.R_drew)); exact Kd.R_mono HO_150002.out (fun _ hk => ⟨hk.1.1.1, ⟨hk.1.1.2.1, ⟨hk.1.1.2.2.1, ⟨hk.1.1.2.2.2.1, hk.1.1.2.2.2.2⟩⟩⟩⟩)))
        (case aS => exact (below_size (be4_ HB GE144 GE145 GE149 GE151)))
        (case aL => have := LMc21.out; omega)
        intro v160 w30 ho hb hg hat
        rw [← Ny159.out] at ho
        have n0_ := Aside0.mk (Kd.R_over' (rq_ HO_150001) (Kd.R_typed (rq_ HO_150002)) (by decide) hg)
        have n1_ := Aside0.mk (blk_grown (g := gb144) (o := .cells #[.string a0_0, .slice A0_1 l0_1.length c0_1, .slice (some ad150) l0_2.length c0_2] 27 (0, 0)) (bq_ BK144) hg (Kd.R_away HO_150002.out (fun _ hk => hk.1.1.2.1)))
        have n2_ := Aside0.mk (blk_grown (g := gb145) (o := .cells #[.string (⟨#[]⟩ : ByteArray), .slice none 0 0, .slice none 0 0] 27 (0, 0)) (bq_ BK145) hg (Kd.R_away HO_150002.out (fun _ hk => hk.1.1.2.2.1)))
        have n3_ := Aside0.mk (blk_grown (g := gb149) (o := .cells #[.string a0_0, .slice Ao10 y146.length co10, u150002] 27 (0, 0)) (bq_ BK149) hg (Kd.R_away HO_150002.out (fun _ hk => hk.1.1.2.2.2.1)))
        have n4_ := Aside0.mk (blk_grown (g := gb151) (o := .cells #[.string ((rd_T27 l0_2 x15_1).f0), .slice A150_1 ((rd_T27 l0_2 x15_1).f1).length c150_1, .slice A150_2 ((rd_T27 l0_2 x15_1).f2).length c150_2] 27 (0, 0)) (bq_ BK151) hg (Kd.R_away HO_150002.out (fun _ hk => hk.1.1.2.2.2.2)))
        have n5_ := Aside0.mk (hb)
        have n6_ := Aside0.mk (ho)
        clear HO_150001
        clear BK144
        clear BK145
        clear BK149
        clear BK151
        clear HB
        clear HO_150002
        clear HO155
        clear HO158
        have HO_150001 := n0_
        have BK144 := n1_
        have BK145 := n2_
        have BK149 := n3_
        have BK151 := n4_
        have HB := n5_
        have HO161 := n6_
        clear n0_ n1_ n2_ n3_ n4_ n5_ n6_
        clear ho hb hg hat
        obtain ⟨Ao33, co33, eo33⟩ := Kd.R_slice HO161.out
        (first | subst eo33 | (injection eo33 with f1_ f2_ f3_; have f4_ := f1_.symm; have f5_ := f3_.symm; clear f1_ f2_ f3_; subst f4_; subst f5_))
        refine hK.out _ _ ⟨(blk_cell BK149.out 0).trans rfl, (blk_cell BK149.out 1).trans rfl, (blk_cell BK149.out 2).trans rfl, (blk_cell BK151.out 0).trans rfl, (blk_cell BK151.out 1).trans rfl, (blk_cell BK151.out 2).trans rfl⟩ (fun hHeld => ?_)
        clear hK K
        refine no_ (N := some 24) ?_
        refine pu_ 6 (some 25) ?_
        refine la_ 7 (none) (fun K hK => ?_)
        have hs34 : w30.cell? ⟨gb149, 2, none⟩ = some (u150002) := (blk_cell BK149.out 2).trans rfl
        have hfs34 := blk_frozen BK149.out 2
        have hns34_0 := NB144_149.out
        have hns34_1 := NB145_149.out
        have hns34_3 := NB151_149.out
        have hms34_0 := NB149_144.out
        have hms34_1 := NB149_145.out
        have hms34_3 := NB149_151.out
        refine skip_ (w1 := ?_) (by rfl) rfl ?_ ?_
        rotate_left
        ·go_simp
         rfl
        refine hK.out _ _ ?_
        clear hK K
        refine done_ (done_of HT_.out (by kernel_rfl)) ?_
        try go_wp2
        go_roundg k1
        case measure => have := HK1.out; omega
        case rel => exact ⟨(wrap64 (x15_1 + 1)), (y159), (.slice Ao33 y159.length co33), fi_, H', ⟨by have := HK1.out; omega⟩, ⟨by (with_reducible repeat (first | apply Kd.R_alloc | apply Kd.R_drewN | apply Kd.R_drew)); exact Kd.R_mono (Kd.R_far (p := ⟨gb149, 2, none⟩) (Kd.R_types HO_150001.out BK149.out (by decide)) (fun _ hk => hk.2) (.slice Ao33 y159.length co33)) (fun _ hk => trivial)⟩, ⟨by (with_reducible repeat (first | apply Kd.R_alloc | apply Kd.R_drewN | apply Kd.R_drew)); exact Kd.R_mono (Kd.R_far (p := ⟨gb149, 2, none⟩) (Kd.R_mono HO161.out (fun k_ hk => (⟨hk, hk.2.2.2.1⟩ : _ ∧ k_ ≠ gb149))) (fun _ hk => hk.2) (.slice Ao33 y159.length co33)) (fun _ hk => ⟨hk.1.1, ⟨hk.1.2.1, ⟨hk.1.2.2.1, hk.1.2.2.2.1⟩⟩⟩)⟩, ⟨by (with_reducible repeat (first | refine blk_drewN ?_ _ | refine blk_drew ?_ | refine blk_alloc ?_ _)); refine blk_far ?_ NB144_149.out _; (with_reducible repeat (first | refine blk_drewN ?_ _ | refine blk_drew ?_ | refine blk_alloc ?_ _)); exact BK144.out⟩, ⟨by (with_reducible repeat (first | refine blk_drewN ?_ _ | refine blk_drew ?_ | refine blk_alloc ?_ _)); refine blk_far ?_ NB145_149.out _; (with_reducible repeat (first | refine blk_drewN ?_ _ | refine blk_drew ?_ | refine blk_alloc ?_ _)); exact BK145.out⟩, ⟨by (with_reducible repeat (first | refine blk_drewN ?_ _ | refine blk_drew ?_ | refine blk_alloc ?_ _)); refine blk_put (cs := #[.string a0_0, .slice Ao10 y146.length co10, u150002]) ?_ 2 _ rfl; (with_reducible repeat (first | refine blk_drewN ?_ _ | refine blk_drew ?_ | refine blk_alloc ?_ _)); exact BK149.out⟩, ⟨be4_ HB GE144 GE145 GE149 GE151⟩⟩
       ·rw [if_neg c21] at H
        exact absurd H (by simp)
      ·rw [if_neg c19] at H
       exact absurd H (by simp)
     ·rw [if_neg c18] at H
      exact absurd H (by simp)
    ·rw [if_neg c17] at H
     have c17b0 : decide (x15_1 < (l0_2.length : Int)) = false := decide_eq_false c17
     clear c17
     simp only [Option.some.injEq, Prod.mk.injEq] at H
     obtain ⟨rfl, rfl, rfl⟩ := H
     have hnb35 := NB149_144.out
     have hnc35 := NB144_149.out
     have hnb36 := NB149_145.out
     have hnc36 := NB145_149.out
     have hcz37_0 : wr.cell? ⟨gb149, 0, none⟩ = some (.string a0_0) := (blk_cell BK149.out 0).trans rfl
     have hcz37_1 : wr.cell? ⟨gb149, 1, none⟩ = some (.slice Ao10 y146.length co10) := (blk_cell BK149.out 1).trans rfl
     have hcz37_2 : wr.cell? ⟨gb149, 2, none⟩ = some (u150002) := (blk_cell BK149.out 2).trans rfl
     have hfz37_0 := blk_frozen BK149.out 0
     have hfz37_1 := blk_frozen BK149.out 1
     have hfz37_2 := blk_frozen BK149.out 2
     have hnb38 := NB145_144.out
     have hnc38 := NB144_145.out
     have hcz39_0 : wr.cell? ⟨gb145, 0, none⟩ = some (.string (⟨#[]⟩ : ByteArray)) := (blk_cell BK145.out 0).trans rfl
     have hcz39_1 : wr.cell? ⟨gb145, 1, none⟩ = some (.slice none 0 0) := (blk_cell BK145.out 1).trans rfl
     have hcz39_2 : wr.cell? ⟨gb145, 2, none⟩ = some (.slice none 0 0) := (blk_cell BK145.out 2).trans rfl
     have hfz39_0 := blk_frozen BK145.out 0
     have hfz39_1 := blk_frozen BK145.out 1
     have hfz39_2 := blk_frozen BK145.out 2
     obtain ⟨Ao40, co40, eo40⟩ := Kd.R_slice HO_150002.out
     subst eo40
     go_wp2
     refine bodyPost_ret (results_cell_row rfl _ _ gb145 27 #[.string a0_0, .slice Ao10 y146.length co10, .slice Ao40 x150002_1.length co40] (0, 0) _ rfl (by (with_reducible repeat (first | refine blk_drewN ?_ _ | refine blk_drew ?_ | refine blk_alloc ?_ _)); refine blk_put (cs := #[.string a0_0, .slice Ao10 y146.length co10, .slice none 0 0]) ?_ 2 _ rfl; (with_reducible repeat (first | refine blk_drewN ?_ _ | refine blk_drew ?_ | refine blk_alloc ?_ _)); refine blk_put (cs := #[.string a0_0, .slice none 0 0, .slice none 0 0]) ?_ 1 _ rfl; (with_reducible repeat (first | refine blk_drewN ?_ _ | refine blk_drew ?_ | refine blk_alloc ?_ _)); refine blk_put (cs := #[.string (⟨#[]⟩ : ByteArray), .slice none 0 0, .slice none 0 0]) ?_ 0 _ rfl; (with_reducible repeat (first | refine blk_drewN ?_ _ | refine blk_drew ?_ | refine blk_alloc ?_ _)); exact BK145.out) Try.underlying27 rfl (by kernel_rfl)) rfl ?_
     exact ⟨_, _, er_, by (with_reducible repeat (first | apply Kd.R_alloc | apply Kd.R_drewN | apply Kd.R_drew)); exact Kd.R_mono (Kd.R_far (p := ⟨gb145, 2, none⟩) (Kd.R_far (p := ⟨gb145, 1, none⟩) (Kd.R_far (p := ⟨gb145, 0, none⟩) (Kd.R_types HO_150001.out BK145.out (by decide)) (fun _ hk => hk.2) (.string a0_0)) (fun _ hk => hk.2) (.slice Ao10 y146.length co10)) (fun _ hk => hk.2) (.slice Ao40 x150002_1.length co40)) (fun _ hk => trivial), by (with_reducible repeat (first | apply Kd.R_alloc | apply Kd.R_drewN | apply Kd.R_drew)); exact Kd.R_mono (Kd.R_far (p := ⟨gb145, 2, none⟩) (Kd.R_far (p := ⟨gb145, 1, none⟩) (Kd.R_far (p := ⟨gb145, 0, none⟩) (Kd.R_mono HO_150002.out (fun k_ hk => (⟨hk, hk.2.2.1⟩ : _ ∧ k_ ≠ gb145))) (fun _ hk => hk.2) (.string a0_0)) (fun _ hk => hk.2) (.slice Ao10 y146.length co10)) (fun _ hk => hk.2) (.slice Ao40 x150002_1.length co40)) (fun _ hk => hk.1.1), be3_ HB GE144 GE145 GE149⟩
 ·rw [if_neg c2] at H
  exact absurd H (by simp)

end Go.Proofs.Ytfampmajmbediaa.P
