-- Written by the session's own program wip/tools/xprint.py out of the translation, with the kit's print.py on a scratch copy; functions given by hand stand among them.
import Derived.Test.YtfampmajmbediaaPx0
import Derived.Test.YtfampmajmbediaaPx20
namespace Go.Proofs.Ytfampmajmbediaa.P
open Go.RowKit Go.Proofs.YtfampmajmbediaaW.PrintWords Go.Proofs.YtfampmajmbediaaW.PrintLast Go.Proofs.YtfampmajmbediaaW.PrintMore
attribute [local go_sem] max2_int min2_int max_two min_two max_three min_three max_four min_four   -- for this text's walks alone
set_option linter.unusedVariables false
set_option linter.unusedSimpArgs false

/-! ### pentaglotref39_Sentence: function 21 -/
def pentaglotref39_Sentence.f (k : Nat) (a0_0 : ByteArray) (l0_1 : List Int) (l0_2 : List (S27)) : Option (Bool) := (api_Functions.f).bind fun t264 => ((pentaglotref31_Category.f k t264 a0_0 l0_1 l0_2).bind fun bt267 => (if bt267.2 = 0 then (some (bt267.1.toList == ([83] : List UInt8))) else (some false)))
theorem pentaglotref39_Sentence.mono : ∀ a0 a1 a2 k, LeO (pentaglotref39_Sentence.f k a0 a1 a2) (pentaglotref39_Sentence.f (k + 1) a0 a1 a2) := by
 intro a0 a1 a2 k
 unfold pentaglotref39_Sentence.f
 repeat' first
   | (with_reducible exact pentaglotref31_Category.mono _ _ _ _ _)
   | (with_reducible exact LeO.refl _)
   | (with_reducible exact LeO.none _)
   | (with_reducible refine LeO.ite ?_ ?_)
   | (with_reducible refine LeO.bind ?_ (fun _ => ?_))
   | exact pentaglotref31_Category.mono _ _ _ _ _
   | exact LeO.none _
   | refine LeO.ite ?_ ?_
   | refine LeO.bind ?_ (fun _ => ?_)
def pentaglotref39_Sentence.T1 : Bool × List (List Nat × List Nat) := (true, [([], []), ([], []), ([0, 1, 0], [0, 1]), ([2], [2]), ([3], [3]), ([3], [3]), ([4, 2, 0, 1, 2, 3, 4], [4]), ([5, 6, 0, 1, 2, 3, 4, 5, 6], [5])])
def pentaglotref39_Sentence.B1 : List Nat := [0, 0, 3, 7, 15, 15, 31, 127]
theorem pentaglotref39_Sentence.tab1 : rtab .any (opsOf Try.f21 1) = pentaglotref39_Sentence.T1 := by kernel_rfl
theorem pentaglotref39_Sentence.bits1 : waitsOk pentaglotref39_Sentence.T1.2 pentaglotref39_Sentence.B1 = true := by kernel_rfl
set_option maxHeartbeats 8000000 in
set_option maxRecDepth 100000 in
theorem pentaglotref39_Sentence.calls (k : Nat) (a0_0 : ByteArray) (A0_1 : Option Addr) (c0_1 : Nat) (l0_1 : List Int) (A0_2 : Option Addr) (c0_2 : Nat) (l0_2 : List (S27)) (r : Bool) (w : World) (hr0_1 : Kd.C (Kd.int .i64) w A0_1 l0_1.length l0_1) (hc0_1 : l0_1.length ≤ c0_1) (hr0_2 : Kd.C k27 w A0_2 l0_2.length l0_2) (hc0_2 : l0_2.length ≤ c0_2) (h : pentaglotref39_Sentence.f k a0_0 l0_1 l0_2 = some r) :
  Calls Try.prog 21 #[.agg #[.string a0_0, .slice A0_1 l0_1.length c0_1, .slice A0_2 l0_2.length c0_2]] w fun e w' => e = .returned (.bool r) ∧ Below w.heap.size w w' := by
 have hu27 := Try.underlying27
 have HR0_1 := Aside0.mk hr0_1
 have HC0_1 := Aside0.mk hc0_1
 clear hr0_1 hc0_1
 have HR0_2 := Aside0.mk hr0_2
 have HC0_2 := Aside0.mk hc0_2
 clear hr0_2 hc0_2
 have HB := Aside0.mk (Below.refl w.heap.size w)
 have H : ((api_Functions.f).bind fun t264 => ((pentaglotref31_Category.f k t264 a0_0 l0_1 l0_2).bind fun bt267 => (if bt267.2 = 0 then (some (bt267.1.toList == ([83] : List UInt8))) else (some false)))) = some r := h
 clear h
 replace H := Option.bind_eq_some_iff.mp H
 obtain ⟨t264, A20, H⟩ := H
 replace H : ((pentaglotref31_Category.f k t264 a0_0 l0_1 l0_2).bind fun bt267 => (if bt267.2 = 0 then (some (bt267.1.toList == ([83] : List UInt8))) else (some false))) = some r := H
 have A2 := Aside0.mk A20
 clear A20
 replace H := Option.bind_eq_some_iff.mp H
 obtain ⟨⟨t267, t268⟩, A30, H⟩ := H
 replace H : (if t268 = 0 then (some (t267.toList == ([83] : List UInt8))) else (some false)) = some r := H
 have A3 := Aside0.mk A30
 clear A30
 by_cases c4 : t268 = 0
 ·rw [if_pos c4] at H
  have c4b0 : (t268 == 0) = true := beq_iff_eq.mpr c4
  have c4b1 : (t268 != 0) = false := bne_eq_false_iff_eq.mpr c4
  clear c4
  obtain rfl := Option.some.inj H
  go_enter Try.func21, Try.ntmps21
  try go_wp2_with (first | ((with_reducible refine gate_dst (N := 1) rfl ?_); refine box_event ?hg (N := 1) ?hd (cs := #[.string a0_0, .slice A0_1 l0_1.length c0_1, .slice A0_2 l0_2.length c0_2]) (t := 27) ?hr ?_; (case hd => rfl); (case hg => rfl); (case hr => first | (go_simp; done) | (go_simp; rfl)); intro gb263 hg w5 hbox hb; have n0_ := Aside0.mk (below_step (be_ HB) hb); have n1_ := Aside0.mk (hbox); have n2_ := Aside0.mk ((by rw [hg]; exact (below_size (be_ HB)) : w.heap.size ≤ gb263)); have n3_ := Aside0.mk ((by rw [hg]; exact (below_size (be_ HB)) : w.heap.size ≤ gb263)); clear HB; have HB := n0_; have BK263 := n1_; have GW263 := n2_; have GE263 := n3_; clear n0_ n1_ n2_ n3_; clear hb hbox hg))
  have n0_ := Aside0.mk (blk_drew BK263.out)
  have n1_ := Aside0.mk (below_drew1 HB.out)
  clear BK263
  clear HB
  have BK263 := n0_
  have HB := n1_
  clear n0_ n1_
  refine start_ (n := 8) (S := fun w' => w'.cell? ⟨gb263, 0, none⟩ = some (.string a0_0) ∧ w'.cell? ⟨gb263, 1, none⟩ = some (.slice A0_1 l0_1.length c0_1) ∧ w'.cell? ⟨gb263, 2, none⟩ = some (.slice A0_2 l0_2.length c0_2)) (ds := []) #[false, false, false, false, false, false, false, false] (by kernel_rfl) rfl rfl ⟨(blk_cell BK263.out 0).trans rfl, (blk_cell BK263.out 1).trans rfl, (blk_cell BK263.out 2).trans rfl⟩ (fun hHeld => ?_); refine with_tabW pentaglotref39_Sentence.tab1 pentaglotref39_Sentence.bits1 (fun HT_ HW_ => ?_)
  generalize w5.drew = w6 at BK263 HB hHeld ⊢
  refine tk_ 1 (some 7) hHeld ?_
  refine on_ 0 (some 6) (fun K hK => ?_)
  refine goes_ Try.func50 (by kernel_rfl) rfl #[] (by rfl) rfl rfl (by (try simp only [List.map_toArray, List.map_cons, List.map_nil]); first | done | rfl | (simp only [List.length_drop, List.length_take]; rfl)) ?_
  with_reducible refine (api_Functions.calls  t264 _ A2.out).mono ?_
  rintro e w7 ⟨v265, rfl, ho0, hb⟩
  refine ⟨_, rfl, ?_⟩
  have n0_ := Aside0.mk (Kd.N_lower (Kd.N_mono (ok' := fun k_ => k_ ≠ gb263) ho0 (fun k_ hk_ => (Kd.freshB (g := gb263) (o := .cells #[.string a0_0, .slice A0_1 l0_1.length c0_1, .slice A0_2 l0_2.length c0_2] 27 (0, 0)) (bq_ BK263) k_ hk_))) (below_size (be1_ HB GE263)))
  have n1_ := Aside0.mk (blk_below (g := gb263) (o := .cells #[.string a0_0, .slice A0_1 l0_1.length c0_1, .slice A0_2 l0_2.length c0_2] 27 (0, 0)) (bq_ BK263) hb)
  have n2_ := Aside0.mk (below_step (be1_ HB GE263) hb)
  clear BK263
  clear HB
  have HO266 := n0_
  have BK263 := n1_
  have HB := n2_
  clear n0_ n1_ n2_
  (try clear hb)
  (try clear hb2)
  (try clear hk)
  (try clear hi)
  (try clear ho0)
  obtain ⟨Ao8, co8, eo8⟩ := Kd.N_slice HO266.out
  (first | subst eo8 | (injection eo8 with f1_ f2_ f3_; have f4_ := f1_.symm; have f5_ := f3_.symm; clear f1_ f2_ f3_; subst f4_; subst f5_))
  refine hK.out _ _ ⟨(blk_cell BK263.out 0).trans rfl, (blk_cell BK263.out 1).trans rfl, (blk_cell BK263.out 2).trans rfl⟩ (fun hHeld => ?_)
  clear hK K
  refine no_ (N := some 6) ?_
  refine on_ 2 (some 8) (fun K hK => ?_)
  refine goes_ Try.func49 (by kernel_rfl) rfl #[.slice Ao8 t264.length co8, .agg #[.string a0_0, .slice A0_1 l0_1.length c0_1, .slice A0_2 l0_2.length c0_2]] (by rfl) rfl rfl (by (try simp only [List.map_toArray, List.map_cons, List.map_nil]); first | done | rfl | (simp only [List.length_drop, List.length_take]; rfl)) ?_
  with_reducible refine (pentaglotref31_Category.calls k _ _ t264 a0_0 _ _ l0_1 _ _ l0_2 t267 t268 _ ?side1 ?side2 ?side3 ?side4 ?side5 ?side6 A3.out).mono ?_
  (case side1 => repeat (first | exact (Kd.N_reads' HO266.out).2.2 | (with_reducible refine Kd.C_alloc ?_ _) | (with_reducible refine Kd.C_drewN ?_ _) | (with_reducible refine Kd.C_drew ?_)))
  (case side2 => exact (Kd.N_reads' HO266.out).2.1)
  (case side3 => exact cs_ (Kd.C_below HR0_1.out HB.out))
  (case side4 => exact HC0_1.out)
  (case side5 => exact cs_ (Kd.C_below HR0_2.out HB.out))
  (case side6 => exact HC0_2.out)
  rintro e w9 ⟨rfl, hb⟩
  refine ⟨_, rfl, ?_⟩
  have n0_ := Aside0.mk (Kd.N_below (nq_ HO266) hb)
  have n1_ := Aside0.mk (blk_below (g := gb263) (o := .cells #[.string a0_0, .slice A0_1 l0_1.length c0_1, .slice A0_2 l0_2.length c0_2] 27 (0, 0)) (bq_ BK263) hb)
  have n2_ := Aside0.mk (below_step (be1_ HB GE263) hb)
  clear HO266
  clear BK263
  clear HB
  have HO266 := n0_
  have BK263 := n1_
  have HB := n2_
  clear n0_ n1_ n2_
  (try clear hb)
  (try clear hb2)
  (try clear hk)
  (try clear hi)
  refine hK.out _ _ ⟨(blk_cell BK263.out 0).trans rfl, (blk_cell BK263.out 1).trans rfl, (blk_cell BK263.out 2).trans rfl⟩ (fun hHeld => ?_)
  clear hK K
  refine no_ (N := some 8) ?_
  refine pu_ 3 (some 5) ?_
  refine pu_ 4 (some 9) ?_
  refine pu_ 5 (some 10) ?_
  refine pu_ 6 (some 3) ?_
  refine pu_ 7 (some 4) ?_
  refine done_ (done_of HT_.out (by kernel_rfl)) ?_
  try go_wp2
  go_ret
  exact ⟨er_, be1_ HB GE263⟩
 ·rw [if_neg c4] at H
  have c4b0 : (t268 == 0) = false := beq_eq_false_iff_ne.mpr c4
  have c4b1 : (t268 != 0) = true := bne_iff_ne.mpr c4
  obtain rfl := Option.some.inj H
  go_enter Try.func21, Try.ntmps21
  try go_wp2_with (first | ((with_reducible refine gate_dst (N := 1) rfl ?_); refine box_event ?hg (N := 1) ?hd (cs := #[.string a0_0, .slice A0_1 l0_1.length c0_1, .slice A0_2 l0_2.length c0_2]) (t := 27) ?hr ?_; (case hd => rfl); (case hg => rfl); (case hr => first | (go_simp; done) | (go_simp; rfl)); intro gb263 hg w10 hbox hb; have n0_ := Aside0.mk (below_step (be_ HB) hb); have n1_ := Aside0.mk (hbox); have n2_ := Aside0.mk ((by rw [hg]; exact (below_size (be_ HB)) : w.heap.size ≤ gb263)); have n3_ := Aside0.mk ((by rw [hg]; exact (below_size (be_ HB)) : w.heap.size ≤ gb263)); clear HB; have HB := n0_; have BK263 := n1_; have GW263 := n2_; have GE263 := n3_; clear n0_ n1_ n2_ n3_; clear hb hbox hg))
  have n0_ := Aside0.mk (blk_drew BK263.out)
  have n1_ := Aside0.mk (below_drew1 HB.out)
  clear BK263
  clear HB
  have BK263 := n0_
  have HB := n1_
  clear n0_ n1_
  refine start_ (n := 8) (S := fun w' => w'.cell? ⟨gb263, 0, none⟩ = some (.string a0_0) ∧ w'.cell? ⟨gb263, 1, none⟩ = some (.slice A0_1 l0_1.length c0_1) ∧ w'.cell? ⟨gb263, 2, none⟩ = some (.slice A0_2 l0_2.length c0_2)) (ds := []) #[false, false, false, false, false, false, false, false] (by kernel_rfl) rfl rfl ⟨(blk_cell BK263.out 0).trans rfl, (blk_cell BK263.out 1).trans rfl, (blk_cell BK263.out 2).trans rfl⟩ (fun hHeld => ?_); refine with_tabW pentaglotref39_Sentence.tab1 pentaglotref39_Sentence.bits1 (fun HT_ HW_ => ?_)
  generalize w10.drew = w11 at BK263 HB hHeld ⊢
  refine tk_ 1 (some 7) hHeld ?_
  refine on_ 0 (some 6) (fun K hK => ?_)
  refine goes_ Try.func50 (by kernel_rfl) rfl #[] (by rfl) rfl rfl (by (try simp only [List.map_toArray, List.map_cons, List.map_nil]); first | done | rfl | (simp only [List.length_drop, List.length_take]; rfl)) ?_
  with_reducible refine (api_Functions.calls  t264 _ A2.out).mono ?_
  rintro e w12 ⟨v265, rfl, ho0, hb⟩
  refine ⟨_, rfl, ?_⟩
  have n0_ := Aside0.mk (Kd.N_lower (Kd.N_mono (ok' := fun k_ => k_ ≠ gb263) ho0 (fun k_ hk_ => (Kd.freshB (g := gb263) (o := .cells #[.string a0_0, .slice A0_1 l0_1.length c0_1, .slice A0_2 l0_2.length c0_2] 27 (0, 0)) (bq_ BK263) k_ hk_))) (below_size (be1_ HB GE263)))
  have n1_ := Aside0.mk (blk_below (g := gb263) (o := .cells #[.string a0_0, .slice A0_1 l0_1.length c0_1, .slice A0_2 l0_2.length c0_2] 27 (0, 0)) (bq_ BK263) hb)
  have n2_ := Aside0.mk (below_step (be1_ HB GE263) hb)
  clear BK263
  clear HB
  have HO266 := n0_
  have BK263 := n1_
  have HB := n2_
  clear n0_ n1_ n2_
  (try clear hb)
  (try clear hb2)
  (try clear hk)
  (try clear hi)
  (try clear ho0)
  obtain ⟨Ao13, co13, eo13⟩ := Kd.N_slice HO266.out
  (first | subst eo13 | (injection eo13 with f1_ f2_ f3_; have f4_ := f1_.symm; have f5_ := f3_.symm; clear f1_ f2_ f3_; subst f4_; subst f5_))
  refine hK.out _ _ ⟨(blk_cell BK263.out 0).trans rfl, (blk_cell BK263.out 1).trans rfl, (blk_cell BK263.out 2).trans rfl⟩ (fun hHeld => ?_)
  clear hK K
  refine no_ (N := some 6) ?_
  refine on_ 2 (some 8) (fun K hK => ?_)
  refine goes_ Try.func49 (by kernel_rfl) rfl #[.slice Ao13 t264.length co13, .agg #[.string a0_0, .slice A0_1 l0_1.length c0_1, .slice A0_2 l0_2.length c0_2]] (by rfl) rfl rfl (by (try simp only [List.map_toArray, List.map_cons, List.map_nil]); first | done | rfl | (simp only [List.length_drop, List.length_take]; rfl)) ?_
  with_reducible refine (pentaglotref31_Category.calls k _ _ t264 a0_0 _ _ l0_1 _ _ l0_2 t267 t268 _ ?side1 ?side2 ?side3 ?side4 ?side5 ?side6 A3.out).mono ?_
  (case side1 => repeat (first | exact (Kd.N_reads' HO266.out).2.2 | (with_reducible refine Kd.C_alloc ?_ _) | (with_reducible refine Kd.C_drewN ?_ _) | (with_reducible refine Kd.C_drew ?_)))
  (case side2 => exact (Kd.N_reads' HO266.out).2.1)
  (case side3 => exact cs_ (Kd.C_below HR0_1.out HB.out))
  (case side4 => exact HC0_1.out)
  (case side5 => exact cs_ (Kd.C_below HR0_2.out HB.out))
  (case side6 => exact HC0_2.out)
  rintro e w14 ⟨rfl, hb⟩
  refine ⟨_, rfl, ?_⟩
  have n0_ := Aside0.mk (Kd.N_below (nq_ HO266) hb)
  have n1_ := Aside0.mk (blk_below (g := gb263) (o := .cells #[.string a0_0, .slice A0_1 l0_1.length c0_1, .slice A0_2 l0_2.length c0_2] 27 (0, 0)) (bq_ BK263) hb)
  have n2_ := Aside0.mk (below_step (be1_ HB GE263) hb)
  clear HO266
  clear BK263
  clear HB
  have HO266 := n0_
  have BK263 := n1_
  have HB := n2_
  clear n0_ n1_ n2_
  (try clear hb)
  (try clear hb2)
  (try clear hk)
  (try clear hi)
  refine hK.out _ _ ⟨(blk_cell BK263.out 0).trans rfl, (blk_cell BK263.out 1).trans rfl, (blk_cell BK263.out 2).trans rfl⟩ (fun hHeld => ?_)
  clear hK K
  refine no_ (N := some 8) ?_
  refine pu_ 3 (some 5) ?_
  refine pu_ 4 (some 9) ?_
  refine pu_ 5 (some 10) ?_
  refine pu_ 6 (some 3) ?_
  refine pu_ 7 (some 4) ?_
  refine done_ (done_of HT_.out (by kernel_rfl)) ?_
  try go_wp2
  go_ret
  exact ⟨er_, be1_ HB GE263⟩

end Go.Proofs.Ytfampmajmbediaa.P
