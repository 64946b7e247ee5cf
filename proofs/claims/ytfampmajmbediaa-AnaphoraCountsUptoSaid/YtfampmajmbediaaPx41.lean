-- Written by the session's own program wip/tools/xprint.py out of the translation, with the kit's print.py on a scratch copy; functions given by hand stand among them.
import Derived.Test.YtfampmajmbediaaPx0
import Derived.Test.YtfampmajmbediaaPx9
import Derived.Test.YtfampmajmbediaaPx17
import Derived.Test.YtfampmajmbediaaPx21
import Derived.Test.YtfampmajmbediaaPx31
namespace Go.Proofs.Ytfampmajmbediaa.P
open Go.RowKit Go.Proofs.YtfampmajmbediaaW.PrintWords Go.Proofs.YtfampmajmbediaaW.PrintLast Go.Proofs.YtfampmajmbediaaW.PrintMore
attribute [local go_sem] max2_int min2_int max_two min_two max_three min_three max_four min_four   -- for this text's walks alone
set_option linter.unusedVariables false
set_option linter.unusedSimpArgs false

/-! ### pentaglotlaw46_AnaphoraCounts: function 8 -/
def pentaglotlaw46_AnaphoraCounts.f (k : Nat) (a0_0 : ByteArray) (l0_1 : List Int) (l0_2 : List (S27)) : Option (Bool) := (pentaglotlaw46_awake.f k).bind fun t630 => (if t630 = true then ((pentaglotref39_Sentence.f k a0_0 l0_1 l0_2).bind fun t631 => (if t631 = true then ((anaphora_Pronouns.f k a0_0 l0_1 l0_2).bind fun t632 => ((pentaglotref46_Pronouns.f k a0_0 l0_1 l0_2).bind fun t633 => (some (t632 == t633)))) else (some true))) else (some false))
theorem pentaglotlaw46_AnaphoraCounts.mono : ∀ a0 a1 a2 k, LeO (pentaglotlaw46_AnaphoraCounts.f k a0 a1 a2) (pentaglotlaw46_AnaphoraCounts.f (k + 1) a0 a1 a2) := by
 intro a0 a1 a2 k
 unfold pentaglotlaw46_AnaphoraCounts.f
 repeat' first
   | (with_reducible exact anaphora_Pronouns.mono _ _ _ _)
   | (with_reducible exact pentaglotlaw46_awake.mono _)
   | (with_reducible exact pentaglotref39_Sentence.mono _ _ _ _)
   | (with_reducible exact pentaglotref46_Pronouns.mono _ _ _ _)
   | (with_reducible exact LeO.refl _)
   | (with_reducible exact LeO.none _)
   | (with_reducible refine LeO.ite ?_ ?_)
   | (with_reducible refine LeO.bind ?_ (fun _ => ?_))
   | exact anaphora_Pronouns.mono _ _ _ _
   | exact pentaglotlaw46_awake.mono _
   | exact pentaglotref39_Sentence.mono _ _ _ _
   | exact pentaglotref46_Pronouns.mono _ _ _ _
   | exact LeO.none _
   | refine LeO.ite ?_ ?_
   | refine LeO.bind ?_ (fun _ => ?_)
def pentaglotlaw46_AnaphoraCounts.T3 : Bool × List (List Nat × List Nat) := (true, [([], []), ([0], [0]), ([1], [1]), ([2, 1], [2]), ([3], [3]), ([4, 3, 3], [3, 4]), ([3], [3]), ([6, 5, 3], [3, 6]), ([5, 7, 3], [3, 5, 7]), ([3, 8], [3, 8]), ([9, 7, 0, 1, 2, 3, 4, 5, 6, 7, 8, 9], [9])])
def pentaglotlaw46_AnaphoraCounts.B3 : List Nat := [0, 1, 3, 7, 15, 31, 15, 127, 255, 511, 1023]
theorem pentaglotlaw46_AnaphoraCounts.tab3 : rtab .any (opsOf Try.f8 3) = pentaglotlaw46_AnaphoraCounts.T3 := by kernel_rfl
theorem pentaglotlaw46_AnaphoraCounts.bits3 : waitsOk pentaglotlaw46_AnaphoraCounts.T3.2 pentaglotlaw46_AnaphoraCounts.B3 = true := by kernel_rfl
set_option maxHeartbeats 8000000 in
set_option maxRecDepth 100000 in
theorem pentaglotlaw46_AnaphoraCounts.calls (k : Nat) (a0_0 : ByteArray) (A0_1 : Option Addr) (c0_1 : Nat) (l0_1 : List Int) (A0_2 : Option Addr) (c0_2 : Nat) (l0_2 : List (S27)) (r : Bool) (w : World) (hr0_1 : Kd.C (Kd.int .i64) w A0_1 l0_1.length l0_1) (hc0_1 : l0_1.length ≤ c0_1) (hr0_2 : Kd.C k27 w A0_2 l0_2.length l0_2) (hc0_2 : l0_2.length ≤ c0_2) (h : pentaglotlaw46_AnaphoraCounts.f k a0_0 l0_1 l0_2 = some r) :
  Calls Try.prog 8 #[.agg #[.string a0_0, .slice A0_1 l0_1.length c0_1, .slice A0_2 l0_2.length c0_2]] w fun e w' => e = .returned (.bool r) ∧ Below w.heap.size w w' := by
 have hu27 := Try.underlying27
 have HR0_1 := Aside0.mk hr0_1
 have HC0_1 := Aside0.mk hc0_1
 clear hr0_1 hc0_1
 have HR0_2 := Aside0.mk hr0_2
 have HC0_2 := Aside0.mk hc0_2
 clear hr0_2 hc0_2
 have HB := Aside0.mk (Below.refl w.heap.size w)
 have H : ((pentaglotlaw46_awake.f k).bind fun t630 => (if t630 = true then ((pentaglotref39_Sentence.f k a0_0 l0_1 l0_2).bind fun t631 => (if t631 = true then ((anaphora_Pronouns.f k a0_0 l0_1 l0_2).bind fun t632 => ((pentaglotref46_Pronouns.f k a0_0 l0_1 l0_2).bind fun t633 => (some (t632 == t633)))) else (some true))) else (some false))) = some r := h
 clear h
 replace H := Option.bind_eq_some_iff.mp H
 obtain ⟨t630, A20, H⟩ := H
 replace H : (if t630 = true then ((pentaglotref39_Sentence.f k a0_0 l0_1 l0_2).bind fun t631 => (if t631 = true then ((anaphora_Pronouns.f k a0_0 l0_1 l0_2).bind fun t632 => ((pentaglotref46_Pronouns.f k a0_0 l0_1 l0_2).bind fun t633 => (some (t632 == t633)))) else (some true))) else (some false)) = some r := H
 have A2 := Aside0.mk A20
 clear A20
 by_cases c3 : t630 = true
 ·subst c3
  have H1 : ((pentaglotref39_Sentence.f k a0_0 l0_1 l0_2).bind fun t631 => (if t631 = true then ((anaphora_Pronouns.f k a0_0 l0_1 l0_2).bind fun t632 => ((pentaglotref46_Pronouns.f k a0_0 l0_1 l0_2).bind fun t633 => (some (t632 == t633)))) else (some true))) = some r := by rw [if_pos rfl] at H; exact H
  clear H
  have H := H1
  clear H1
  replace H := Option.bind_eq_some_iff.mp H
  obtain ⟨t631, A40, H⟩ := H
  replace H : (if t631 = true then ((anaphora_Pronouns.f k a0_0 l0_1 l0_2).bind fun t632 => ((pentaglotref46_Pronouns.f k a0_0 l0_1 l0_2).bind fun t633 => (some (t632 == t633)))) else (some true)) = some r := H
  have A4 := Aside0.mk A40
  clear A40
  by_cases c5 : t631 = true
  ·subst c5
   have H1 : ((anaphora_Pronouns.f k a0_0 l0_1 l0_2).bind fun t632 => ((pentaglotref46_Pronouns.f k a0_0 l0_1 l0_2).bind fun t633 => (some (t632 == t633)))) = some r := by rw [if_pos rfl] at H; exact H
   clear H
   have H := H1
   clear H1
   replace H := Option.bind_eq_some_iff.mp H
   obtain ⟨t632, A60, H⟩ := H
   replace H : ((pentaglotref46_Pronouns.f k a0_0 l0_1 l0_2).bind fun t633 => (some (t632 == t633))) = some r := H
   have A6 := Aside0.mk A60
   clear A60
   replace H := Option.bind_eq_some_iff.mp H
   obtain ⟨t633, A70, H⟩ := H
   replace H : (some (t632 == t633)) = some r := H
   have A7 := Aside0.mk A70
   clear A70
   obtain rfl := Option.some.inj H
   go_enter Try.func8, Try.ntmps8
   try go_wp2_with (first | ((with_reducible refine gate_dst (N := 1) rfl ?_); refine box_event ?hg (N := 1) ?hd (cs := #[.string a0_0, .slice A0_1 l0_1.length c0_1, .slice A0_2 l0_2.length c0_2]) (t := 27) ?hr ?_; (case hd => rfl); (case hg => rfl); (case hr => first | (go_simp; done) | (go_simp; rfl)); intro gb629 hg w8 hbox hb; have n0_ := Aside0.mk (below_step (be_ HB) hb); have n1_ := Aside0.mk (hbox); have n2_ := Aside0.mk ((by rw [hg]; exact (below_size (be_ HB)) : w.heap.size ≤ gb629)); have n3_ := Aside0.mk ((by rw [hg]; exact (below_size (be_ HB)) : w.heap.size ≤ gb629)); clear HB; have HB := n0_; have BK629 := n1_; have GW629 := n2_; have GE629 := n3_; clear n0_ n1_ n2_ n3_; clear hb hbox hg) | ((with_reducible refine gate_callee (f := 12) rfl ?_); refine goesL_ (some 3) rfl rfl Try.func12 (by kernel_rfl) rfl #[] rfl (by (try simp only [List.map_toArray, List.map_cons, List.map_nil]); first | done | rfl | (simp only [List.length_drop, List.length_take]; rfl)) ?_; (with_reducible refine (pentaglotlaw46_awake.calls k  true _ A2.out).mono ?_); rintro e w9 ⟨rfl, hb⟩; refine ⟨_, rfl, ?_⟩; have n0_ := Aside0.mk (blk_below (g := gb629) (o := .cells #[.string a0_0, .slice A0_1 l0_1.length c0_1, .slice A0_2 l0_2.length c0_2] 27 (0, 0)) (bq_ BK629) hb); have n1_ := Aside0.mk (below_step (be1_ HB GE629) hb); clear BK629; clear HB; have BK629 := n0_; have HB := n1_; clear n0_ n1_; (try clear hb); (try clear hb2); (try clear hk); (try clear hi)))
   have n0_ := Aside0.mk (blk_drew BK629.out)
   have n1_ := Aside0.mk (below_drew1 HB.out)
   clear BK629
   clear HB
   have BK629 := n0_
   have HB := n1_
   clear n0_ n1_
   refine start_ (n := 11) (S := fun w' => w'.cell? ⟨gb629, 0, none⟩ = some (.string a0_0) ∧ w'.cell? ⟨gb629, 1, none⟩ = some (.slice A0_1 l0_1.length c0_1) ∧ w'.cell? ⟨gb629, 2, none⟩ = some (.slice A0_2 l0_2.length c0_2)) (ds := []) #[false, false, false, false, false, false, false, false, false, false, false] (by kernel_rfl) rfl rfl ⟨(blk_cell BK629.out 0).trans rfl, (blk_cell BK629.out 1).trans rfl, (blk_cell BK629.out 2).trans rfl⟩ (fun hHeld => ?_); refine with_tabW pentaglotlaw46_AnaphoraCounts.tab3 pentaglotlaw46_AnaphoraCounts.bits3 (fun HT_ HW_ => ?_)
   generalize w9.drew = w10 at BK629 HB hHeld ⊢
   refine tk_ 0 (some 5) hHeld ?_
   refine on_ 1 (some 6) (fun K hK => ?_)
   refine goes_ Try.func21 (by kernel_rfl) rfl #[.agg #[.string a0_0, .slice A0_1 l0_1.length c0_1, .slice A0_2 l0_2.length c0_2]] (by rfl) rfl rfl (by (try simp only [List.map_toArray, List.map_cons, List.map_nil]); first | done | rfl | (simp only [List.length_drop, List.length_take]; rfl)) ?_
   with_reducible refine (pentaglotref39_Sentence.calls k a0_0 _ _ l0_1 _ _ l0_2 true _ ?side1 ?side2 ?side3 ?side4 A4.out).mono ?_
   (case side1 => exact cs_ (Kd.C_below HR0_1.out HB.out))
   (case side2 => exact HC0_1.out)
   (case side3 => exact cs_ (Kd.C_below HR0_2.out HB.out))
   (case side4 => exact HC0_2.out)
   rintro e w11 ⟨rfl, hb⟩
   refine ⟨_, rfl, ?_⟩
   have n0_ := Aside0.mk (blk_below (g := gb629) (o := .cells #[.string a0_0, .slice A0_1 l0_1.length c0_1, .slice A0_2 l0_2.length c0_2] 27 (0, 0)) (bq_ BK629) hb)
   have n1_ := Aside0.mk (below_step (be1_ HB GE629) hb)
   clear BK629
   clear HB
   have BK629 := n0_
   have HB := n1_
   clear n0_ n1_
   (try clear hb)
   (try clear hb2)
   (try clear hk)
   (try clear hi)
   refine hK.out _ _ ⟨(blk_cell BK629.out 0).trans rfl, (blk_cell BK629.out 1).trans rfl, (blk_cell BK629.out 2).trans rfl⟩ (fun hHeld => ?_)
   clear hK K
   refine no_ (N := some 6) ?_
   refine pu_ 2 (some 7) ?_
   refine pu_ 3 (some 8) ?_
   refine tk_ 4 (some 9) hHeld ?_
   refine tk_ 6 (some 11) hHeld ?_
   refine on_ 5 (some 10) (fun K hK => ?_)
   refine goes_ Try.func20 (by kernel_rfl) rfl #[.agg #[.string a0_0, .slice A0_1 l0_1.length c0_1, .slice A0_2 l0_2.length c0_2]] (by rfl) rfl rfl (by (try simp only [List.map_toArray, List.map_cons, List.map_nil]); first | done | rfl | (simp only [List.length_drop, List.length_take]; rfl)) ?_
   with_reducible refine (anaphora_Pronouns.calls k a0_0 _ _ l0_1 _ _ l0_2 t632 _ ?side1 ?side2 ?side3 ?side4 A6.out).mono ?_
   (case side1 => exact cs_ (Kd.C_below HR0_1.out HB.out))
   (case side2 => exact HC0_1.out)
   (case side3 => exact cs_ (Kd.C_below HR0_2.out HB.out))
   (case side4 => exact HC0_2.out)
   rintro e w12 ⟨rfl, hb⟩
   refine ⟨_, rfl, ?_⟩
   have n0_ := Aside0.mk (blk_below (g := gb629) (o := .cells #[.string a0_0, .slice A0_1 l0_1.length c0_1, .slice A0_2 l0_2.length c0_2] 27 (0, 0)) (bq_ BK629) hb)
   have n1_ := Aside0.mk (below_step (be1_ HB GE629) hb)
   clear BK629
   clear HB
   have BK629 := n0_
   have HB := n1_
   clear n0_ n1_
   (try clear hb)
   (try clear hb2)
   (try clear hk)
   (try clear hi)
   refine hK.out _ _ ⟨(blk_cell BK629.out 0).trans rfl, (blk_cell BK629.out 1).trans rfl, (blk_cell BK629.out 2).trans rfl⟩ (fun hHeld => ?_)
   clear hK K
   refine no_ (N := some 10) ?_
   refine on_ 7 (some 12) (fun K hK => ?_)
   refine goes_ Try.func25 (by kernel_rfl) rfl #[.agg #[.string a0_0, .slice A0_1 l0_1.length c0_1, .slice A0_2 l0_2.length c0_2]] (by rfl) rfl rfl (by (try simp only [List.map_toArray, List.map_cons, List.map_nil]); first | done | rfl | (simp only [List.length_drop, List.length_take]; rfl)) ?_
   with_reducible refine (pentaglotref46_Pronouns.calls k a0_0 _ _ l0_1 _ _ l0_2 t633 _ ?side1 ?side2 ?side3 ?side4 A7.out).mono ?_
   (case side1 => exact cs_ (Kd.C_below HR0_1.out HB.out))
   (case side2 => exact HC0_1.out)
   (case side3 => exact cs_ (Kd.C_below HR0_2.out HB.out))
   (case side4 => exact HC0_2.out)
   rintro e w13 ⟨rfl, hb⟩
   refine ⟨_, rfl, ?_⟩
   have n0_ := Aside0.mk (blk_below (g := gb629) (o := .cells #[.string a0_0, .slice A0_1 l0_1.length c0_1, .slice A0_2 l0_2.length c0_2] 27 (0, 0)) (bq_ BK629) hb)
   have n1_ := Aside0.mk (below_step (be1_ HB GE629) hb)
   clear BK629
   clear HB
   have BK629 := n0_
   have HB := n1_
   clear n0_ n1_
   (try clear hb)
   (try clear hb2)
   (try clear hk)
   (try clear hi)
   refine hK.out _ _ ⟨(blk_cell BK629.out 0).trans rfl, (blk_cell BK629.out 1).trans rfl, (blk_cell BK629.out 2).trans rfl⟩ (fun hHeld => ?_)
   clear hK K
   refine no_ (N := some 12) ?_
   refine pu_ 8 (some 13) ?_
   refine pu_ 9 (some 14) ?_
   refine pu_ 10 (some 2) ?_
   refine done_ (done_of HT_.out (by kernel_rfl)) ?_
   try go_wp2
   go_ret
   exact ⟨er_, be1_ HB GE629⟩
  ·replace c5 := Bool.eq_false_iff.mpr c5
   subst c5
   have H1 : (some true) = some r := by rw [if_neg (show ¬ (false = true) by decide)] at H; exact H
   clear H
   have H := H1
   clear H1
   obtain rfl := Option.some.inj H
   go_enter Try.func8, Try.ntmps8
   try go_wp2_with (first | ((with_reducible refine gate_dst (N := 1) rfl ?_); refine box_event ?hg (N := 1) ?hd (cs := #[.string a0_0, .slice A0_1 l0_1.length c0_1, .slice A0_2 l0_2.length c0_2]) (t := 27) ?hr ?_; (case hd => rfl); (case hg => rfl); (case hr => first | (go_simp; done) | (go_simp; rfl)); intro gb629 hg w14 hbox hb; have n0_ := Aside0.mk (below_step (be_ HB) hb); have n1_ := Aside0.mk (hbox); have n2_ := Aside0.mk ((by rw [hg]; exact (below_size (be_ HB)) : w.heap.size ≤ gb629)); have n3_ := Aside0.mk ((by rw [hg]; exact (below_size (be_ HB)) : w.heap.size ≤ gb629)); clear HB; have HB := n0_; have BK629 := n1_; have GW629 := n2_; have GE629 := n3_; clear n0_ n1_ n2_ n3_; clear hb hbox hg) | ((with_reducible refine gate_callee (f := 12) rfl ?_); refine goesL_ (some 3) rfl rfl Try.func12 (by kernel_rfl) rfl #[] rfl (by (try simp only [List.map_toArray, List.map_cons, List.map_nil]); first | done | rfl | (simp only [List.length_drop, List.length_take]; rfl)) ?_; (with_reducible refine (pentaglotlaw46_awake.calls k  true _ A2.out).mono ?_); rintro e w15 ⟨rfl, hb⟩; refine ⟨_, rfl, ?_⟩; have n0_ := Aside0.mk (blk_below (g := gb629) (o := .cells #[.string a0_0, .slice A0_1 l0_1.length c0_1, .slice A0_2 l0_2.length c0_2] 27 (0, 0)) (bq_ BK629) hb); have n1_ := Aside0.mk (below_step (be1_ HB GE629) hb); clear BK629; clear HB; have BK629 := n0_; have HB := n1_; clear n0_ n1_; (try clear hb); (try clear hb2); (try clear hk); (try clear hi)))
   have n0_ := Aside0.mk (blk_drew BK629.out)
   have n1_ := Aside0.mk (below_drew1 HB.out)
   clear BK629
   clear HB
   have BK629 := n0_
   have HB := n1_
   clear n0_ n1_
   refine start_ (n := 11) (S := fun w' => w'.cell? ⟨gb629, 0, none⟩ = some (.string a0_0) ∧ w'.cell? ⟨gb629, 1, none⟩ = some (.slice A0_1 l0_1.length c0_1) ∧ w'.cell? ⟨gb629, 2, none⟩ = some (.slice A0_2 l0_2.length c0_2)) (ds := []) #[false, false, false, false, false, false, false, false, false, false, false] (by kernel_rfl) rfl rfl ⟨(blk_cell BK629.out 0).trans rfl, (blk_cell BK629.out 1).trans rfl, (blk_cell BK629.out 2).trans rfl⟩ (fun hHeld => ?_); refine with_tabW pentaglotlaw46_AnaphoraCounts.tab3 pentaglotlaw46_AnaphoraCounts.bits3 (fun HT_ HW_ => ?_)
   generalize w15.drew = w16 at BK629 HB hHeld ⊢
   refine tk_ 0 (some 5) hHeld ?_
   refine on_ 1 (some 6) (fun K hK => ?_)
   refine goes_ Try.func21 (by kernel_rfl) rfl #[.agg #[.string a0_0, .slice A0_1 l0_1.length c0_1, .slice A0_2 l0_2.length c0_2]] (by rfl) rfl rfl (by (try simp only [List.map_toArray, List.map_cons, List.map_nil]); first | done | rfl | (simp only [List.length_drop, List.length_take]; rfl)) ?_
   with_reducible refine (pentaglotref39_Sentence.calls k a0_0 _ _ l0_1 _ _ l0_2 false _ ?side1 ?side2 ?side3 ?side4 A4.out).mono ?_
   (case side1 => exact cs_ (Kd.C_below HR0_1.out HB.out))
   (case side2 => exact HC0_1.out)
   (case side3 => exact cs_ (Kd.C_below HR0_2.out HB.out))
   (case side4 => exact HC0_2.out)
   rintro e w17 ⟨rfl, hb⟩
   refine ⟨_, rfl, ?_⟩
   have n0_ := Aside0.mk (blk_below (g := gb629) (o := .cells #[.string a0_0, .slice A0_1 l0_1.length c0_1, .slice A0_2 l0_2.length c0_2] 27 (0, 0)) (bq_ BK629) hb)
   have n1_ := Aside0.mk (below_step (be1_ HB GE629) hb)
   clear BK629
   clear HB
   have BK629 := n0_
   have HB := n1_
   clear n0_ n1_
   (try clear hb)
   (try clear hb2)
   (try clear hk)
   (try clear hi)
   refine hK.out _ _ ⟨(blk_cell BK629.out 0).trans rfl, (blk_cell BK629.out 1).trans rfl, (blk_cell BK629.out 2).trans rfl⟩ (fun hHeld => ?_)
   clear hK K
   refine no_ (N := some 6) ?_
   refine pu_ 2 (some 7) ?_
   refine pu_ 3 (some 8) ?_
   refine pure_ (i := 4) (N := some 9) (v := undef) (a' := ?_) #[true, true, true, true, true, false, false, false, false, false, false] rfl rfl (any_of HT_.out (by kernel_rfl)) (fun _ _ _ h => h) (Or.inr ⟨by rfl, rfl⟩) ?_ ?_
   rotate_left
   ·simp only [Act.put, List.setIfInBounds_toArray, List.set_cons_zero, List.set_cons_succ, i64_w, i32_w]
    rfl
   refine pure_ (i := 5) (N := some 10) (v := undef) (a' := ?_) #[true, true, true, true, true, true, false, false, false, false, false] rfl rfl (any_of HT_.out (by kernel_rfl)) (fun _ _ _ h => h) (Or.inr ⟨by rfl, rfl⟩) ?_ ?_
   rotate_left
   ·simp only [Act.put, List.setIfInBounds_toArray, List.set_cons_zero, List.set_cons_succ, i64_w, i32_w]
    rfl
   refine pure_ (i := 6) (N := some 11) (v := undef) (a' := ?_) #[true, true, true, true, true, true, true, false, false, false, false] rfl rfl (any_of HT_.out (by kernel_rfl)) (fun _ _ _ h => h) (Or.inr ⟨by rfl, rfl⟩) ?_ ?_
   rotate_left
   ·simp only [Act.put, List.setIfInBounds_toArray, List.set_cons_zero, List.set_cons_succ, i64_w, i32_w]
    rfl
   refine pure_ (i := 7) (N := some 12) (v := undef) (a' := ?_) #[true, true, true, true, true, true, true, true, false, false, false] rfl rfl (any_of HT_.out (by kernel_rfl)) (fun _ _ _ h => h) (Or.inr ⟨by rfl, rfl⟩) ?_ ?_
   rotate_left
   ·simp only [Act.put, List.setIfInBounds_toArray, List.set_cons_zero, List.set_cons_succ, i64_w, i32_w]
    rfl
   refine pure_ (i := 8) (N := some 13) (v := undef) (a' := ?_) #[true, true, true, true, true, true, true, true, true, false, false] rfl rfl (any_of HT_.out (by kernel_rfl)) (fun _ _ _ h => h) (Or.inr ⟨by rfl, rfl⟩) ?_ ?_
   rotate_left
   ·simp only [Act.put, List.setIfInBounds_toArray, List.set_cons_zero, List.set_cons_succ, i64_w, i32_w]
    rfl
   refine pu_ 9 (some 14) ?_
   refine pu_ 10 (some 2) ?_
   refine done_ (done_of HT_.out (by kernel_rfl)) ?_
   try go_wp2
   go_ret
   exact ⟨er_, be1_ HB GE629⟩
 ·replace c3 := Bool.eq_false_iff.mpr c3
  subst c3
  have H1 : (some false) = some r := by rw [if_neg (show ¬ (false = true) by decide)] at H; exact H
  clear H
  have H := H1
  clear H1
  obtain rfl := Option.some.inj H
  go_enter Try.func8, Try.ntmps8
  go_wp2_with (first | ((with_reducible refine gate_dst (N := 1) rfl ?_); refine box_event ?hg (N := 1) ?hd (cs := #[.string a0_0, .slice A0_1 l0_1.length c0_1, .slice A0_2 l0_2.length c0_2]) (t := 27) ?hr ?_; (case hd => rfl); (case hg => rfl); (case hr => first | (go_simp; done) | (go_simp; rfl)); intro gb629 hg w18 hbox hb; have n0_ := Aside0.mk (below_step (be_ HB) hb); have n1_ := Aside0.mk (hbox); have n2_ := Aside0.mk ((by rw [hg]; exact (below_size (be_ HB)) : w.heap.size ≤ gb629)); have n3_ := Aside0.mk ((by rw [hg]; exact (below_size (be_ HB)) : w.heap.size ≤ gb629)); clear HB; have HB := n0_; have BK629 := n1_; have GW629 := n2_; have GE629 := n3_; clear n0_ n1_ n2_ n3_; clear hb hbox hg) | ((with_reducible refine gate_callee (f := 12) rfl ?_); refine goesL_ (some 3) rfl rfl Try.func12 (by kernel_rfl) rfl #[] rfl (by (try simp only [List.map_toArray, List.map_cons, List.map_nil]); first | done | rfl | (simp only [List.length_drop, List.length_take]; rfl)) ?_; (with_reducible refine (pentaglotlaw46_awake.calls k  false _ A2.out).mono ?_); rintro e w19 ⟨rfl, hb⟩; refine ⟨_, rfl, ?_⟩; have n0_ := Aside0.mk (blk_below (g := gb629) (o := .cells #[.string a0_0, .slice A0_1 l0_1.length c0_1, .slice A0_2 l0_2.length c0_2] 27 (0, 0)) (bq_ BK629) hb); have n1_ := Aside0.mk (below_step (be1_ HB GE629) hb); clear BK629; clear HB; have BK629 := n0_; have HB := n1_; clear n0_ n1_; (try clear hb); (try clear hb2); (try clear hk); (try clear hi)))
  go_ret
  exact ⟨er_, be1_ HB GE629⟩

/-- THE ONE PURE STATEMENT of pentaglotlaw46_AnaphoraCounts. -/
def pentaglotlaw46_AnaphoraCounts.Pure : Prop := ∀ (p0 : S27), wf27 p0 → bulk27 p0 ≤ 1048576 → ∃ k, pentaglotlaw46_AnaphoraCounts.f k p0.f0 p0.f1 p0.f2 = some true


end Go.Proofs.Ytfampmajmbediaa.P
