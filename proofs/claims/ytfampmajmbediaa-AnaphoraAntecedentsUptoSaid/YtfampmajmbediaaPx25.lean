-- Written by the session's own program wip/tools/xprint.py out of the translation, with the kit's print.py on a scratch copy; functions given by hand stand among them.
import Derived.Test.YtfampmajmbediaaPx0
import Derived.Test.YtfampmajmbediaaPx23
import Derived.Test.YtfampmajmbediaaPx24
namespace Go.Proofs.Ytfampmajmbediaa.P
open Go.RowKit Go.Proofs.YtfampmajmbediaaW.PrintWords Go.Proofs.YtfampmajmbediaaW.PrintLast Go.Proofs.YtfampmajmbediaaW.PrintMore
attribute [local go_sem] max2_int min2_int max_two min_two max_three min_three max_four min_four   -- for this text's walks alone
set_option linter.unusedVariables false
set_option linter.unusedSimpArgs false

/-! ### pentaglotref39_Subject: function 31 -/
def pentaglotref39_Subject.f (k : Nat) (a0_0 : ByteArray) (l0_1 : List Int) (l0_2 : List (S27)) : Option (ByteArray × List Int × (List (S27))) := (pentaglotref39_Path.f k a0_0 l0_1 l0_2).bind fun bt339 => ((pentaglotref31_At.f k a0_0 l0_1 l0_2 bt339.1).bind fun bt343 => (some (bt343.1, bt343.2.1, bt343.2.2.1)))
theorem pentaglotref39_Subject.mono : ∀ a0 a1 a2 k, LeO (pentaglotref39_Subject.f k a0 a1 a2) (pentaglotref39_Subject.f (k + 1) a0 a1 a2) := by
 intro a0 a1 a2 k
 unfold pentaglotref39_Subject.f
 repeat' first
   | (with_reducible exact pentaglotref31_At.mono _ _ _ _ _)
   | (with_reducible exact pentaglotref39_Path.mono _ _ _ _)
   | (with_reducible exact LeO.refl _)
   | (with_reducible exact LeO.none _)
   | (with_reducible refine LeO.ite ?_ ?_)
   | (with_reducible refine LeO.bind ?_ (fun _ => ?_))
   | exact pentaglotref31_At.mono _ _ _ _ _
   | exact pentaglotref39_Path.mono _ _ _ _
   | exact LeO.none _
   | refine LeO.ite ?_ ?_
   | refine LeO.bind ?_ (fun _ => ?_)
set_option maxHeartbeats 8000000 in
set_option maxRecDepth 100000 in
theorem pentaglotref39_Subject.calls (k : Nat) (a0_0 : ByteArray) (P0_1_ : Nat → Prop) (A0_1 : Option Addr) (c0_1 : Nat) (l0_1 : List Int) (P0_2_ : Nat → Prop) (A0_2 : Option Addr) (c0_2 : Nat) (l0_2 : List (S27)) (r1 : ByteArray) (r2 : List Int) (r3 : List (S27)) (w : World) (hs0_1 : Kd.V (Kd.int .i64) 3 w w.heap.size (fun k_ => P0_1_ k_) (.slice A0_1 l0_1.length c0_1) l0_1) (hs0_2 : Kd.V k27 27 w w.heap.size (fun k_ => P0_2_ k_) (.slice A0_2 l0_2.length c0_2) l0_2) (h : pentaglotref39_Subject.f k a0_0 l0_1 l0_2 = some (r1, r2, r3)) :
  Calls Try.prog 31 #[.agg #[.string a0_0, .slice A0_1 l0_1.length c0_1, .slice A0_2 l0_2.length c0_2]] w fun e w' => ∃ v1_ v2_ : Value, e = .returned (.agg #[.string r1, v1_, v2_]) ∧ Kd.V (Kd.int .i64) 3 w' w.heap.size (fun k_ => ((P0_1_ k_ ∨ P0_2_ k_) ∨ w.heap.size ≤ k_)) v1_ r2 ∧ Kd.V k27 27 w' w.heap.size (fun k_ => ((P0_1_ k_ ∨ P0_2_ k_) ∨ w.heap.size ≤ k_)) v2_ r3 ∧ Below w.heap.size w w' := by
 have hu27 := Try.underlying27
 have HO0_1 := Aside0.mk (show Kd.V (Kd.int .i64) 3 w w.heap.size (fun k_ => ((P0_1_ k_ ∨ P0_2_ k_) ∨ w.heap.size ≤ k_)) (.slice A0_1 l0_1.length c0_1) l0_1 from Kd.V_mono hs0_1 (fun k_ hk => .inl (.inl hk)))
 have HO0_2 := Aside0.mk (show Kd.V k27 27 w w.heap.size (fun k_ => ((P0_1_ k_ ∨ P0_2_ k_) ∨ w.heap.size ≤ k_)) (.slice A0_2 l0_2.length c0_2) l0_2 from Kd.V_mono hs0_2 (fun k_ hk => .inl (.inr hk)))
 have HB := Aside0.mk (Below.refl w.heap.size w)
 have H : ((pentaglotref39_Path.f k a0_0 l0_1 l0_2).bind fun bt339 => ((pentaglotref31_At.f k a0_0 l0_1 l0_2 bt339.1).bind fun bt343 => (some (bt343.1, bt343.2.1, bt343.2.2.1)))) = some (r1, r2, r3) := h
 clear h
 replace H := Option.bind_eq_some_iff.mp H
 obtain ⟨⟨t339, t342⟩, A20, H⟩ := H
 replace H : ((pentaglotref31_At.f k a0_0 l0_1 l0_2 t339).bind fun bt343 => (some (bt343.1, bt343.2.1, bt343.2.2.1))) = some (r1, r2, r3) := H
 have A2 := Aside0.mk A20
 clear A20
 replace H := Option.bind_eq_some_iff.mp H
 obtain ⟨⟨t343, t344, t347, t350⟩, A30, H⟩ := H
 replace H : (some (t343, t344, t347)) = some (r1, r2, r3) := H
 have A3 := Aside0.mk A30
 clear A30
 simp only [Option.some.injEq, Prod.mk.injEq] at H
 obtain ⟨rfl, rfl, rfl⟩ := H
 go_enter Try.func31, Try.ntmps31
 go_wp2_with (first | ((with_reducible refine gate_dst (N := 1) rfl ?_); refine box_event ?hg (N := 1) ?hd (cs := #[.string a0_0, .slice A0_1 l0_1.length c0_1, .slice A0_2 l0_2.length c0_2]) (t := 27) ?hr ?_; (case hd => rfl); (case hg => rfl); (case hr => first | (go_simp; done) | (go_simp; rfl)); intro gb337 hg w4 hbox hb; have n0_ := Aside0.mk (Kd.V_below (Kd.V_elderB (vq_ HO0_1) gb337 (Nat.le_of_eq hg.symm)) hb); have n1_ := Aside0.mk (Kd.V_below (Kd.V_elderB (vq_ HO0_2) gb337 (Nat.le_of_eq hg.symm)) hb); have n2_ := Aside0.mk (below_step (be_ HB) hb); have n3_ := Aside0.mk (hbox); have n4_ := Aside0.mk ((by rw [hg]; exact (below_size (be_ HB)) : w.heap.size ≤ gb337)); have n5_ := Aside0.mk ((by rw [hg]; exact (below_size (be_ HB)) : w.heap.size ≤ gb337)); clear HO0_1; clear HO0_2; clear HB; have HO0_1 := n0_; have HO0_2 := n1_; have HB := n2_; have BK337 := n3_; have GW337 := n4_; have GE337 := n5_; clear n0_ n1_ n2_ n3_ n4_ n5_; clear hb hbox hg) | ((with_reducible refine gate_dst (N := 2) rfl ?_); refine box_event ?hg (N := 2) ?hd (cs := #[.string (⟨#[]⟩ : ByteArray), .slice none 0 0, .slice none 0 0]) (t := 27) ?hr ?_; (case hd => rfl); (case hg => rfl); (case hr => first | (go_simp; done) | (go_simp; rfl)); intro gb338 hg w5 hbox hb; have n0_ := Aside0.mk (Kd.V_below (Kd.V_elderB (vq_ HO0_1) gb338 (Nat.le_of_eq hg.symm)) hb); have n1_ := Aside0.mk (Kd.V_below (Kd.V_elderB (vq_ HO0_2) gb338 (Nat.le_of_eq hg.symm)) hb); have n2_ := Aside0.mk (blk_below (g := gb337) (o := .cells #[.string a0_0, .slice A0_1 l0_1.length c0_1, .slice A0_2 l0_2.length c0_2] 27 (0, 0)) (bq_ BK337) hb); have n3_ := Aside0.mk (below_step (be1_ HB GE337) hb); have n4_ := Aside0.mk (hbox); have n5_ := Aside0.mk ((by rw [hg]; exact (below_size (be1_ HB GE337)) : w.heap.size ≤ gb338)); have n6_ := Aside0.mk ((by rw [hg]; exact (below_size (be1_ HB GE337)) : w.heap.size ≤ gb338)); have n7_ := Aside0.mk ((by rw [hg]; exact Nat.ne_of_lt (blk_lt (g := gb337) (o := .cells #[.string a0_0, .slice A0_1 l0_1.length c0_1, .slice A0_2 l0_2.length c0_2] 27 (0, 0)) (bq_ BK337)) : gb337 ≠ gb338)); have n8_ := Aside0.mk ((by rw [hg]; exact Nat.ne_of_gt (blk_lt (g := gb337) (o := .cells #[.string a0_0, .slice A0_1 l0_1.length c0_1, .slice A0_2 l0_2.length c0_2] 27 (0, 0)) (bq_ BK337)) : gb338 ≠ gb337)); clear HO0_1; clear HO0_2; clear BK337; clear HB; have HO0_1 := n0_; have HO0_2 := n1_; have BK337 := n2_; have HB := n3_; have BK338 := n4_; have GW338 := n5_; have GE338 := n6_; have NB337_338 := n7_; have NB338_337 := n8_; clear n0_ n1_ n2_ n3_ n4_ n5_ n6_ n7_ n8_; clear hb hbox hg; have hnb6 := NB337_338.out; have hnc6 := NB338_337.out; have hcz7_0 : w5.cell? ⟨gb337, 0, none⟩ = some (.string a0_0) := (blk_cell BK337.out 0).trans rfl; have hcz7_1 : w5.cell? ⟨gb337, 1, none⟩ = some (.slice A0_1 l0_1.length c0_1) := (blk_cell BK337.out 1).trans rfl; have hcz7_2 : w5.cell? ⟨gb337, 2, none⟩ = some (.slice A0_2 l0_2.length c0_2) := (blk_cell BK337.out 2).trans rfl; have hfz7_0 := blk_frozen BK337.out 0; have hfz7_1 := blk_frozen BK337.out 1; have hfz7_2 := blk_frozen BK337.out 2) | ((with_reducible refine gate_callee (f := 28) rfl ?_); refine goesL_ (some 9) rfl rfl Try.func28 (by kernel_rfl) rfl #[.agg #[.string a0_0, .slice A0_1 l0_1.length c0_1, .slice A0_2 l0_2.length c0_2]] rfl (by (try simp only [List.map_toArray, List.map_cons, List.map_nil]); first | done | rfl | (simp only [List.length_drop, List.length_take]; rfl)) ?_; (with_reducible refine (pentaglotref39_Path.calls k a0_0 _ _ l0_1 _ _ l0_2 t339 t342 _ ?side1 ?side2 ?side3 ?side4 A2.out).mono ?_); (case side1 => repeat (first | exact (Kd.V_reads' HO0_1.out).2.2 | (with_reducible refine Kd.C_alloc ?_ _) | (with_reducible refine Kd.C_drewN ?_ _) | (with_reducible refine Kd.C_drew ?_))); (case side2 => exact (Kd.V_reads' HO0_1.out).2.1); (case side3 => repeat (first | exact (Kd.V_reads' HO0_2.out).2.2 | (with_reducible refine Kd.C_alloc ?_ _) | (with_reducible refine Kd.C_drewN ?_ _) | (with_reducible refine Kd.C_drew ?_))); (case side4 => exact (Kd.V_reads' HO0_2.out).2.1); rintro e w8 ⟨v340, rfl, ho0, hb⟩; refine ⟨_, rfl, ?_⟩; have n0_ := Aside0.mk (Kd.V_elder' (vq_ HO0_1) (Kd.R_base ho0) hb); have n1_ := Aside0.mk (Kd.V_elder' (vq_ HO0_2) (Kd.R_base ho0) hb); have n2_ := Aside0.mk (Kd.R_lower (Kd.R_newM (M := fun k_ => (w.heap.size ≤ k_)) ho0 (below_size (be2_ HB GE337 GE338)) (fun k_ h_ => h_)) (below_size (be2_ HB GE337 GE338))); have n3_ := Aside0.mk (blk_below (g := gb337) (o := .cells #[.string a0_0, .slice A0_1 l0_1.length c0_1, .slice A0_2 l0_2.length c0_2] 27 (0, 0)) (bq_ BK337) hb); have n4_ := Aside0.mk (blk_below (g := gb338) (o := .cells #[.string (⟨#[]⟩ : ByteArray), .slice none 0 0, .slice none 0 0] 27 (0, 0)) (bq_ BK338) hb); have n5_ := Aside0.mk (below_step (be2_ HB GE337 GE338) hb); clear HO0_1; clear HO0_2; clear BK337; clear BK338; clear HB; have HO0_1 := n0_; have HO0_2 := n1_; have HO341 := n2_; have BK337 := n3_; have BK338 := n4_; have HB := n5_; clear n0_ n1_ n2_ n3_ n4_ n5_; (try clear hb); (try clear hb2); (try clear hk); (try clear hi); (try clear ho0); have hcz9_0 : w8.cell? ⟨gb337, 0, none⟩ = some (.string a0_0) := (blk_cell BK337.out 0).trans rfl; have hcz9_1 : w8.cell? ⟨gb337, 1, none⟩ = some (.slice A0_1 l0_1.length c0_1) := (blk_cell BK337.out 1).trans rfl; have hcz9_2 : w8.cell? ⟨gb337, 2, none⟩ = some (.slice A0_2 l0_2.length c0_2) := (blk_cell BK337.out 2).trans rfl; have hfz9_0 := blk_frozen BK337.out 0; have hfz9_1 := blk_frozen BK337.out 1; have hfz9_2 := blk_frozen BK337.out 2; obtain ⟨Ao10, co10, eo10⟩ := Kd.R_slice HO341.out; subst eo10) | ((with_reducible refine gate_callee (f := 55) rfl ?_); refine goesL_ (some 15) rfl rfl Try.func55 (by kernel_rfl) rfl #[.agg #[.string a0_0, .slice A0_1 l0_1.length c0_1, .slice A0_2 l0_2.length c0_2], .slice Ao10 t339.length co10] rfl (by (try simp only [List.map_toArray, List.map_cons, List.map_nil]); first | done | rfl | (simp only [List.length_drop, List.length_take]; rfl)) ?_; (with_reducible refine (pentaglotref31_At.calls k a0_0 (fun k_ => (((((P0_1_ k_ ∨ P0_2_ k_) ∨ w.heap.size ≤ k_) ∧ k_ ≠ gb337) ∧ k_ ≠ gb338) ∧ some k_ ≠ (.slice Ao10 t339.length co10 : Value).ownBlock)) _ _ l0_1 (fun k_ => (((((P0_1_ k_ ∨ P0_2_ k_) ∨ w.heap.size ≤ k_) ∧ k_ ≠ gb337) ∧ k_ ≠ gb338) ∧ some k_ ≠ (.slice Ao10 t339.length co10 : Value).ownBlock)) _ _ l0_2 _ _ t339 t343 t344 t347 t350 _ ?side1 ?side2 ?side3 ?side4 A3.out).mono ?_); (case side1 => exact HO0_1.out); (case side2 => exact HO0_2.out); (case side3 => repeat (first | exact (Kd.R_reads' HO341.out).2.2 | (with_reducible refine Kd.C_alloc ?_ _) | (with_reducible refine Kd.C_drewN ?_ _) | (with_reducible refine Kd.C_drew ?_))); (case side4 => exact (Kd.R_reads' HO341.out).2.1); rintro e w11 ⟨v345, v348, rfl, ho0, ho1, hb⟩; refine ⟨_, rfl, ?_⟩; have n0_ := Aside0.mk (Kd.V_below (vq_ HO0_1) hb); have n1_ := Aside0.mk (Kd.V_below (vq_ HO0_2) hb); have n2_ := Aside0.mk (Kd.R_below (rq_ HO341) hb); have n3_ := Aside0.mk (Kd.V_lower (Kd.V_mono (ok' := fun k_ => ((P0_1_ k_ ∨ P0_2_ k_) ∨ w.heap.size ≤ k_) ∧ some k_ ≠ (.slice Ao10 t339.length co10 : Value).ownBlock ∧ k_ ≠ gb337 ∧ k_ ≠ gb338) ho0 (fun k_ hk_ => ⟨Or.elim hk_ (fun hs_ => Or.elim hs_ (fun hs_ => hs_.1.1.1) (fun hs_ => hs_.1.1.1)) (fun hn_ => (.inr (Nat.le_trans (below_size (be2_ HB GE337 GE338)) hn_))), Or.elim hk_ (fun hs_ => Or.elim hs_ (fun hs_ => hs_.2) (fun hs_ => hs_.2)) (fun hn_ => (Kd.fresh' (Kd.R_lt (rq_ HO341)) k_ hn_)), Or.elim hk_ (fun hs_ => Or.elim hs_ (fun hs_ => hs_.1.1.2) (fun hs_ => hs_.1.1.2)) (fun hn_ => (Kd.freshB (g := gb337) (o := .cells #[.string a0_0, .slice A0_1 l0_1.length c0_1, .slice A0_2 l0_2.length c0_2] 27 (0, 0)) (bq_ BK337) k_ hn_)), Or.elim hk_ (fun hs_ => Or.elim hs_ (fun hs_ => hs_.1.2) (fun hs_ => hs_.1.2)) (fun hn_ => (Kd.freshB (g := gb338) (o := .cells #[.string (⟨#[]⟩ : ByteArray), .slice none 0 0, .slice none 0 0] 27 (0, 0)) (bq_ BK338) k_ hn_))⟩)) (below_size (be2_ HB GE337 GE338))); have n4_ := Aside0.mk (Kd.V_lower (Kd.V_mono (ok' := fun k_ => ((P0_1_ k_ ∨ P0_2_ k_) ∨ w.heap.size ≤ k_) ∧ some k_ ≠ (.slice Ao10 t339.length co10 : Value).ownBlock ∧ k_ ≠ gb337 ∧ k_ ≠ gb338) ho1 (fun k_ hk_ => ⟨Or.elim hk_ (fun hs_ => Or.elim hs_ (fun hs_ => hs_.1.1.1) (fun hs_ => hs_.1.1.1)) (fun hn_ => (.inr (Nat.le_trans (below_size (be2_ HB GE337 GE338)) hn_))), Or.elim hk_ (fun hs_ => Or.elim hs_ (fun hs_ => hs_.2) (fun hs_ => hs_.2)) (fun hn_ => (Kd.fresh' (Kd.R_lt (rq_ HO341)) k_ hn_)), Or.elim hk_ (fun hs_ => Or.elim hs_ (fun hs_ => hs_.1.1.2) (fun hs_ => hs_.1.1.2)) (fun hn_ => (Kd.freshB (g := gb337) (o := .cells #[.string a0_0, .slice A0_1 l0_1.length c0_1, .slice A0_2 l0_2.length c0_2] 27 (0, 0)) (bq_ BK337) k_ hn_)), Or.elim hk_ (fun hs_ => Or.elim hs_ (fun hs_ => hs_.1.2) (fun hs_ => hs_.1.2)) (fun hn_ => (Kd.freshB (g := gb338) (o := .cells #[.string (⟨#[]⟩ : ByteArray), .slice none 0 0, .slice none 0 0] 27 (0, 0)) (bq_ BK338) k_ hn_))⟩)) (below_size (be2_ HB GE337 GE338))); have n5_ := Aside0.mk (blk_below (g := gb337) (o := .cells #[.string a0_0, .slice A0_1 l0_1.length c0_1, .slice A0_2 l0_2.length c0_2] 27 (0, 0)) (bq_ BK337) hb); have n6_ := Aside0.mk (blk_below (g := gb338) (o := .cells #[.string (⟨#[]⟩ : ByteArray), .slice none 0 0, .slice none 0 0] 27 (0, 0)) (bq_ BK338) hb); have n7_ := Aside0.mk (below_step (be2_ HB GE337 GE338) hb); clear HO0_1; clear HO0_2; clear HO341; clear BK337; clear BK338; clear HB; have HO0_1 := n0_; have HO0_2 := n1_; have HO341 := n2_; have HO346 := n3_; have HO349 := n4_; have BK337 := n5_; have BK338 := n6_; have HB := n7_; clear n0_ n1_ n2_ n3_ n4_ n5_ n6_ n7_; (try clear hb); (try clear hb2); (try clear hk); (try clear hi); (try clear ho0); (try clear ho1)) | ((with_reducible refine gate_dst (N := 5) rfl ?_); refine box_event ?hg (N := 5) ?hd (cs := #[.string (⟨#[]⟩ : ByteArray), .slice none 0 0, .slice none 0 0]) (t := 27) ?hr ?_; (case hd => rfl); (case hg => rfl); (case hr => first | (go_simp; done) | (go_simp; rfl)); intro gb351 hg w12 hbox hb; have n0_ := Aside0.mk (Kd.V_below (Kd.V_elderB (vq_ HO0_1) gb351 (Nat.le_of_eq hg.symm)) hb); have n1_ := Aside0.mk (Kd.V_below (Kd.V_elderB (vq_ HO0_2) gb351 (Nat.le_of_eq hg.symm)) hb); have n2_ := Aside0.mk (Kd.R_below (rq_ HO341) hb); have n3_ := Aside0.mk (Kd.V_below (Kd.V_elderB (vq_ HO346) gb351 (Nat.le_of_eq hg.symm)) hb); have n4_ := Aside0.mk (Kd.V_below (Kd.V_elderB (vq_ HO349) gb351 (Nat.le_of_eq hg.symm)) hb); have n5_ := Aside0.mk (blk_below (g := gb337) (o := .cells #[.string a0_0, .slice A0_1 l0_1.length c0_1, .slice A0_2 l0_2.length c0_2] 27 (0, 0)) (bq_ BK337) hb); have n6_ := Aside0.mk (blk_below (g := gb338) (o := .cells #[.string (⟨#[]⟩ : ByteArray), .slice none 0 0, .slice none 0 0] 27 (0, 0)) (bq_ BK338) hb); have n7_ := Aside0.mk (below_step (be2_ HB GE337 GE338) hb); have n8_ := Aside0.mk (hbox); have n9_ := Aside0.mk ((by rw [hg]; exact (below_size (be2_ HB GE337 GE338)) : w.heap.size ≤ gb351)); have n10_ := Aside0.mk ((by rw [hg]; exact (below_size (be2_ HB GE337 GE338)) : w.heap.size ≤ gb351)); have n11_ := Aside0.mk ((by rw [hg]; exact Nat.ne_of_lt (blk_lt (g := gb337) (o := .cells #[.string a0_0, .slice A0_1 l0_1.length c0_1, .slice A0_2 l0_2.length c0_2] 27 (0, 0)) (bq_ BK337)) : gb337 ≠ gb351)); have n12_ := Aside0.mk ((by rw [hg]; exact Nat.ne_of_gt (blk_lt (g := gb337) (o := .cells #[.string a0_0, .slice A0_1 l0_1.length c0_1, .slice A0_2 l0_2.length c0_2] 27 (0, 0)) (bq_ BK337)) : gb351 ≠ gb337)); have n13_ := Aside0.mk ((by rw [hg]; exact Nat.ne_of_lt (blk_lt (g := gb338) (o := .cells #[.string (⟨#[]⟩ : ByteArray), .slice none 0 0, .slice none 0 0] 27 (0, 0)) (bq_ BK338)) : gb338 ≠ gb351)); have n14_ := Aside0.mk ((by rw [hg]; exact Nat.ne_of_gt (blk_lt (g := gb338) (o := .cells #[.string (⟨#[]⟩ : ByteArray), .slice none 0 0, .slice none 0 0] 27 (0, 0)) (bq_ BK338)) : gb351 ≠ gb338)); clear HO0_1; clear HO0_2; clear HO341; clear HO346; clear HO349; clear BK337; clear BK338; clear HB; have HO0_1 := n0_; have HO0_2 := n1_; have HO341 := n2_; have HO346 := n3_; have HO349 := n4_; have BK337 := n5_; have BK338 := n6_; have HB := n7_; have BK351 := n8_; have GW351 := n9_; have GE351 := n10_; have NB337_351 := n11_; have NB351_337 := n12_; have NB338_351 := n13_; have NB351_338 := n14_; clear n0_ n1_ n2_ n3_ n4_ n5_ n6_ n7_ n8_ n9_ n10_ n11_ n12_ n13_ n14_; clear hb hbox hg; have hnb13 := NB351_337.out; have hnc13 := NB337_351.out; have hnb14 := NB351_338.out; have hnc14 := NB338_351.out; have hcz15_0 : w12.cell? ⟨gb351, 0, none⟩ = some (.string (⟨#[]⟩ : ByteArray)) := (blk_cell BK351.out 0).trans rfl; have hcz15_1 : w12.cell? ⟨gb351, 1, none⟩ = some (.slice none 0 0) := (blk_cell BK351.out 1).trans rfl; have hcz15_2 : w12.cell? ⟨gb351, 2, none⟩ = some (.slice none 0 0) := (blk_cell BK351.out 2).trans rfl; have hfz15_0 := blk_frozen BK351.out 0; have hfz15_1 := blk_frozen BK351.out 1; have hfz15_2 := blk_frozen BK351.out 2; obtain ⟨Ao16, co16, eo16⟩ := Kd.V_slice HO346.out; subst eo16; obtain ⟨Ao17, co17, eo17⟩ := Kd.V_slice HO349.out; subst eo17; have hcz18_0 : w12.cell? ⟨gb338, 0, none⟩ = some (.string (⟨#[]⟩ : ByteArray)) := (blk_cell BK338.out 0).trans rfl; have hcz18_1 : w12.cell? ⟨gb338, 1, none⟩ = some (.slice none 0 0) := (blk_cell BK338.out 1).trans rfl; have hcz18_2 : w12.cell? ⟨gb338, 2, none⟩ = some (.slice none 0 0) := (blk_cell BK338.out 2).trans rfl; have hfz18_0 := blk_frozen BK338.out 0; have hfz18_1 := blk_frozen BK338.out 1; have hfz18_2 := blk_frozen BK338.out 2))
 refine bodyPost_ret (results_cell_row rfl _ _ gb338 27 #[.string t343, .slice Ao16 t344.length co16, .slice Ao17 t347.length co17] (0, 0) _ rfl (by (with_reducible repeat (first | refine blk_drewN ?_ _ | refine blk_drew ?_ | refine blk_alloc ?_ _)); refine blk_put (cs := #[.string t343, .slice Ao16 t344.length co16, .slice none 0 0]) ?_ 2 _ rfl; (with_reducible repeat (first | refine blk_drewN ?_ _ | refine blk_drew ?_ | refine blk_alloc ?_ _)); refine blk_put (cs := #[.string t343, .slice none 0 0, .slice none 0 0]) ?_ 1 _ rfl; (with_reducible repeat (first | refine blk_drewN ?_ _ | refine blk_drew ?_ | refine blk_alloc ?_ _)); refine blk_put (cs := #[.string (⟨#[]⟩ : ByteArray), .slice none 0 0, .slice none 0 0]) ?_ 0 _ rfl; (with_reducible repeat (first | refine blk_drewN ?_ _ | refine blk_drew ?_ | refine blk_alloc ?_ _)); refine blk_far ?_ NB338_351.out _; (with_reducible repeat (first | refine blk_drewN ?_ _ | refine blk_drew ?_ | refine blk_alloc ?_ _)); refine blk_far ?_ NB338_351.out _; (with_reducible repeat (first | refine blk_drewN ?_ _ | refine blk_drew ?_ | refine blk_alloc ?_ _)); refine blk_far ?_ NB338_351.out _; (with_reducible repeat (first | refine blk_drewN ?_ _ | refine blk_drew ?_ | refine blk_alloc ?_ _)); exact BK338.out) Try.underlying27 rfl (by kernel_rfl)) rfl ?_
 exact ⟨_, _, er_, by (with_reducible repeat (first | apply Kd.V_alloc | apply Kd.V_drewN | apply Kd.V_drew)); exact Kd.V_mono (Kd.V_far (p := ⟨gb338, 2, none⟩) (Kd.V_far (p := ⟨gb338, 1, none⟩) (Kd.V_far (p := ⟨gb338, 0, none⟩) (Kd.V_far (p := ⟨gb351, 2, none⟩) (Kd.V_far (p := ⟨gb351, 1, none⟩) (Kd.V_far (p := ⟨gb351, 0, none⟩) (Kd.V_mono (Kd.V_mono HO346.out (fun k_ hk => (⟨hk, hk.2⟩ : _ ∧ k_ ≠ gb351))) (fun k_ hk => (⟨hk, hk.1.1.2.2.2⟩ : _ ∧ k_ ≠ gb338))) (fun _ hk => hk.1.2) (.string t343)) (fun _ hk => hk.1.2) (.slice Ao16 t344.length co16)) (fun _ hk => hk.1.2) (.slice Ao17 t347.length co17)) (fun _ hk => hk.2) (.string t343)) (fun _ hk => hk.2) (.slice Ao16 t344.length co16)) (fun _ hk => hk.2) (.slice Ao17 t347.length co17)) (fun _ hk => hk.1.1.1.1), by (with_reducible repeat (first | apply Kd.V_alloc | apply Kd.V_drewN | apply Kd.V_drew)); exact Kd.V_mono (Kd.V_far (p := ⟨gb338, 2, none⟩) (Kd.V_far (p := ⟨gb338, 1, none⟩) (Kd.V_far (p := ⟨gb338, 0, none⟩) (Kd.V_far (p := ⟨gb351, 2, none⟩) (Kd.V_far (p := ⟨gb351, 1, none⟩) (Kd.V_far (p := ⟨gb351, 0, none⟩) (Kd.V_mono (Kd.V_mono HO349.out (fun k_ hk => (⟨hk, hk.2⟩ : _ ∧ k_ ≠ gb351))) (fun k_ hk => (⟨hk, hk.1.1.2.2.2⟩ : _ ∧ k_ ≠ gb338))) (fun _ hk => hk.1.2) (.string t343)) (fun _ hk => hk.1.2) (.slice Ao16 t344.length co16)) (fun _ hk => hk.1.2) (.slice Ao17 t347.length co17)) (fun _ hk => hk.2) (.string t343)) (fun _ hk => hk.2) (.slice Ao16 t344.length co16)) (fun _ hk => hk.2) (.slice Ao17 t347.length co17)) (fun _ hk => hk.1.1.1.1), be3_ HB GE337 GE338 GE351⟩

/-! ### pentaglotref46_Singular: function 39 -/
def pentaglotref46_Singular.f (a0_0 : ByteArray) (l0_1 : List Int) (l0_2 : List (S27)) : Option (Bool) := some (a0_0.toList == ([78, 97, 109, 101] : List UInt8))
set_option maxHeartbeats 8000000 in
set_option maxRecDepth 100000 in
theorem pentaglotref46_Singular.calls (a0_0 : ByteArray) (A0_1 : Option Addr) (c0_1 : Nat) (l0_1 : List Int) (A0_2 : Option Addr) (c0_2 : Nat) (l0_2 : List (S27)) (r : Bool) (w : World) (hr0_1 : Kd.C (Kd.int .i64) w A0_1 l0_1.length l0_1) (hc0_1 : l0_1.length ≤ c0_1) (hr0_2 : Kd.C k27 w A0_2 l0_2.length l0_2) (hc0_2 : l0_2.length ≤ c0_2) (h : pentaglotref46_Singular.f a0_0 l0_1 l0_2 = some r) :
  Calls Try.prog 39 #[.agg #[.string a0_0, .slice A0_1 l0_1.length c0_1, .slice A0_2 l0_2.length c0_2]] w fun e w' => e = .returned (.bool r) ∧ Below w.heap.size w w' := by
 have hu27 := Try.underlying27
 have HR0_1 := Aside0.mk hr0_1
 have HC0_1 := Aside0.mk hc0_1
 clear hr0_1 hc0_1
 have HR0_2 := Aside0.mk hr0_2
 have HC0_2 := Aside0.mk hc0_2
 clear hr0_2 hc0_2
 have HB := Aside0.mk (Below.refl w.heap.size w)
 have H : (some (a0_0.toList == ([78, 97, 109, 101] : List UInt8))) = some r := h
 clear h
 obtain rfl := Option.some.inj H
 go_enter Try.func39, Try.ntmps39
 go_wp2_with (first | ((with_reducible refine gate_dst (N := 1) rfl ?_); refine box_event ?hg (N := 1) ?hd (cs := #[.string a0_0, .slice A0_1 l0_1.length c0_1, .slice A0_2 l0_2.length c0_2]) (t := 27) ?hr ?_; (case hd => rfl); (case hg => rfl); (case hr => first | (go_simp; done) | (go_simp; rfl)); intro gb352 hg w2 hbox hb; have n0_ := Aside0.mk (below_step (be_ HB) hb); have n1_ := Aside0.mk (hbox); have n2_ := Aside0.mk ((by rw [hg]; exact (below_size (be_ HB)) : w.heap.size ≤ gb352)); have n3_ := Aside0.mk ((by rw [hg]; exact (below_size (be_ HB)) : w.heap.size ≤ gb352)); clear HB; have HB := n0_; have BK352 := n1_; have GW352 := n2_; have GE352 := n3_; clear n0_ n1_ n2_ n3_; clear hb hbox hg; have hcz3_0 : w2.cell? ⟨gb352, 0, none⟩ = some (.string a0_0) := (blk_cell BK352.out 0).trans rfl; have hcz3_1 : w2.cell? ⟨gb352, 1, none⟩ = some (.slice A0_1 l0_1.length c0_1) := (blk_cell BK352.out 1).trans rfl; have hcz3_2 : w2.cell? ⟨gb352, 2, none⟩ = some (.slice A0_2 l0_2.length c0_2) := (blk_cell BK352.out 2).trans rfl; have hfz3_0 := blk_frozen BK352.out 0; have hfz3_1 := blk_frozen BK352.out 1; have hfz3_2 := blk_frozen BK352.out 2))
 go_ret
 exact ⟨er_, be1_ HB GE352⟩

/-! ### pentaglotref46_Plural: function 40 -/
mutual
def pentaglotref46_Plural.j0 : Nat → Bool → ByteArray → List Int → List (S27) → Option (Bool)
 | 0, _, _, _, _ => none
 | k + 1, x12, x354000, x354001, x354002 => if x12 = true then (some false) else (pentaglotref46_Plural.l0 k 0 x354000 x354001 x354002)
def pentaglotref46_Plural.l0 : Nat → Int → ByteArray → List Int → List (S27) → Option (Bool)
 | 0, _, _, _, _ => none
 | k + 1, x3, x354000, x354001, x354002 => if x3 < (x354002.length : Int) then (if 0 ≤ x3 then ((pentaglotref46_Singular.f ((rd_T27 x354002 x3).f0) ((rd_T27 x354002 x3).f1) ((rd_T27 x354002 x3).f2)).bind fun t355 => (if t355 = true then (pentaglotref46_Plural.l0 k (wrap64 (x3 + 1)) x354000 x354001 x354002) else ((pentaglotref46_Plural.f k ((rd_T27 x354002 x3).f0) ((rd_T27 x354002 x3).f1) ((rd_T27 x354002 x3).f2)).bind fun t357 => (if t357 = true then (pentaglotref46_Plural.l0 k (wrap64 (x3 + 1)) x354000 x354001 x354002) else (some false))))) else (none)) else (some true)
def pentaglotref46_Plural.f : Nat → ByteArray → List Int → List (S27) → Option (Bool)
 | 0, _, _, _ => none
 | k + 1, a0_0, l0_1, l0_2 => if a0_0.toList = ([66, 111, 116, 104] : List UInt8) then (pentaglotref46_Plural.j0 k ((l0_2.length : Int) != 2) a0_0 l0_1 l0_2) else (pentaglotref46_Plural.j0 k true a0_0 l0_1 l0_2)
end
theorem pentaglotref46_Plural.mono_l : ∀ k, (∀ y0 y1 y2, LeO (pentaglotref46_Plural.f k y0 y1 y2) (pentaglotref46_Plural.f (k + 1) y0 y1 y2)) ∧ (∀ y0 y1 y2 y3, LeO (pentaglotref46_Plural.j0 k y0 y1 y2 y3) (pentaglotref46_Plural.j0 (k + 1) y0 y1 y2 y3)) ∧ (∀ y0 y1 y2 y3, LeO (pentaglotref46_Plural.l0 k y0 y1 y2 y3) (pentaglotref46_Plural.l0 (k + 1) y0 y1 y2 y3))
 | 0 => ⟨fun _ _ _ r h => by simp [pentaglotref46_Plural.f] at h, fun _ _ _ _ r h => by simp [pentaglotref46_Plural.j0] at h, fun _ _ _ _ r h => by simp [pentaglotref46_Plural.l0] at h⟩
 | k + 1 => by
  obtain ⟨ih0, ih1, ih2⟩ := pentaglotref46_Plural.mono_l k
  refine ⟨?_, ?_, ?_⟩
  ·intro y0 y1 y2
   unfold pentaglotref46_Plural.f
   repeat' first
   | (with_reducible exact ih0 _ _ _)
   | (with_reducible exact ih1 _ _ _ _)
   | (with_reducible exact ih2 _ _ _ _)
   | (with_reducible exact LeO.refl _)
   | (with_reducible exact LeO.none _)
   | (with_reducible refine LeO.ite ?_ ?_)
   | (with_reducible refine LeO.bind ?_ (fun _ => ?_))
   | exact ih0 _ _ _
   | exact ih1 _ _ _ _
   | exact ih2 _ _ _ _
   | exact LeO.none _
   | refine LeO.ite ?_ ?_
   | refine LeO.bind ?_ (fun _ => ?_)
  ·intro y0 y1 y2 y3
   unfold pentaglotref46_Plural.j0
   repeat' first
   | (with_reducible exact ih0 _ _ _)
   | (with_reducible exact ih1 _ _ _ _)
   | (with_reducible exact ih2 _ _ _ _)
   | (with_reducible exact LeO.refl _)
   | (with_reducible exact LeO.none _)
   | (with_reducible refine LeO.ite ?_ ?_)
   | (with_reducible refine LeO.bind ?_ (fun _ => ?_))
   | exact ih0 _ _ _
   | exact ih1 _ _ _ _
   | exact ih2 _ _ _ _
   | exact LeO.none _
   | refine LeO.ite ?_ ?_
   | refine LeO.bind ?_ (fun _ => ?_)
  ·intro y0 y1 y2 y3
   unfold pentaglotref46_Plural.l0
   repeat' first
   | (with_reducible exact ih0 _ _ _)
   | (with_reducible exact ih1 _ _ _ _)
   | (with_reducible exact ih2 _ _ _ _)
   | (with_reducible exact LeO.refl _)
   | (with_reducible exact LeO.none _)
   | (with_reducible refine LeO.ite ?_ ?_)
   | (with_reducible refine LeO.bind ?_ (fun _ => ?_))
   | exact ih0 _ _ _
   | exact ih1 _ _ _ _
   | exact ih2 _ _ _ _
   | exact LeO.none _
   | refine LeO.ite ?_ ?_
   | refine LeO.bind ?_ (fun _ => ?_)
theorem pentaglotref46_Plural.mono : ∀ a0 a1 a2 k, LeO (pentaglotref46_Plural.f k a0 a1 a2) (pentaglotref46_Plural.f (k + 1) a0 a1 a2) := by
 intro a0 a1 a2 k
 obtain ⟨ih0, ih1, ih2⟩ := pentaglotref46_Plural.mono_l k
 exact ih0 a0 a1 a2
set_option maxHeartbeats 8000000 in
set_option maxRecDepth 100000 in
theorem pentaglotref46_Plural.calls (k : Nat) : ∀ (a0_0 : ByteArray) (A0_1 : Option Addr) (c0_1 : Nat) (l0_1 : List Int) (A0_2 : Option Addr) (c0_2 : Nat) (l0_2 : List (S27)) (r : Bool) (w : World) (hr0_1 : Kd.C (Kd.int .i64) w A0_1 l0_1.length l0_1) (hc0_1 : l0_1.length ≤ c0_1) (hr0_2 : Kd.C k27 w A0_2 l0_2.length l0_2) (hc0_2 : l0_2.length ≤ c0_2) (h : pentaglotref46_Plural.f k a0_0 l0_1 l0_2 = some r),
  Calls Try.prog 40 #[.agg #[.string a0_0, .slice A0_1 l0_1.length c0_1, .slice A0_2 l0_2.length c0_2]] w fun e w' => e = .returned (.bool r) ∧ Below w.heap.size w w' := by
 induction k using Nat.strongRecOn with
 | _ k ih =>
 intro a0_0 A0_1 c0_1 l0_1 A0_2 c0_2 l0_2 r w hr0_1 hc0_1 hr0_2 hc0_2 h
 cases k with
 | zero => exact absurd h (by simp [pentaglotref46_Plural.f])
 | succ k =>
 simp only [pentaglotref46_Plural.f] at h
 have hu27 := Try.underlying27
 have HR0_1 := Aside0.mk hr0_1
 have HC0_1 := Aside0.mk hc0_1
 clear hr0_1 hc0_1
 have HR0_2 := Aside0.mk hr0_2
 have HC0_2 := Aside0.mk hc0_2
 clear hr0_2 hc0_2
 have HB := Aside0.mk (Below.refl w.heap.size w)
 have H : (if a0_0.toList = ([66, 111, 116, 104] : List UInt8) then (pentaglotref46_Plural.j0 k ((l0_2.length : Int) != 2) a0_0 l0_1 l0_2) else (pentaglotref46_Plural.j0 k true a0_0 l0_1 l0_2)) = some r := h
 clear h
 have HC2 := Aside0.mk H
 clear H
 go_enter Try.func40, Try.ntmps40
 go_upto_region 1 with (first | ((with_reducible refine gate_dst (N := 1) rfl ?_); (try (refine gate_guard (by rfl) ?_; dsimp only)); refine box_event ?hg (N := 1) ?hd (cs := #[.string a0_0, .slice A0_1 l0_1.length c0_1, .slice A0_2 l0_2.length c0_2]) (t := 27) ?hr ?_; (case hd => rfl); (case hg => rfl); (case hr => first | (go_simp; done) | (go_simp; rfl)); intro gb353 hg w3 hbox hb; have n0_ := Aside0.mk (below_step (be_ HB) hb); have n1_ := Aside0.mk (hbox); have n2_ := Aside0.mk ((by rw [hg]; exact (below_size (be_ HB)) : w.heap.size ≤ gb353)); have n3_ := Aside0.mk ((by rw [hg]; exact (below_size (be_ HB)) : w.heap.size ≤ gb353)); clear HB; have HB := n0_; have BK353 := n1_; have GW353 := n2_; have GE353 := n3_; clear n0_ n1_ n2_ n3_; clear hb hbox hg))
 (try simp only [Act.put, List.setIfInBounds_toArray, List.set_cons_zero, List.set_cons_succ])
 go_cut [12] (fun v12 wc => ∃ (kq : Nat) (x12_1 : Bool), v12 = .bool x12_1 ∧ Aside0 (pentaglotref46_Plural.j0 kq x12_1 a0_0 l0_1 l0_2 = some r) ∧ Aside0 (kq ≤ k) ∧ Aside0 (wc.heap[gb353]? = some (.cells #[.string a0_0, (.slice A0_1 l0_1.length c0_1), (.slice A0_2 l0_2.length c0_2)] 27 (0, 0))) ∧ Aside0 (Below w.heap.size w wc))
 case first =>
  have H := HC2.out
  clear HC2
  by_cases c4 : a0_0.toList = ([66, 111, 116, 104] : List UInt8)
  ·rw [if_pos c4] at H
   have c4b0 : (a0_0.toList == ([66, 111, 116, 104] : List UInt8)) = true := beq_iff_eq.mpr c4
   have c4b1 : (a0_0.toList != ([66, 111, 116, 104] : List UInt8)) = false := bne_eq_false_iff_eq.mpr c4
   clear c4
   (first | rw [c4b0] | (simp only [i64_w, i32_w]; rw [c4b0]) | skip)
   have H' := Aside0.mk H
   clear H
   have hcz5_0 : w3.cell? ⟨gb353, 0, none⟩ = some (.string a0_0) := (blk_cell BK353.out 0).trans rfl
   have hcz5_1 : w3.cell? ⟨gb353, 1, none⟩ = some (.slice A0_1 l0_1.length c0_1) := (blk_cell BK353.out 1).trans rfl
   have hcz5_2 : w3.cell? ⟨gb353, 2, none⟩ = some (.slice A0_2 l0_2.length c0_2) := (blk_cell BK353.out 2).trans rfl
   have hfz5_0 := blk_frozen BK353.out 0
   have hfz5_1 := blk_frozen BK353.out 1
   have hfz5_2 := blk_frozen BK353.out 2
   go_wp2
   go_meet
   case rel => exact ⟨_, (((l0_2.length : Int) != 2)), fi_, H', ⟨by first | omega | exact Nat.le_refl _⟩, ⟨bq_ BK353⟩, ⟨be1_ HB GE353⟩⟩
  ·rw [if_neg c4] at H
   have c4b0 : (a0_0.toList == ([66, 111, 116, 104] : List UInt8)) = false := beq_eq_false_iff_ne.mpr c4
   have c4b1 : (a0_0.toList != ([66, 111, 116, 104] : List UInt8)) = true := bne_iff_ne.mpr c4
   (first | rw [c4b0] | (simp only [i64_w, i32_w]; rw [c4b0]) | skip)
   have H' := Aside0.mk H
   clear H
   have hcz6_0 : w3.cell? ⟨gb353, 0, none⟩ = some (.string a0_0) := (blk_cell BK353.out 0).trans rfl
   have hcz6_1 : w3.cell? ⟨gb353, 1, none⟩ = some (.slice A0_1 l0_1.length c0_1) := (blk_cell BK353.out 1).trans rfl
   have hcz6_2 : w3.cell? ⟨gb353, 2, none⟩ = some (.slice A0_2 l0_2.length c0_2) := (blk_cell BK353.out 2).trans rfl
   have hfz6_0 := blk_frozen BK353.out 0
   have hfz6_1 := blk_frozen BK353.out 1
   have hfz6_2 := blk_frozen BK353.out 2
   go_wp2
   go_meet
   case rel => exact ⟨_, (true), fi_, H', ⟨by first | omega | exact Nat.le_refl _⟩, ⟨bq_ BK353⟩, ⟨be1_ HB GE353⟩⟩
 case rest =>
  clear HC2
  try clear p2
  try clear c4
  try clear c4b0
  try clear c4b1
  try clear hcz5_0
  try clear hcz5_1
  try clear hcz5_2
  try clear hcz6_0
  try clear hcz6_1
  try clear hcz6_2
  try clear hfz5_0
  try clear hfz5_1
  try clear hfz5_2
  try clear hfz6_0
  try clear hfz6_1
  try clear hfz6_2
  obtain ⟨kq, x12_1, rfl, HA, HJ1, BK353, HB⟩ := hcut
  cases kq with
  | zero => exact absurd HA.out (by simp [pentaglotref46_Plural.j0])
  | succ kj1 =>
   have H := HA.out
   clear HA
   simp only [pentaglotref46_Plural.j0] at H
   by_cases c7 : x12_1 = true
   ·subst c7
    have H1 : (some false) = some r := by rw [if_pos rfl] at H; exact H
    clear H
    have H := H1
    clear H1
    obtain rfl := Option.some.inj H
    go_wp2
    go_ret
    exact ⟨er_, be1_ HB GE353⟩
   ·replace c7 := Bool.eq_false_iff.mpr c7
    subst c7
    have H1 : (pentaglotref46_Plural.l0 kj1 0 a0_0 l0_1 l0_2) = some r := by rw [if_neg (show ¬ (false = true) by decide)] at H; exact H
    clear H
    have H := H1
    clear H1
    have H' := Aside0.mk H
    clear H
    go_wp2
    go_loopg [3] kj1 (fun kq v3 w' => ∃ (x3_2 : Int), v3 = .int .i64 x3_2 ∧ Aside0 (pentaglotref46_Plural.l0 kq x3_2 a0_0 l0_1 l0_2 = some r) ∧ Aside0 (kq ≤ kj1) ∧ Aside0 (w'.heap[gb353]? = some (.cells #[.string a0_0, (.slice A0_1 l0_1.length c0_1), (.slice A0_2 l0_2.length c0_2)] 27 (0, 0))) ∧ Aside0 (Below w.heap.size w w'))
    case atStart => exact ⟨(0), fi_, H', ⟨Nat.le_refl _⟩, ⟨bq_ BK353⟩, ⟨be1_ HB GE353⟩⟩
    case round =>
     clear H'
     try clear p2
     try clear c4
     try clear c4b0
     try clear c4b1
     try clear c7
     try clear hcz5_0
     try clear hcz5_1
     try clear hcz5_2
     try clear hcz6_0
     try clear hcz6_1
     try clear hcz6_2
     try clear hfz5_0
     try clear hfz5_1
     try clear hfz5_2
     try clear hfz6_0
     try clear hfz6_1
     try clear hfz6_2
     try clear p2
     obtain ⟨x3_2, rfl, HA, HK2, BK353, HB⟩ := hrel
     cases gk with
     | zero => exact absurd HA.out (by simp [pentaglotref46_Plural.l0])
     | succ k2 =>
      have H := HA.out
      clear HA
      simp only [pentaglotref46_Plural.l0] at H
      by_cases c8 : x3_2 < (l0_2.length : Int)
      ·rw [if_pos c8] at H
       have c8b0 : decide (x3_2 < (l0_2.length : Int)) = true := decide_eq_true c8
       clear c8
       by_cases c9 : 0 ≤ x3_2
       ·rw [if_pos c9] at H
        have c9b0 : decide (0 ≤ x3_2) = true := decide_eq_true c9
        clear c9
        replace H := Option.bind_eq_some_iff.mp H
        obtain ⟨t355, A100, H⟩ := H
        replace H : (if t355 = true then (pentaglotref46_Plural.l0 k2 (wrap64 (x3_2 + 1)) a0_0 l0_1 l0_2) else ((pentaglotref46_Plural.f k2 ((rd_T27 l0_2 x3_2).f0) ((rd_T27 l0_2 x3_2).f1) ((rd_T27 l0_2 x3_2).f2)).bind fun t357 => (if t357 = true then (pentaglotref46_Plural.l0 k2 (wrap64 (x3_2 + 1)) a0_0 l0_1 l0_2) else (some false)))) = some r := H
        have A10 := Aside0.mk A100
        clear A100
        by_cases c11 : t355 = true
        ·subst c11
         have H1 : (pentaglotref46_Plural.l0 k2 (wrap64 (x3_2 + 1)) a0_0 l0_1 l0_2) = some r := by rw [if_pos rfl] at H; exact H
         clear H
         have H := H1
         clear H1
         have H' := Aside0.mk H
         clear H
         have hcz12_0 : wr.cell? ⟨gb353, 0, none⟩ = some (.string a0_0) := (blk_cell BK353.out 0).trans rfl
         have hcz12_1 : wr.cell? ⟨gb353, 1, none⟩ = some (.slice A0_1 l0_1.length c0_1) := (blk_cell BK353.out 1).trans rfl
         have hcz12_2 : wr.cell? ⟨gb353, 2, none⟩ = some (.slice A0_2 l0_2.length c0_2) := (blk_cell BK353.out 2).trans rfl
         have hfz12_0 := blk_frozen BK353.out 0
         have hfz12_1 := blk_frozen BK353.out 1
         have hfz12_2 := blk_frozen BK353.out 2
         have p354 : 0 ≤ (x3_2 : Int) := of_decide_eq_true (by first | (with_reducible assumption) | assumption)
         have q354 : x3_2 < (l0_2.length : Int) := of_decide_eq_true (by first | (with_reducible assumption) | assumption)
         obtain ⟨ad354, A354_1, c354_1, A354_2, c354_2, e354, hx354_0, hx354_1, hx354_2, hl354_1, hi354_1, hl354_2, hi354_2⟩ := at_T27 HR0_2.out x3_2 p354 q354
         cases e354
         replace hx354_0 := (HB.out.cell (World.block_lt_of_cell? w _ hx354_0)).trans hx354_0
         replace hx354_1 := (HB.out.cell (World.block_lt_of_cell? w _ hx354_1)).trans hx354_1
         replace hx354_2 := (HB.out.cell (World.block_lt_of_cell? w _ hx354_2)).trans hx354_2
         have HR354_1 := Aside0.mk hi354_1
         have HC354_1 := Aside0.mk hl354_1
         clear hi354_1 hl354_1
         have HR354_2 := Aside0.mk hi354_2
         have HC354_2 := Aside0.mk hl354_2
         clear hi354_2 hl354_2
         replace p354 := eq_true p354
         replace q354 := eq_true q354
         go_wp2_with (first | ((with_reducible refine gate_callee (f := 39) rfl ?_); refine goesL_ (some 25) rfl rfl Try.func39 (by kernel_rfl) rfl #[.agg #[.string ((rd_T27 l0_2 x3_2).f0), .slice A354_1 ((rd_T27 l0_2 x3_2).f1).length c354_1, .slice A354_2 ((rd_T27 l0_2 x3_2).f2).length c354_2]] rfl (by (try simp only [List.map_toArray, List.map_cons, List.map_nil]); first | done | rfl | (simp only [List.length_drop, List.length_take]; rfl)) ?_; (with_reducible refine (pentaglotref46_Singular.calls ((rd_T27 l0_2 x3_2).f0) _ _ ((rd_T27 l0_2 x3_2).f1) _ _ ((rd_T27 l0_2 x3_2).f2) true _ ?side1 ?side2 ?side3 ?side4 A10.out).mono ?_); (case side1 => exact cs_ (Kd.C_below HR354_1.out HB.out)); (case side2 => exact HC354_1.out); (case side3 => exact cs_ (Kd.C_below HR354_2.out HB.out)); (case side4 => exact HC354_2.out); rintro e w13 ⟨rfl, hb⟩; refine ⟨_, rfl, ?_⟩; have n0_ := Aside0.mk (blk_below (g := gb353) (o := .cells #[.string a0_0, .slice A0_1 l0_1.length c0_1, .slice (some ad354) l0_2.length c0_2] 27 (0, 0)) (bq_ BK353) hb); have n1_ := Aside0.mk (below_step (be1_ HB GE353) hb); clear BK353; clear HB; have BK353 := n0_; have HB := n1_; clear n0_ n1_; (try clear hb); (try clear hb2); (try clear hk); (try clear hi)))
         go_roundg k2
         case measure => have := HJ1.out; have := HK2.out; omega
         case rel => exact ⟨(wrap64 (x3_2 + 1)), fi_, H', ⟨by have := HJ1.out; have := HK2.out; omega⟩, ⟨bq_ BK353⟩, ⟨be1_ HB GE353⟩⟩
        ·replace c11 := Bool.eq_false_iff.mpr c11
         subst c11
         have H1 : ((pentaglotref46_Plural.f k2 ((rd_T27 l0_2 x3_2).f0) ((rd_T27 l0_2 x3_2).f1) ((rd_T27 l0_2 x3_2).f2)).bind fun t357 => (if t357 = true then (pentaglotref46_Plural.l0 k2 (wrap64 (x3_2 + 1)) a0_0 l0_1 l0_2) else (some false))) = some r := by rw [if_neg (show ¬ (false = true) by decide)] at H; exact H
         clear H
         have H := H1
         clear H1
         replace H := Option.bind_eq_some_iff.mp H
         obtain ⟨t357, A140, H⟩ := H
         replace H : (if t357 = true then (pentaglotref46_Plural.l0 k2 (wrap64 (x3_2 + 1)) a0_0 l0_1 l0_2) else (some false)) = some r := H
         have A14 := Aside0.mk A140
         clear A140
         by_cases c15 : t357 = true
         ·subst c15
          have H1 : (pentaglotref46_Plural.l0 k2 (wrap64 (x3_2 + 1)) a0_0 l0_1 l0_2) = some r := by rw [if_pos rfl] at H; exact H
          clear H
          have H := H1
          clear H1
          have H' := Aside0.mk H
          clear H
          have hcz16_0 : wr.cell? ⟨gb353, 0, none⟩ = some (.string a0_0) := (blk_cell BK353.out 0).trans rfl
          have hcz16_1 : wr.cell? ⟨gb353, 1, none⟩ = some (.slice A0_1 l0_1.length c0_1) := (blk_cell BK353.out 1).trans rfl
          have hcz16_2 : wr.cell? ⟨gb353, 2, none⟩ = some (.slice A0_2 l0_2.length c0_2) := (blk_cell BK353.out 2).trans rfl
          have hfz16_0 := blk_frozen BK353.out 0
          have hfz16_1 := blk_frozen BK353.out 1
          have hfz16_2 := blk_frozen BK353.out 2
          have p354 : 0 ≤ (x3_2 : Int) := of_decide_eq_true (by first | (with_reducible assumption) | assumption)
          have q354 : x3_2 < (l0_2.length : Int) := of_decide_eq_true (by first | (with_reducible assumption) | assumption)
          obtain ⟨ad354, A354_1, c354_1, A354_2, c354_2, e354, hx354_0, hx354_1, hx354_2, hl354_1, hi354_1, hl354_2, hi354_2⟩ := at_T27 HR0_2.out x3_2 p354 q354
          cases e354
          replace hx354_0 := (HB.out.cell (World.block_lt_of_cell? w _ hx354_0)).trans hx354_0
          replace hx354_1 := (HB.out.cell (World.block_lt_of_cell? w _ hx354_1)).trans hx354_1
          replace hx354_2 := (HB.out.cell (World.block_lt_of_cell? w _ hx354_2)).trans hx354_2
          have HR354_1 := Aside0.mk hi354_1
          have HC354_1 := Aside0.mk hl354_1
          clear hi354_1 hl354_1
          have HR354_2 := Aside0.mk hi354_2
          have HC354_2 := Aside0.mk hl354_2
          clear hi354_2 hl354_2
          replace p354 := eq_true p354
          replace q354 := eq_true q354
          go_wp2_with (first | ((with_reducible refine gate_callee (f := 39) rfl ?_); refine goesL_ (some 25) rfl rfl Try.func39 (by kernel_rfl) rfl #[.agg #[.string ((rd_T27 l0_2 x3_2).f0), .slice A354_1 ((rd_T27 l0_2 x3_2).f1).length c354_1, .slice A354_2 ((rd_T27 l0_2 x3_2).f2).length c354_2]] rfl (by (try simp only [List.map_toArray, List.map_cons, List.map_nil]); first | done | rfl | (simp only [List.length_drop, List.length_take]; rfl)) ?_; (with_reducible refine (pentaglotref46_Singular.calls ((rd_T27 l0_2 x3_2).f0) _ _ ((rd_T27 l0_2 x3_2).f1) _ _ ((rd_T27 l0_2 x3_2).f2) false _ ?side1 ?side2 ?side3 ?side4 A10.out).mono ?_); (case side1 => exact cs_ (Kd.C_below HR354_1.out HB.out)); (case side2 => exact HC354_1.out); (case side3 => exact cs_ (Kd.C_below HR354_2.out HB.out)); (case side4 => exact HC354_2.out); rintro e w17 ⟨rfl, hb⟩; refine ⟨_, rfl, ?_⟩; have n0_ := Aside0.mk (blk_below (g := gb353) (o := .cells #[.string a0_0, .slice A0_1 l0_1.length c0_1, .slice (some ad354) l0_2.length c0_2] 27 (0, 0)) (bq_ BK353) hb); have n1_ := Aside0.mk (below_step (be1_ HB GE353) hb); clear BK353; clear HB; have BK353 := n0_; have HB := n1_; clear n0_ n1_; (try clear hb); (try clear hb2); (try clear hk); (try clear hi); have hcz18_0 : w17.cell? ⟨gb353, 0, none⟩ = some (.string a0_0) := (blk_cell BK353.out 0).trans rfl; have hcz18_1 : w17.cell? ⟨gb353, 1, none⟩ = some (.slice A0_1 l0_1.length c0_1) := (blk_cell BK353.out 1).trans rfl; have hcz18_2 : w17.cell? ⟨gb353, 2, none⟩ = some (.slice (some ad354) l0_2.length c0_2) := (blk_cell BK353.out 2).trans rfl; have hfz18_0 := blk_frozen BK353.out 0; have hfz18_1 := blk_frozen BK353.out 1; have hfz18_2 := blk_frozen BK353.out 2; have p356 : 0 ≤ (x3_2 : Int) := of_decide_eq_true (by first | (with_reducible assumption) | assumption); have q356 : x3_2 < (l0_2.length : Int) := of_decide_eq_true (by first | (with_reducible assumption) | assumption); obtain ⟨ad356, A356_1, c356_1, A356_2, c356_2, e356, hx356_0, hx356_1, hx356_2, hl356_1, hi356_1, hl356_2, hi356_2⟩ := at_T27 HR0_2.out x3_2 p356 q356; obtain rfl : ad354 = ad356 := (by injection e356); replace hx356_0 := (HB.out.cell (World.block_lt_of_cell? w _ hx356_0)).trans hx356_0; replace hx356_1 := (HB.out.cell (World.block_lt_of_cell? w _ hx356_1)).trans hx356_1; replace hx356_2 := (HB.out.cell (World.block_lt_of_cell? w _ hx356_2)).trans hx356_2; have HR356_1 := Aside0.mk hi356_1; have HC356_1 := Aside0.mk hl356_1; clear hi356_1 hl356_1; have HR356_2 := Aside0.mk hi356_2; have HC356_2 := Aside0.mk hl356_2; clear hi356_2 hl356_2; replace p356 := eq_true p356; replace q356 := eq_true q356) | (go_at_call 40; (with_reducible refine (ih k2 (by have := HJ1.out; have := HK2.out; omega) ((rd_T27 l0_2 x3_2).f0) _ _ ((rd_T27 l0_2 x3_2).f1) _ _ ((rd_T27 l0_2 x3_2).f2) true _ ?side1 ?side2 ?side3 ?side4 A14.out).mono ?_); (case side1 => exact cs_ (Kd.C_below HR356_1.out HB.out)); (case side2 => exact HC356_1.out); (case side3 => exact cs_ (Kd.C_below HR356_2.out HB.out)); (case side4 => exact HC356_2.out); rintro e w19 ⟨rfl, hb⟩; have n0_ := Aside0.mk (blk_below (g := gb353) (o := .cells #[.string a0_0, .slice A0_1 l0_1.length c0_1, .slice (some ad354) l0_2.length c0_2] 27 (0, 0)) (bq_ BK353) hb); have n1_ := Aside0.mk (below_step (be1_ HB GE353) hb); clear BK353; clear HB; have BK353 := n0_; have HB := n1_; clear n0_ n1_; (try clear hb); (try clear hb2); (try clear hk); (try clear hi)))
          go_roundg k2
          case measure => have := HJ1.out; have := HK2.out; omega
          case rel => exact ⟨(wrap64 (x3_2 + 1)), fi_, H', ⟨by have := HJ1.out; have := HK2.out; omega⟩, ⟨bq_ BK353⟩, ⟨be1_ HB GE353⟩⟩
         ·replace c15 := Bool.eq_false_iff.mpr c15
          subst c15
          have H1 : (some false) = some r := by rw [if_neg (show ¬ (false = true) by decide)] at H; exact H
          clear H
          have H := H1
          clear H1
          obtain rfl := Option.some.inj H
          have hcz20_0 : wr.cell? ⟨gb353, 0, none⟩ = some (.string a0_0) := (blk_cell BK353.out 0).trans rfl
          have hcz20_1 : wr.cell? ⟨gb353, 1, none⟩ = some (.slice A0_1 l0_1.length c0_1) := (blk_cell BK353.out 1).trans rfl
          have hcz20_2 : wr.cell? ⟨gb353, 2, none⟩ = some (.slice A0_2 l0_2.length c0_2) := (blk_cell BK353.out 2).trans rfl
          have hfz20_0 := blk_frozen BK353.out 0
          have hfz20_1 := blk_frozen BK353.out 1
          have hfz20_2 := blk_frozen BK353.out 2
          have p354 : 0 ≤ (x3_2 : Int) := of_decide_eq_true (by first | (with_reducible assumption) | assumption)
          have q354 : x3_2 < (l0_2.length : Int) := of_decide_eq_true (by first | (with_reducible assumption) | assumption)
          obtain ⟨ad354, A354_1, c354_1, A354_2, c354_2, e354, hx354_0, hx354_1, hx354_2, hl354_1, hi354_1, hl354_2, hi354_2⟩ := at_T27 HR0_2.out x3_2 p354 q354
          cases e354
          replace hx354_0 := (HB.out.cell (World.block_lt_of_cell? w _ hx354_0)).trans hx354_0
          replace hx354_1 := (HB.out.cell (World.block_lt_of_cell? w _ hx354_1)).trans hx354_1
          replace hx354_2 := (HB.out.cell (World.block_lt_of_cell? w _ hx354_2)).trans hx354_2
          have HR354_1 := Aside0.mk hi354_1
          have HC354_1 := Aside0.mk hl354_1
          clear hi354_1 hl354_1
          have HR354_2 := Aside0.mk hi354_2
          have HC354_2 := Aside0.mk hl354_2
          clear hi354_2 hl354_2
          replace p354 := eq_true p354
          replace q354 := eq_true q354
          go_wp2_with (first | ((with_reducible refine gate_callee (f := 39) rfl ?_); refine goesL_ (some 25) rfl rfl Try.func39 (by kernel_rfl) rfl #[.agg #[.string ((rd_T27 l0_2 x3_2).f0), .slice A354_1 ((rd_T27 l0_2 x3_2).f1).length c354_1, .slice A354_2 ((rd_T27 l0_2 x3_2).f2).length c354_2]] rfl (by (try simp only [List.map_toArray, List.map_cons, List.map_nil]); first | done | rfl | (simp only [List.length_drop, List.length_take]; rfl)) ?_; (with_reducible refine (pentaglotref46_Singular.calls ((rd_T27 l0_2 x3_2).f0) _ _ ((rd_T27 l0_2 x3_2).f1) _ _ ((rd_T27 l0_2 x3_2).f2) false _ ?side1 ?side2 ?side3 ?side4 A10.out).mono ?_); (case side1 => exact cs_ (Kd.C_below HR354_1.out HB.out)); (case side2 => exact HC354_1.out); (case side3 => exact cs_ (Kd.C_below HR354_2.out HB.out)); (case side4 => exact HC354_2.out); rintro e w21 ⟨rfl, hb⟩; refine ⟨_, rfl, ?_⟩; have n0_ := Aside0.mk (blk_below (g := gb353) (o := .cells #[.string a0_0, .slice A0_1 l0_1.length c0_1, .slice (some ad354) l0_2.length c0_2] 27 (0, 0)) (bq_ BK353) hb); have n1_ := Aside0.mk (below_step (be1_ HB GE353) hb); clear BK353; clear HB; have BK353 := n0_; have HB := n1_; clear n0_ n1_; (try clear hb); (try clear hb2); (try clear hk); (try clear hi); have hcz22_0 : w21.cell? ⟨gb353, 0, none⟩ = some (.string a0_0) := (blk_cell BK353.out 0).trans rfl; have hcz22_1 : w21.cell? ⟨gb353, 1, none⟩ = some (.slice A0_1 l0_1.length c0_1) := (blk_cell BK353.out 1).trans rfl; have hcz22_2 : w21.cell? ⟨gb353, 2, none⟩ = some (.slice (some ad354) l0_2.length c0_2) := (blk_cell BK353.out 2).trans rfl; have hfz22_0 := blk_frozen BK353.out 0; have hfz22_1 := blk_frozen BK353.out 1; have hfz22_2 := blk_frozen BK353.out 2; have p356 : 0 ≤ (x3_2 : Int) := of_decide_eq_true (by first | (with_reducible assumption) | assumption); have q356 : x3_2 < (l0_2.length : Int) := of_decide_eq_true (by first | (with_reducible assumption) | assumption); obtain ⟨ad356, A356_1, c356_1, A356_2, c356_2, e356, hx356_0, hx356_1, hx356_2, hl356_1, hi356_1, hl356_2, hi356_2⟩ := at_T27 HR0_2.out x3_2 p356 q356; obtain rfl : ad354 = ad356 := (by injection e356); replace hx356_0 := (HB.out.cell (World.block_lt_of_cell? w _ hx356_0)).trans hx356_0; replace hx356_1 := (HB.out.cell (World.block_lt_of_cell? w _ hx356_1)).trans hx356_1; replace hx356_2 := (HB.out.cell (World.block_lt_of_cell? w _ hx356_2)).trans hx356_2; have HR356_1 := Aside0.mk hi356_1; have HC356_1 := Aside0.mk hl356_1; clear hi356_1 hl356_1; have HR356_2 := Aside0.mk hi356_2; have HC356_2 := Aside0.mk hl356_2; clear hi356_2 hl356_2; replace p356 := eq_true p356; replace q356 := eq_true q356) | (go_at_call 40; (with_reducible refine (ih k2 (by have := HJ1.out; have := HK2.out; omega) ((rd_T27 l0_2 x3_2).f0) _ _ ((rd_T27 l0_2 x3_2).f1) _ _ ((rd_T27 l0_2 x3_2).f2) false _ ?side1 ?side2 ?side3 ?side4 A14.out).mono ?_); (case side1 => exact cs_ (Kd.C_below HR356_1.out HB.out)); (case side2 => exact HC356_1.out); (case side3 => exact cs_ (Kd.C_below HR356_2.out HB.out)); (case side4 => exact HC356_2.out); rintro e w23 ⟨rfl, hb⟩; have n0_ := Aside0.mk (blk_below (g := gb353) (o := .cells #[.string a0_0, .slice A0_1 l0_1.length c0_1, .slice (some ad354) l0_2.length c0_2] 27 (0, 0)) (bq_ BK353) hb); have n1_ := Aside0.mk (below_step (be1_ HB GE353) hb); clear BK353; clear HB; have BK353 := n0_; have HB := n1_; clear n0_ n1_; (try clear hb); (try clear hb2); (try clear hk); (try clear hi)))
          go_ret
          exact ⟨er_, be1_ HB GE353⟩
       ·rw [if_neg c9] at H
        exact absurd H (by simp)
      ·rw [if_neg c8] at H
       have c8b0 : decide (x3_2 < (l0_2.length : Int)) = false := decide_eq_false c8
       clear c8
       obtain rfl := Option.some.inj H
       have hcz24_0 : wr.cell? ⟨gb353, 0, none⟩ = some (.string a0_0) := (blk_cell BK353.out 0).trans rfl
       have hcz24_1 : wr.cell? ⟨gb353, 1, none⟩ = some (.slice A0_1 l0_1.length c0_1) := (blk_cell BK353.out 1).trans rfl
       have hcz24_2 : wr.cell? ⟨gb353, 2, none⟩ = some (.slice A0_2 l0_2.length c0_2) := (blk_cell BK353.out 2).trans rfl
       have hfz24_0 := blk_frozen BK353.out 0
       have hfz24_1 := blk_frozen BK353.out 1
       have hfz24_2 := blk_frozen BK353.out 2
       go_wp2
       go_ret
       exact ⟨er_, be1_ HB GE353⟩

end Go.Proofs.Ytfampmajmbediaa.P
