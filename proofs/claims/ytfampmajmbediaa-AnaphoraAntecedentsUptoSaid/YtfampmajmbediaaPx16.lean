-- Written by the session's own program wip/tools/xprint.py out of the translation, with the kit's print.py on a scratch copy; functions given by hand stand among them.
import Derived.Test.YtfampmajmbediaaPx0
import Derived.Test.YtfampmajmbediaaPx4
import Derived.Test.YtfampmajmbediaaPx13
namespace Go.Proofs.Ytfampmajmbediaa.P
open Go.RowKit Go.Proofs.YtfampmajmbediaaW.PrintWords Go.Proofs.YtfampmajmbediaaW.PrintLast Go.Proofs.YtfampmajmbediaaW.PrintMore
attribute [local go_sem] max2_int min2_int max_two min_two max_three min_three max_four min_four   -- for this text's walks alone
set_option linter.unusedVariables false
set_option linter.unusedSimpArgs false

/-! ### ellipsis_clone: function 68 -/
def ellipsis_clone.f (k : Nat) (a0_0 : ByteArray) (l0_1 : List Int) (l0_2 : List (S27)) : Option (ByteArray × List Int × (List (S27))) := (abstract_At.f k a0_0 l0_1 l0_2 ([] : List Int)).bind fun bt214 => (some (bt214.1, bt214.2.1, bt214.2.2.1))
theorem ellipsis_clone.mono : ∀ a0 a1 a2 k, LeO (ellipsis_clone.f k a0 a1 a2) (ellipsis_clone.f (k + 1) a0 a1 a2) := by
 intro a0 a1 a2 k
 unfold ellipsis_clone.f
 repeat' first
   | (with_reducible exact abstract_At.mono _ _ _ _ _)
   | (with_reducible exact LeO.refl _)
   | (with_reducible exact LeO.none _)
   | (with_reducible refine LeO.ite ?_ ?_)
   | (with_reducible refine LeO.bind ?_ (fun _ => ?_))
   | exact abstract_At.mono _ _ _ _ _
   | exact LeO.none _
   | refine LeO.ite ?_ ?_
   | refine LeO.bind ?_ (fun _ => ?_)
set_option maxHeartbeats 8000000 in
set_option maxRecDepth 100000 in
theorem ellipsis_clone.calls (k : Nat) (a0_0 : ByteArray) (A0_1 : Option Addr) (c0_1 : Nat) (l0_1 : List Int) (A0_2 : Option Addr) (c0_2 : Nat) (l0_2 : List (S27)) (r1 : ByteArray) (r2 : List Int) (r3 : List (S27)) (w : World) (hr0_1 : Kd.C (Kd.int .i64) w A0_1 l0_1.length l0_1) (hc0_1 : l0_1.length ≤ c0_1) (hr0_2 : Kd.C k27 w A0_2 l0_2.length l0_2) (hc0_2 : l0_2.length ≤ c0_2) (h : ellipsis_clone.f k a0_0 l0_1 l0_2 = some (r1, r2, r3)) :
  Calls Try.prog 68 #[.agg #[.string a0_0, .slice A0_1 l0_1.length c0_1, .slice A0_2 l0_2.length c0_2]] w fun e w' => ∃ v1_ v2_ : Value, e = .returned (.agg #[.string r1, v1_, v2_]) ∧ Kd.R (Kd.int .i64) 3 w' w.heap.size (fun _ => True) v1_ r2 ∧ Kd.R k27 27 w' w.heap.size (fun k_ => some k_ ≠ (v1_ : Value).ownBlock) v2_ r3 ∧ Below w.heap.size w w' := by
 have hu27 := Try.underlying27
 have HR0_1 := Aside0.mk hr0_1
 have HC0_1 := Aside0.mk hc0_1
 clear hr0_1 hc0_1
 have HR0_2 := Aside0.mk hr0_2
 have HC0_2 := Aside0.mk hc0_2
 clear hr0_2 hc0_2
 have HB := Aside0.mk (Below.refl w.heap.size w)
 have H : ((abstract_At.f k a0_0 l0_1 l0_2 ([] : List Int)).bind fun bt214 => (some (bt214.1, bt214.2.1, bt214.2.2.1))) = some (r1, r2, r3) := h
 clear h
 replace H := Option.bind_eq_some_iff.mp H
 obtain ⟨⟨t214, t215, t218, t221⟩, A20, H⟩ := H
 replace H : (some (t214, t215, t218)) = some (r1, r2, r3) := H
 have A2 := Aside0.mk A20
 clear A20
 simp only [Option.some.injEq, Prod.mk.injEq] at H
 obtain ⟨rfl, rfl, rfl⟩ := H
 go_enter Try.func68, Try.ntmps68
 go_wp2_with (first | ((with_reducible refine gate_dst (N := 1) rfl ?_); refine box_event ?hg (N := 1) ?hd (cs := #[.string a0_0, .slice A0_1 l0_1.length c0_1, .slice A0_2 l0_2.length c0_2]) (t := 27) ?hr ?_; (case hd => rfl); (case hg => rfl); (case hr => first | (go_simp; done) | (go_simp; rfl)); intro gb212 hg w3 hbox hb; have n0_ := Aside0.mk (below_step (be_ HB) hb); have n1_ := Aside0.mk (hbox); have n2_ := Aside0.mk ((by rw [hg]; exact (below_size (be_ HB)) : w.heap.size ≤ gb212)); have n3_ := Aside0.mk ((by rw [hg]; exact (below_size (be_ HB)) : w.heap.size ≤ gb212)); clear HB; have HB := n0_; have BK212 := n1_; have GW212 := n2_; have GE212 := n3_; clear n0_ n1_ n2_ n3_; clear hb hbox hg) | ((with_reducible refine gate_dst (N := 2) rfl ?_); refine box_event ?hg (N := 2) ?hd (cs := #[.string (⟨#[]⟩ : ByteArray), .slice none 0 0, .slice none 0 0]) (t := 27) ?hr ?_; (case hd => rfl); (case hg => rfl); (case hr => first | (go_simp; done) | (go_simp; rfl)); intro gb213 hg w4 hbox hb; have n0_ := Aside0.mk (blk_below (g := gb212) (o := .cells #[.string a0_0, .slice A0_1 l0_1.length c0_1, .slice A0_2 l0_2.length c0_2] 27 (0, 0)) (bq_ BK212) hb); have n1_ := Aside0.mk (below_step (be1_ HB GE212) hb); have n2_ := Aside0.mk (hbox); have n3_ := Aside0.mk ((by rw [hg]; exact (below_size (be1_ HB GE212)) : w.heap.size ≤ gb213)); have n4_ := Aside0.mk ((by rw [hg]; exact (below_size (be1_ HB GE212)) : w.heap.size ≤ gb213)); have n5_ := Aside0.mk ((by rw [hg]; exact Nat.ne_of_lt (blk_lt (g := gb212) (o := .cells #[.string a0_0, .slice A0_1 l0_1.length c0_1, .slice A0_2 l0_2.length c0_2] 27 (0, 0)) (bq_ BK212)) : gb212 ≠ gb213)); have n6_ := Aside0.mk ((by rw [hg]; exact Nat.ne_of_gt (blk_lt (g := gb212) (o := .cells #[.string a0_0, .slice A0_1 l0_1.length c0_1, .slice A0_2 l0_2.length c0_2] 27 (0, 0)) (bq_ BK212)) : gb213 ≠ gb212)); clear BK212; clear HB; have BK212 := n0_; have HB := n1_; have BK213 := n2_; have GW213 := n3_; have GE213 := n4_; have NB212_213 := n5_; have NB213_212 := n6_; clear n0_ n1_ n2_ n3_ n4_ n5_ n6_; clear hb hbox hg; have hnb5 := NB212_213.out; have hnc5 := NB213_212.out; have hcz6_0 : w4.cell? ⟨gb212, 0, none⟩ = some (.string a0_0) := (blk_cell BK212.out 0).trans rfl; have hcz6_1 : w4.cell? ⟨gb212, 1, none⟩ = some (.slice A0_1 l0_1.length c0_1) := (blk_cell BK212.out 1).trans rfl; have hcz6_2 : w4.cell? ⟨gb212, 2, none⟩ = some (.slice A0_2 l0_2.length c0_2) := (blk_cell BK212.out 2).trans rfl; have hfz6_0 := blk_frozen BK212.out 0; have hfz6_1 := blk_frozen BK212.out 1; have hfz6_2 := blk_frozen BK212.out 2) | ((with_reducible refine gate_callee (f := 36) rfl ?_); refine goesL_ (some 7) rfl rfl Try.func36 (by kernel_rfl) rfl #[.agg #[.string a0_0, .slice A0_1 l0_1.length c0_1, .slice A0_2 l0_2.length c0_2], .slice none 0 0] rfl (by (try simp only [List.map_toArray, List.map_cons, List.map_nil]); first | done | rfl | (simp only [List.length_drop, List.length_take]; rfl)) ?_; (refine (abstract_At.calls k a0_0 (fun k_ => k_ < w.heap.size) _ _ l0_1 (fun k_ => k_ < w.heap.size) _ _ l0_2 _ _ ([] : List Int) t214 t215 t218 t221 _ ?side1 ?side2 ?side3 ?side4 A2.out).mono ?_); (case side1 => exact Kd.V_mk HC0_1.out (Kd.F_below (Kd.C_F (Kd.heap_int .i64) HR0_1.out) (be2_ HB GE212 GE213))); (case side2 => exact Kd.V_mk HC0_2.out (Kd.F_below (Kd.C_F k27_heap HR0_2.out) (be2_ HB GE212 GE213))); (case side3 => exact Kd.C_nil _ _); (case side4 => exact Nat.le_refl _); rintro e w7 ⟨v216, v219, rfl, ho0, ho1, hb⟩; refine ⟨_, rfl, ?_⟩; have n0_ := Aside0.mk (Kd.R_lower (Kd.R_mono (ok' := fun k_ => True) ho0 (fun _ hk_ => trivial)) (below_size (be2_ HB GE212 GE213))); have n1_ := Aside0.mk (Kd.R_lower (Kd.R_newB (Kd.R_newB (Kd.R_mono (ok' := fun k_ => some k_ ≠ (v216 : Value).ownBlock) ho1 (fun _ hk_ => hk_.2)) (g := gb212) (o := .cells #[.string a0_0, .slice A0_1 l0_1.length c0_1, .slice A0_2 l0_2.length c0_2] 27 (0, 0)) (bq_ BK212)) (g := gb213) (o := .cells #[.string (⟨#[]⟩ : ByteArray), .slice none 0 0, .slice none 0 0] 27 (0, 0)) (bq_ BK213)) (below_size (be2_ HB GE212 GE213))); have n2_ := Aside0.mk (blk_below (g := gb212) (o := .cells #[.string a0_0, .slice A0_1 l0_1.length c0_1, .slice A0_2 l0_2.length c0_2] 27 (0, 0)) (bq_ BK212) hb); have n3_ := Aside0.mk (blk_below (g := gb213) (o := .cells #[.string (⟨#[]⟩ : ByteArray), .slice none 0 0, .slice none 0 0] 27 (0, 0)) (bq_ BK213) hb); have n4_ := Aside0.mk (below_step (be2_ HB GE212 GE213) hb); clear BK212; clear BK213; clear HB; have HO217 := n0_; have HO220 := n1_; have BK212 := n2_; have BK213 := n3_; have HB := n4_; clear n0_ n1_ n2_ n3_ n4_; (try clear hb); (try clear hb2); (try clear hk); (try clear hi); (try clear ho0); (try clear ho1)) | ((with_reducible refine gate_dst (N := 3) rfl ?_); refine box_event ?hg (N := 3) ?hd (cs := #[.string (⟨#[]⟩ : ByteArray), .slice none 0 0, .slice none 0 0]) (t := 27) ?hr ?_; (case hd => rfl); (case hg => rfl); (case hr => first | (go_simp; done) | (go_simp; rfl)); intro gb222 hg w8 hbox hb; have n0_ := Aside0.mk (Kd.R_below (rq_ HO217) hb); have n1_ := Aside0.mk (Kd.R_below (Kd.R_elderB (rq_ HO220) gb222 (Nat.le_of_eq hg.symm)) hb); have n2_ := Aside0.mk (blk_below (g := gb212) (o := .cells #[.string a0_0, .slice A0_1 l0_1.length c0_1, .slice A0_2 l0_2.length c0_2] 27 (0, 0)) (bq_ BK212) hb); have n3_ := Aside0.mk (blk_below (g := gb213) (o := .cells #[.string (⟨#[]⟩ : ByteArray), .slice none 0 0, .slice none 0 0] 27 (0, 0)) (bq_ BK213) hb); have n4_ := Aside0.mk (below_step (be2_ HB GE212 GE213) hb); have n5_ := Aside0.mk (hbox); have n6_ := Aside0.mk ((by rw [hg]; exact (below_size (be2_ HB GE212 GE213)) : w.heap.size ≤ gb222)); have n7_ := Aside0.mk ((by rw [hg]; exact (below_size (be2_ HB GE212 GE213)) : w.heap.size ≤ gb222)); have n8_ := Aside0.mk ((by rw [hg]; exact Nat.ne_of_lt (blk_lt (g := gb212) (o := .cells #[.string a0_0, .slice A0_1 l0_1.length c0_1, .slice A0_2 l0_2.length c0_2] 27 (0, 0)) (bq_ BK212)) : gb212 ≠ gb222)); have n9_ := Aside0.mk ((by rw [hg]; exact Nat.ne_of_gt (blk_lt (g := gb212) (o := .cells #[.string a0_0, .slice A0_1 l0_1.length c0_1, .slice A0_2 l0_2.length c0_2] 27 (0, 0)) (bq_ BK212)) : gb222 ≠ gb212)); have n10_ := Aside0.mk ((by rw [hg]; exact Nat.ne_of_lt (blk_lt (g := gb213) (o := .cells #[.string (⟨#[]⟩ : ByteArray), .slice none 0 0, .slice none 0 0] 27 (0, 0)) (bq_ BK213)) : gb213 ≠ gb222)); have n11_ := Aside0.mk ((by rw [hg]; exact Nat.ne_of_gt (blk_lt (g := gb213) (o := .cells #[.string (⟨#[]⟩ : ByteArray), .slice none 0 0, .slice none 0 0] 27 (0, 0)) (bq_ BK213)) : gb222 ≠ gb213)); clear HO217; clear HO220; clear BK212; clear BK213; clear HB; have HO217 := n0_; have HO220 := n1_; have BK212 := n2_; have BK213 := n3_; have HB := n4_; have BK222 := n5_; have GW222 := n6_; have GE222 := n7_; have NB212_222 := n8_; have NB222_212 := n9_; have NB213_222 := n10_; have NB222_213 := n11_; clear n0_ n1_ n2_ n3_ n4_ n5_ n6_ n7_ n8_ n9_ n10_ n11_; clear hb hbox hg; have hnb9 := NB222_212.out; have hnc9 := NB212_222.out; have hnb10 := NB222_213.out; have hnc10 := NB213_222.out; have hcz11_0 : w8.cell? ⟨gb222, 0, none⟩ = some (.string (⟨#[]⟩ : ByteArray)) := (blk_cell BK222.out 0).trans rfl; have hcz11_1 : w8.cell? ⟨gb222, 1, none⟩ = some (.slice none 0 0) := (blk_cell BK222.out 1).trans rfl; have hcz11_2 : w8.cell? ⟨gb222, 2, none⟩ = some (.slice none 0 0) := (blk_cell BK222.out 2).trans rfl; have hfz11_0 := blk_frozen BK222.out 0; have hfz11_1 := blk_frozen BK222.out 1; have hfz11_2 := blk_frozen BK222.out 2; obtain ⟨Ao12, co12, eo12⟩ := Kd.R_slice HO217.out; subst eo12; obtain ⟨Ao13, co13, eo13⟩ := Kd.R_slice HO220.out; subst eo13; have hcz14_0 : w8.cell? ⟨gb213, 0, none⟩ = some (.string (⟨#[]⟩ : ByteArray)) := (blk_cell BK213.out 0).trans rfl; have hcz14_1 : w8.cell? ⟨gb213, 1, none⟩ = some (.slice none 0 0) := (blk_cell BK213.out 1).trans rfl; have hcz14_2 : w8.cell? ⟨gb213, 2, none⟩ = some (.slice none 0 0) := (blk_cell BK213.out 2).trans rfl; have hfz14_0 := blk_frozen BK213.out 0; have hfz14_1 := blk_frozen BK213.out 1; have hfz14_2 := blk_frozen BK213.out 2))
 refine bodyPost_ret (results_cell_row rfl _ _ gb213 27 #[.string t214, .slice Ao12 t215.length co12, .slice Ao13 t218.length co13] (0, 0) _ rfl (by (with_reducible repeat (first | refine blk_drewN ?_ _ | refine blk_drew ?_ | refine blk_alloc ?_ _)); refine blk_put (cs := #[.string t214, .slice Ao12 t215.length co12, .slice none 0 0]) ?_ 2 _ rfl; (with_reducible repeat (first | refine blk_drewN ?_ _ | refine blk_drew ?_ | refine blk_alloc ?_ _)); refine blk_put (cs := #[.string t214, .slice none 0 0, .slice none 0 0]) ?_ 1 _ rfl; (with_reducible repeat (first | refine blk_drewN ?_ _ | refine blk_drew ?_ | refine blk_alloc ?_ _)); refine blk_put (cs := #[.string (⟨#[]⟩ : ByteArray), .slice none 0 0, .slice none 0 0]) ?_ 0 _ rfl; (with_reducible repeat (first | refine blk_drewN ?_ _ | refine blk_drew ?_ | refine blk_alloc ?_ _)); refine blk_far ?_ NB213_222.out _; (with_reducible repeat (first | refine blk_drewN ?_ _ | refine blk_drew ?_ | refine blk_alloc ?_ _)); refine blk_far ?_ NB213_222.out _; (with_reducible repeat (first | refine blk_drewN ?_ _ | refine blk_drew ?_ | refine blk_alloc ?_ _)); refine blk_far ?_ NB213_222.out _; (with_reducible repeat (first | refine blk_drewN ?_ _ | refine blk_drew ?_ | refine blk_alloc ?_ _)); exact BK213.out) Try.underlying27 rfl (by kernel_rfl)) rfl ?_
 exact ⟨_, _, er_, by (with_reducible repeat (first | apply Kd.R_alloc | apply Kd.R_drewN | apply Kd.R_drew)); exact Kd.R_mono (Kd.R_far (p := ⟨gb213, 2, none⟩) (Kd.R_far (p := ⟨gb213, 1, none⟩) (Kd.R_far (p := ⟨gb213, 0, none⟩) (Kd.R_far (p := ⟨gb222, 2, none⟩) (Kd.R_far (p := ⟨gb222, 1, none⟩) (Kd.R_far (p := ⟨gb222, 0, none⟩) (Kd.R_types (Kd.R_types HO217.out BK222.out (by decide)) BK213.out (by decide)) (fun _ hk => hk.1.2) (.string t214)) (fun _ hk => hk.1.2) (.slice Ao12 t215.length co12)) (fun _ hk => hk.1.2) (.slice Ao13 t218.length co13)) (fun _ hk => hk.2) (.string t214)) (fun _ hk => hk.2) (.slice Ao12 t215.length co12)) (fun _ hk => hk.2) (.slice Ao13 t218.length co13)) (fun _ hk => trivial), by (with_reducible repeat (first | apply Kd.R_alloc | apply Kd.R_drewN | apply Kd.R_drew)); exact Kd.R_mono (Kd.R_far (p := ⟨gb213, 2, none⟩) (Kd.R_far (p := ⟨gb213, 1, none⟩) (Kd.R_far (p := ⟨gb213, 0, none⟩) (Kd.R_far (p := ⟨gb222, 2, none⟩) (Kd.R_far (p := ⟨gb222, 1, none⟩) (Kd.R_far (p := ⟨gb222, 0, none⟩) (Kd.R_mono (Kd.R_mono HO220.out (fun k_ hk => (⟨hk, hk.2⟩ : _ ∧ k_ ≠ gb222))) (fun k_ hk => (⟨hk, hk.1.1.2⟩ : _ ∧ k_ ≠ gb213))) (fun _ hk => hk.1.2) (.string t214)) (fun _ hk => hk.1.2) (.slice Ao12 t215.length co12)) (fun _ hk => hk.1.2) (.slice Ao13 t218.length co13)) (fun _ hk => hk.2) (.string t214)) (fun _ hk => hk.2) (.slice Ao12 t215.length co12)) (fun _ hk => hk.2) (.slice Ao13 t218.length co13)) (fun _ hk => hk.1.1.1.1.1), be3_ HB GE212 GE213 GE222⟩

/-! ### semantics_Subject: function 73, by hand -/
/-- Not covered: no statement that imports this text leads the walk here. -/
def semantics_Subject.f : Option Unit := none
theorem semantics_Subject.calls : True := trivial

/-! ### semantics_WithSubject: function 69, by hand -/
def semantics_WithSubject.f (a0_0 : ByteArray) (l0_1 : List Int) (l0_2 : List (S27)) (a1_0 : ByteArray) (l1_1 : List Int) (l1_2 : List (S27)) : Option (ByteArray × List Int × (List (S27)) × Bool) := none
/-- NOT COVERED: no statement that imports this text leads the walk here. -/
theorem semantics_WithSubject.calls (a0_0 : ByteArray) (A0_1 : Option Addr) (c0_1 : Nat) (l0_1 : List Int) (A0_2 : Option Addr) (c0_2 : Nat) (l0_2 : List (S27)) (a1_0 : ByteArray) (A1_1 : Option Addr) (c1_1 : Nat) (l1_1 : List Int) (A1_2 : Option Addr) (c1_2 : Nat) (l1_2 : List (S27)) (r1 : ByteArray) (r2 : List Int) (r3 : List (S27)) (r4 : Bool) (w : World) (hr0_1 : Kd.C (Kd.int .i64) w A0_1 l0_1.length l0_1) (hc0_1 : l0_1.length ≤ c0_1) (hr0_2 : Kd.C k27 w A0_2 l0_2.length l0_2) (hc0_2 : l0_2.length ≤ c0_2) (hr1_1 : Kd.C (Kd.int .i64) w A1_1 l1_1.length l1_1) (hc1_1 : l1_1.length ≤ c1_1) (hr1_2 : Kd.C k27 w A1_2 l1_2.length l1_2) (hc1_2 : l1_2.length ≤ c1_2) (h : semantics_WithSubject.f a0_0 l0_1 l0_2 a1_0 l1_1 l1_2 = some (r1, r2, r3, r4)) :
  Calls Try.prog 69 #[.agg #[.string a0_0, .slice A0_1 l0_1.length c0_1, .slice A0_2 l0_2.length c0_2], .agg #[.string a1_0, .slice A1_1 l1_1.length c1_1, .slice A1_2 l1_2.length c1_2]] w fun e w' => ∃ v1_ v2_ : Value, e = .returned (.tuple #[.agg #[.string r1, v1_, v2_], .bool r4]) ∧ Kd.R (Kd.int .i64) 3 w' w.heap.size (fun _ => True) v1_ r2 ∧ Kd.R k27 27 w' w.heap.size (fun k_ => some k_ ≠ (v1_ : Value).ownBlock) v2_ r3 ∧ Below w.heap.size w w' := by
 cases h

/-! ### ellipsis_expand: function 63, by hand -/
-- leans on 68
/-- Covered: no sentence with Also. -/
def ellipsis_expand.f (k : Nat) (a0_0 : ByteArray) (l0_1 : List Int) (l0_2 : List S27) : Option (List S27 × Int) :=
 if (a0_0.toList == [65, 108, 115, 111]) = true ∧ l0_2.length = 2 then none else (ellipsis_clone.f k a0_0 l0_1 l0_2).bind fun u => some ([⟨u.1, u.2.1, u.2.2⟩], 0)
theorem ellipsis_expand.mono (a0_0 : ByteArray) (l0_1 : List Int) (l0_2 : List S27) (k : Nat) : LeO (ellipsis_expand.f k a0_0 l0_1 l0_2) (ellipsis_expand.f (k + 1) a0_0 l0_1 l0_2) := LeO.ite (LeO.refl _) (LeO.bind (ellipsis_clone.mono _ _ _ _) (fun _ => LeO.refl _))
set_option maxHeartbeats 16000000 in
set_option maxRecDepth 100000 in
theorem ellipsis_expand.calls (k : Nat) (a0_0 : ByteArray) (A0_1 : Option Addr) (c0_1 : Nat) (l0_1 : List Int) (A0_2 : Option Addr) (c0_2 : Nat) (l0_2 : List S27) (r1 : List S27) (r2 : Int) (w : World) (hr0_1 : Kd.C (Kd.int .i64) w A0_1 l0_1.length l0_1) (hc0_1 : l0_1.length ≤ c0_1) (hr0_2 : Kd.C k27 w A0_2 l0_2.length l0_2) (hc0_2 : l0_2.length ≤ c0_2) (h : ellipsis_expand.f k a0_0 l0_1 l0_2 = some (r1, r2)) :
  Calls Try.prog 63 #[.agg #[.string a0_0, .slice A0_1 l0_1.length c0_1, .slice A0_2 l0_2.length c0_2]] w fun e w' => ∃ v1_ : Value, e = .returned (.tuple #[v1_, .int .i64 r2]) ∧ Kd.N k27 27 w' w.heap.size (fun k_ => w.heap.size ≤ k_) v1_ r1 ∧ Below w.heap.size w w' := by
 unfold ellipsis_expand.f at h
 by_cases ha : (a0_0.toList == [65, 108, 115, 111]) = true ∧ l0_2.length = 2
 case pos => rw [if_pos ha] at h; cases h
 rw [if_neg ha] at h
 obtain ⟨u, hu, h⟩ := Option.bind_eq_some_iff.1 h
 simp only [Option.some.injEq, Prod.mk.injEq] at h
 obtain ⟨rfl, rfl⟩ := h
 have hu27 := Try.underlying27
 have a68 := fun (V : World) (hb : Below w.heap.size w V) => ellipsis_clone.calls k a0_0 A0_1 c0_1 l0_1 A0_2 c0_2 l0_2 u.1 u.2.1 u.2.2 V (Kd.C_below hr0_1 hb) hc0_1 (Kd.C_below hr0_2 hb) hc0_2 hu
 have hbt := below_alloc (Below.refl w.heap.size w) (.cells #[.string a0_0, .slice A0_1 l0_1.length c0_1, .slice A0_2 l0_2.length c0_2] 27)
 have HBT := Aside0.mk hbt
 have HA := Aside0.mk (a68 _ hbt)
 clear hr0_1 hr0_2 hu a68 hbt
 have key : ∀ (V : World) (U1 : Option Addr) (t1 : Nat) (U2 : Option Addr) (t2 : Nat), Kd.R (Kd.int .i64) 3 V w.heap.size (fun _ => True) (.slice U1 u.2.1.length t1) u.2.1 → Kd.R k27 27 V w.heap.size (fun _ => True) (.slice U2 u.2.2.length t2) u.2.2 → w.heap.size ≤ V.heap.size →
   Kd.N k27 27 (V.alloc (.cells #[.string u.1, .slice U1 u.2.1.length t1, .slice U2 u.2.2.length t2] 27)) w.heap.size (fun k_ => w.heap.size ≤ k_) (.slice (some ⟨V.heap.size, 0, none⟩) 1 1) [⟨u.1, u.2.1, u.2.2⟩] := by
  intro V U1 t1 U2 t2 h1 h2 hs
  have hb := below_alloc (Below.refl V.heap.size V) (.cells #[.string u.1, .slice U1 u.2.1.length t1, .slice U2 u.2.2.length t2] 27)
  refine ⟨fun q hq => ?_, [[.string u.1, .slice U1 u.2.1.length t1, .slice U2 u.2.2.length t2]], rfl, ⟨fun q hq => hq.symm, [.string u.1, .slice U1 u.2.1.length t1, .slice U2 u.2.2.length t2], ?_, ?_⟩, ?_⟩
  ·have : V.heap.size = q := by simpa [Value.ownBlock] using hq
   omega
  ·refine ⟨rfl, .inr ⟨V.heap.size, 1, #[.string u.1, .slice U1 u.2.1.length t1, .slice U2 u.2.2.length t2], rfl, hs, heap_alloc_new _ _, Nat.le_refl _, by simp only [maxLen]; omega, rfl, rfl⟩⟩
  ·exact Reps.snoc (Reps.none _ _) ⟨rfl, rfl, (by intro q hq; simp at hq; rcases hq with rfl | rfl | rfl <;> rfl)⟩ rfl
  ·intro j x c hx hc
   cases j with
   | succ j => simp at hx
   | zero =>
    simp only [List.getElem?_cons_zero, Option.some.injEq] at hx hc
    subst hx hc
    refine k27_mkF _ _ ⟨u.1, u.2.1, u.2.2⟩ (Kd.R_reads' h1).2.1 ?_ (Kd.R_reads' h2).2.1 ?_
    ·exact Kd.F_mono (Kd.F_below (Kd.R_F (Kd.R_bound h1)) hb) (fun q hq => ⟨hq.2.1, by simp [Value.ownBlock]; have := hq.2.2.1; omega⟩)
    ·exact Kd.F_mono (Kd.F_below (Kd.R_F (Kd.R_bound h2)) hb) (fun q hq => ⟨hq.2.1, by simp [Value.ownBlock]; have := hq.2.2.1; omega⟩)
 have KEY := Aside0.mk key
 clear key
 by_cases hs : (a0_0.toList == [65, 108, 115, 111]) = true
 case pos =>
  have hl2 : ¬ l0_2.length = 2 := fun he => ha ⟨hs, he⟩
  have hl3 : ((l0_2.length : Int) == 2) = false := by simp; omega
  have hs2 : a0_0.toList = [65, 108, 115, 111] := by simpa using hs
  go_enter Try.func63, Try.ntmps63
  go_wp2_with (go_at_call 68; refine HA.out.mono ?_; rintro e w1 ⟨v1, v2, rfl, hv1, hv2, hb1⟩; obtain ⟨U1, t1', rfl⟩ := Kd.R_slice hv1; obtain ⟨U2, t2', rfl⟩ := Kd.R_slice hv2; have HV1 := Aside0.mk hv1; have HV2 := Aside0.mk hv2; have HB1 := Aside0.mk hb1; clear hv1 hv2 hb1 HA)
  go_ret2
  refine ⟨_, rfl, KEY.out _ _ _ _ _ (Kd.R_lower HV1.out HBT.out.size) (Kd.R_lower (Kd.R_mono HV2.out (fun _ _ => trivial)) HBT.out.size) (HBT.out.trans (HB1.out.mono HBT.out.size)).size, below_alloc (HBT.out.trans (HB1.out.mono HBT.out.size)) _⟩
 case neg =>
  have hs1 : (a0_0.toList == [65, 108, 115, 111]) = false := by simpa using hs
  have hs2 : ¬ a0_0.toList = [65, 108, 115, 111] := by simpa using hs
  go_enter Try.func63, Try.ntmps63
  go_wp2_with (go_at_call 68; refine HA.out.mono ?_; rintro e w1 ⟨v1, v2, rfl, hv1, hv2, hb1⟩; obtain ⟨U1, t1', rfl⟩ := Kd.R_slice hv1; obtain ⟨U2, t2', rfl⟩ := Kd.R_slice hv2; have HV1 := Aside0.mk hv1; have HV2 := Aside0.mk hv2; have HB1 := Aside0.mk hb1; clear hv1 hv2 hb1 HA)
  go_ret2
  refine ⟨_, rfl, KEY.out _ _ _ _ _ (Kd.R_lower HV1.out HBT.out.size) (Kd.R_lower (Kd.R_mono HV2.out (fun _ _ => trivial)) HBT.out.size) (HBT.out.trans (HB1.out.mono HBT.out.size)).size, below_alloc (HBT.out.trans (HB1.out.mono HBT.out.size)) _⟩

/-! ### ellipsis_Remove: function 52, by hand -/
-- leans on 63
theorem rd_at5 {l : List S27} {j : Nat} (h : j < l.length) : rd_T27 l (j : Int) = l[j] := by
 unfold rd_T27
 rw [Int.toNat_natCast, List.getD_eq_getElem?_getD, List.getElem?_eq_getElem h]
 rfl
/-- An element of a row that came in, in every later world. -/
theorem tree_at5 {w : World} {ok : Nat → Prop} {A0 : Option Addr} {l0 : List S27} (h : Kd.F k27 w ok A0 l0.length l0) {j : Nat} (hj : j < l0.length) :
  ∃ ak X1 e1 X2 e2, A0 = some ak ∧ (rd_T27 l0 j).f1.length ≤ e1 ∧ (rd_T27 l0 j).f2.length ≤ e2 ∧ Kd.F (Kd.int .i64) w ok X1 (rd_T27 l0 j).f1.length (rd_T27 l0 j).f1 ∧ Kd.F k27 w ok X2 (rd_T27 l0 j).f2.length (rd_T27 l0 j).f2 ∧
   ∀ V : World, (∀ i, ok i → i < w.heap.size → V.heap[i]? = w.heap[i]?) → V.cell? (ak.add (j * 3)) = some (.string (rd_T27 l0 j).f0) ∧ V.cell? ⟨(ak.add (j * 3)).block, (ak.add (j * 3)).off + 1, none⟩ = some (.slice X1 (rd_T27 l0 j).f1.length e1) ∧ V.cell? ⟨(ak.add (j * 3)).block, (ak.add (j * 3)).off + 2, none⟩ = some (.slice X2 (rd_T27 l0 j).f2.length e2) := by
 obtain ⟨ak, cs, hA0, _, hFK, hcs, hok⟩ := Kd.F_get h z27 (j : Int) (by omega) (by omega)
 rw [show l0.getD (j : Int).toNat z27 = rd_T27 l0 j from rfl] at hFK
 rw [Int.toNat_natCast] at hcs
 obtain ⟨X1, e1, X2, e2, rfl, q1, f1, q2, f2⟩ := k27_openF hFK
 refine ⟨ak, X1, e1, X2, e2, hA0, q1, q2, f1, f2, fun V hV => ?_⟩
 have k0 : w.cell? (ak.add (j * 3)) = some (.string (rd_T27 l0 j).f0) := hcs 0 _ rfl
 have k1 : w.cell? ⟨(ak.add (j * 3)).block, (ak.add (j * 3)).off + 1, none⟩ = some (.slice X1 (rd_T27 l0 j).f1.length e1) := by rw [← add_field _ _ 1 (by omega)]; exact hcs 1 _ rfl
 have k2 : w.cell? ⟨(ak.add (j * 3)).block, (ak.add (j * 3)).off + 2, none⟩ = some (.slice X2 (rd_T27 l0 j).f2.length e2) := by rw [← add_field _ _ 2 (by omega)]; exact hcs 2 _ rfl
 have hb := hV ak.block (hok (by decide)) (by have h := World.block_lt_of_cell? _ _ k0; rwa [add_block] at h)
 have hc : ∀ a : Addr, a.block = ak.block → V.cell? a = w.cell? a := fun a ha => by simp [World.cell?, ha, hb]
 exact ⟨(hc _ (add_block _ _)).trans k0, (hc ⟨_, _, none⟩ (add_block _ _)).trans k1, (hc ⟨_, _, none⟩ (add_block _ _)).trans k2⟩
/-- Covered: what never passes the bound. -/
def removeL (k : Nat) : List S27 → List S27 → Option (List S27 × Int)
 | [], acc => some (acc, 0)
 | t :: ts, acc => (ellipsis_expand.f k t.f0 t.f1 t.f2).bind fun r => if r.2 = 0 ∧ acc.length + r.1.length ≤ 256 then removeL k ts (acc ++ r.1) else none
theorem removeL_mono (k : Nat) : ∀ l acc, LeO (removeL k l acc) (removeL (k + 1) l acc)
 | [], _ => LeO.refl _
 | t :: ts, acc => LeO.bind (ellipsis_expand.mono _ _ _ _) (fun r => LeO.ite (removeL_mono k ts _) (LeO.refl _))
def ellipsis_Remove.f (k : Nat) (l0 : List S27) : Option (List S27 × Int) := if l0.length ≤ 1000000 then removeL k l0 [] else none
theorem ellipsis_Remove.mono (l0 : List S27) (k : Nat) : LeO (ellipsis_Remove.f k l0) (ellipsis_Remove.f (k + 1) l0) := LeO.ite (removeL_mono _ _ _) (LeO.refl _)
set_option maxHeartbeats 16000000 in
set_option maxRecDepth 100000 in
theorem ellipsis_Remove.calls (k : Nat) (A0 : Option Addr) (c0 : Nat) (l0 : List S27) (r1 : List S27) (r2 : Int) (w : World) (hr0 : Kd.C k27 w A0 l0.length l0) (hc0 : l0.length ≤ c0) (h : ellipsis_Remove.f k l0 = some (r1, r2)) :
  Calls Try.prog 52 #[.slice A0 l0.length c0] w fun e w' => ∃ v1_ : Value, e = .returned (.tuple #[v1_, .int .i64 r2]) ∧ Kd.N k27 27 w' w.heap.size (fun k_ => w.heap.size ≤ k_) v1_ r1 ∧ Below w.heap.size w w' := by
 unfold ellipsis_Remove.f at h
 by_cases hl : l0.length ≤ 1000000
 case neg => rw [if_neg hl] at h; cases h
 rw [if_pos hl] at h
 have hu27 := Try.underlying27
 have HF0 := Aside0.mk (Kd.C_F k27_heap hr0)
 have HH := Aside0.mk h
 have HL := Aside0.mk hl
 clear hr0 hc0 h hl
 go_enter Try.func52, Try.ntmps52
 go_wp2
 go_step3
 go_wp2
 go_step3
 go_wp2
 go_loopw [4, 5, 12] (fun v4 v5 v12 wr => ∃ (j : Nat) (acc : List S27), v5 = .bool false ∧ v12 = .int .i64 (j : Int) ∧ Aside0 (j ≤ l0.length ∧ acc.length ≤ 256) ∧ Aside0 (removeL k (l0.drop j) acc = some (r1, r2)) ∧ Aside0 (Kd.N k27 27 wr w.heap.size (fun k_ => w.heap.size ≤ k_) v4 acc) ∧ Aside0 (Below w.heap.size w wr)) (fun _ _ v12 _ => l0.length - (intOf v12).toNat)
 case atStart => exact ⟨0, [], rfl, rfl, ⟨Nat.zero_le _, by simp⟩, HH, ⟨Kd.N_nil _ _ _ _ _⟩, ⟨Below.refl _ _⟩⟩
 case round =>
  clear HH
  obtain ⟨j, acc, rfl, rfl, HJ, HI, HN, HB⟩ := hrel
  by_cases hj : j < l0.length
  case neg =>
   have hi := HI.out
   rw [List.drop_of_length_le (by omega), removeL] at hi
   simp only [Option.some.injEq, Prod.mk.injEq] at hi
   obtain ⟨rfl, rfl⟩ := hi
   obtain ⟨Av, cv, rfl⟩ := Kd.N_slice HN.out
   go_wp2
   rw [Exit.noGoto_ret]
   go_ret2
   exact ⟨_, rfl, HN.out, HB.out⟩
  case pos =>
   have hi := HI.out
   rw [List.drop_eq_getElem_cons hj, ← rd_at5 hj, removeL] at hi
   obtain ⟨o, ho, hi⟩ := Option.bind_eq_some_iff.1 hi
   by_cases hc : o.2 = 0 ∧ acc.length + o.1.length ≤ 256
   case neg => rw [if_neg hc] at hi; cases hi
   rw [if_pos hc] at hi
   obtain ⟨hc0, hcl⟩ := hc
   obtain ⟨ak, X1, e1, X2, e2, rfl, q1, q2, F1, F2, hcell⟩ := tree_at5 HF0.out hj
   obtain ⟨y0, y1, y2⟩ := hcell wr (fun i hi hlt => HB.out.block i hlt)
   have a63 := fun (V : World) (hb : Below wr.heap.size wr V) => ellipsis_expand.calls k _ X1 e1 _ X2 e2 _ o.1 o.2 V (Kd.F_now (Kd.F_below (Kd.F_below F1 HB.out) hb)) q1 (Kd.F_now (Kd.F_below (Kd.F_below F2 HB.out) hb)) q2 ho
   have hj0 : (0 : Int) ≤ (j : Int) := Int.natCast_nonneg _
   have hj1 : (j : Int) < (l0.length : Int) := by omega
   have hlb : l0.length ≤ 1000000 := HL.out
   have hn1 : ¬ ((256 : Int) < (o.1.length : Int)) := by omega
   have hn2 : ¬ ((256 : Int) < (acc.length : Int) + (o.1.length : Int)) := by omega
   have hn3 : acc.length ≤ 256 := HJ.out.2
   have HA := Aside0.mk a63
   have HII := Aside0.mk hi
   have HJJ := Aside0.mk hj
   have HCL := Aside0.mk hcl
   have HBT := Aside0.mk (below_alloc (Below.refl wr.heap.size wr) (.cells #[.string (rd_T27 l0 j).f0, .slice X1 (rd_T27 l0 j).f1.length e1, .slice X2 (rd_T27 l0 j).f2.length e2] 27))
   obtain ⟨Av, cv, rfl⟩ := Kd.N_slice HN.out
   rw [hc0] at HA
   clear hcell F1 F2 q1 q2 ho hi a63 hcl hc0 HI
   go_wp2_with (first
    | (go_at_call 63; refine (HA.out _ HBT.out).mono ?_; rintro e w2 ⟨v1, rfl, hv1, hb2⟩; obtain ⟨U1, t1', rfl⟩ := Kd.N_slice hv1; have HV1 := Aside0.mk hv1; have HB2 := Aside0.mk (HBT.out.trans (hb2.mono HBT.out.size)); clear hv1 hb2 HA)
    | ((with_reducible refine gate_builtin (b := .append) (xs := #[.tmp 37, .tmp 38]) rfl ?_); at_builtin; refine Kd.N_append_rows k27 (w0 := w) w.heap.size rfl (.tmp 37) (.tmp 38) 22 27 (.agg #[(.string ⟨#[]⟩), (.slice none 0 0), (.slice none 0 0)]) 64 rfl Try.underlying22 info27 rfl (by decide) (by omega) (.slice Av acc.length cv) acc o.1 U1 o.1.length t1' (fun q => w.heap.size ≤ q) (fun q => wr.heap.size ≤ q) rfl rfl (Kd.N_below HN.out HB2.out) (Kd.F_mono (Kd.N_F HV1.out) (fun q hq => Nat.le_trans HBT.out.size hq)) (fun q hq => ⟨Nat.le_trans HB.out.size hq, fun he => by have := Kd.N_lt HN.out q he.symm; omega⟩) (fun q hq => Nat.le_trans HB.out.size (Nat.le_trans HB2.out.size hq)) (HB.out.trans (HB2.out.mono HB.out.size)) (Nat.le_trans HB.out.size HB2.out.size) (by have := HCL.out; omega) ?_; intro v3 w3 hn3 hb3 _ _; have HN3 := Aside0.mk hn3; have HB3 := Aside0.mk hb3; clear hn3 hb3))
   go_roundw
   case rel => exact ⟨j + 1, _, congrArg Value.bool (decide_eq_false (by omega)), by go_num, ⟨HJJ.out, by have := HCL.out; simp; omega⟩, HII, HN3, HB3⟩
   case measure => simp [intOf]; omega

/-! ### anaphora_Expand: function 26 -/
def anaphora_Expand.f (k : Nat) (l0 : List (S27)) : Option ((List (S27)) × Int) := (anaphora_Resolve.f k l0).bind fun bt223 => (if bt223.2 = 0 then ((ellipsis_Remove.f k bt223.1).bind fun bt227 => (some (bt227.1, bt227.2))) else (some (([] : List (S27)), bt223.2)))
theorem anaphora_Expand.mono : ∀ a0 k, LeO (anaphora_Expand.f k a0) (anaphora_Expand.f (k + 1) a0) := by
 intro a0 k
 unfold anaphora_Expand.f
 repeat' first
   | (with_reducible exact anaphora_Resolve.mono _ _)
   | (with_reducible exact ellipsis_Remove.mono _ _)
   | (with_reducible exact LeO.refl _)
   | (with_reducible exact LeO.none _)
   | (with_reducible refine LeO.ite ?_ ?_)
   | (with_reducible refine LeO.bind ?_ (fun _ => ?_))
   | exact anaphora_Resolve.mono _ _
   | exact ellipsis_Remove.mono _ _
   | exact LeO.none _
   | refine LeO.ite ?_ ?_
   | refine LeO.bind ?_ (fun _ => ?_)
set_option maxHeartbeats 8000000 in
set_option maxRecDepth 100000 in
theorem anaphora_Expand.calls (k : Nat) (A0 : Option Addr) (c0 : Nat) (l0 : List (S27)) (r1 : List (S27)) (r2 : Int) (w : World) (hr0 : Kd.C k27 w A0 l0.length l0) (hc0 : l0.length ≤ c0) (h : anaphora_Expand.f k l0 = some (r1, r2)) :
  Calls Try.prog 26 #[.slice A0 l0.length c0] w fun e w' => ∃ v0_ : Value, e = .returned (.tuple #[v0_, .int .i64 r2]) ∧ Kd.N k27 27 w' w.heap.size (fun k_ => (w.heap.size ≤ k_)) v0_ r1 ∧ Below w.heap.size w w' := by
 have HR0 := Aside0.mk hr0
 have HC0 := Aside0.mk hc0
 clear hr0 hc0
 have HB := Aside0.mk (Below.refl w.heap.size w)
 have H : ((anaphora_Resolve.f k l0).bind fun bt223 => (if bt223.2 = 0 then ((ellipsis_Remove.f k bt223.1).bind fun bt227 => (some (bt227.1, bt227.2))) else (some (([] : List (S27)), bt223.2)))) = some (r1, r2) := h
 clear h
 replace H := Option.bind_eq_some_iff.mp H
 obtain ⟨⟨t223, t226⟩, A20, H⟩ := H
 replace H : (if t226 = 0 then ((ellipsis_Remove.f k t223).bind fun bt227 => (some (bt227.1, bt227.2))) else (some (([] : List (S27)), t226))) = some (r1, r2) := H
 have A2 := Aside0.mk A20
 clear A20
 by_cases c3 : t226 = 0
 ·rw [if_pos c3] at H
  have c3b0 : (t226 == 0) = true := beq_iff_eq.mpr c3
  have c3b1 : (t226 != 0) = false := bne_eq_false_iff_eq.mpr c3
  clear c3
  replace H := Option.bind_eq_some_iff.mp H
  obtain ⟨⟨t227, t230⟩, A40, H⟩ := H
  replace H : (some (t227, t230)) = some (r1, r2) := H
  have A4 := Aside0.mk A40
  clear A40
  simp only [Option.some.injEq, Prod.mk.injEq] at H
  obtain ⟨rfl, rfl⟩ := H
  go_enter Try.func26, Try.ntmps26
  go_wp2_with (first | ((with_reducible refine gate_callee (f := 17) rfl ?_); refine goesL_ (some 8) rfl rfl Try.func17 (by kernel_rfl) rfl #[.slice A0 l0.length c0] rfl (by (try simp only [List.map_toArray, List.map_cons, List.map_nil]); first | done | rfl | (simp only [List.length_drop, List.length_take]; rfl)) ?_; (with_reducible refine (anaphora_Resolve.calls k _ _ l0 t223 t226 _ ?side1 ?side2 A2.out).mono ?_); (case side1 => exact cs_ HR0.out); (case side2 => exact HC0.out); rintro e w5 ⟨v224, rfl, ho0, hb⟩; refine ⟨_, rfl, ?_⟩; have n0_ := Aside0.mk (Kd.N_lower (Kd.N_mono (ok' := fun k_ => (w.heap.size ≤ k_)) ho0 (fun k_ hk_ => (Nat.le_trans (below_size (be_ HB)) hk_))) (below_size (be_ HB))); have n1_ := Aside0.mk (below_step (be_ HB) hb); clear HB; have HO225 := n0_; have HB := n1_; clear n0_ n1_; (try clear hb); (try clear hb2); (try clear hk); (try clear hi); (try clear ho0); obtain ⟨Ao6, co6, eo6⟩ := Kd.N_slice HO225.out; subst eo6) | ((with_reducible refine gate_callee (f := 52) rfl ?_); refine goesL_ (some 15) rfl rfl Try.func52 (by kernel_rfl) rfl #[.slice Ao6 t223.length co6] rfl (by (try simp only [List.map_toArray, List.map_cons, List.map_nil]); first | done | rfl | (simp only [List.length_drop, List.length_take]; rfl)) ?_; (with_reducible refine (ellipsis_Remove.calls k _ _ t223 t227 t230 _ ?side1 ?side2 A4.out).mono ?_); (case side1 => repeat (first | exact (Kd.N_reads' HO225.out).2.2 | (with_reducible refine Kd.C_alloc ?_ _) | (with_reducible refine Kd.C_drewN ?_ _) | (with_reducible refine Kd.C_drew ?_))); (case side2 => exact (Kd.N_reads' HO225.out).2.1); rintro e w7 ⟨v228, rfl, ho0, hb⟩; refine ⟨_, rfl, ?_⟩; have n0_ := Aside0.mk (Kd.N_elder' (nq_ HO225) (Kd.N_base ho0) hb); have n1_ := Aside0.mk (Kd.N_lower (Kd.N_mono (ok' := fun k_ => (w.heap.size ≤ k_) ∧ some k_ ≠ (.slice Ao6 t223.length co6 : Value).ownBlock) ho0 (fun k_ hk_ => ⟨(Nat.le_trans (below_size (be_ HB)) hk_), (Kd.fresh' (Kd.N_lt (nq_ HO225)) k_ hk_)⟩)) (below_size (be_ HB))); have n2_ := Aside0.mk (below_step (be_ HB) hb); clear HO225; clear HB; have HO225 := n0_; have HO229 := n1_; have HB := n2_; clear n0_ n1_ n2_; (try clear hb); (try clear hb2); (try clear hk); (try clear hi); (try clear ho0)))
  go_ret2
  exact ⟨_, er_, by (with_reducible repeat (first | apply Kd.N_alloc | apply Kd.N_drewN | apply Kd.N_drew)); exact Kd.N_mono HO229.out (fun _ hk => hk.1), be_ HB⟩
 ·rw [if_neg c3] at H
  have c3b0 : (t226 == 0) = false := beq_eq_false_iff_ne.mpr c3
  have c3b1 : (t226 != 0) = true := bne_iff_ne.mpr c3
  simp only [Option.some.injEq, Prod.mk.injEq] at H
  obtain ⟨rfl, rfl⟩ := H
  go_enter Try.func26, Try.ntmps26
  go_wp2_with (first | ((with_reducible refine gate_callee (f := 17) rfl ?_); refine goesL_ (some 8) rfl rfl Try.func17 (by kernel_rfl) rfl #[.slice A0 l0.length c0] rfl (by (try simp only [List.map_toArray, List.map_cons, List.map_nil]); first | done | rfl | (simp only [List.length_drop, List.length_take]; rfl)) ?_; (with_reducible refine (anaphora_Resolve.calls k _ _ l0 t223 t226 _ ?side1 ?side2 A2.out).mono ?_); (case side1 => exact cs_ HR0.out); (case side2 => exact HC0.out); rintro e w8 ⟨v224, rfl, ho0, hb⟩; refine ⟨_, rfl, ?_⟩; have n0_ := Aside0.mk (Kd.N_lower (Kd.N_mono (ok' := fun k_ => (w.heap.size ≤ k_)) ho0 (fun k_ hk_ => (Nat.le_trans (below_size (be_ HB)) hk_))) (below_size (be_ HB))); have n1_ := Aside0.mk (below_step (be_ HB) hb); clear HB; have HO225 := n0_; have HB := n1_; clear n0_ n1_; (try clear hb); (try clear hb2); (try clear hk); (try clear hi); (try clear ho0)))
  go_ret2
  exact ⟨_, er_, by first | exact Kd.R_nil _ _ _ _ _ | exact Kd.N_nil _ _ _ _ _ | exact Kd.V_nil _ _ _ _ _ | exact Kd.Q_nil _ _ _ _ _ | exact Kd.S_nil _ _ _ _ _, be_ HB⟩

/-! ### pentaglotlaw46_sentence: function 32 -/
def pentaglotlaw46_sentence.f (a0_0 : ByteArray) (l0_1 : List Int) (l0_2 : List (S27)) (a1 : ByteArray) : Option (ByteArray × List Int × (List (S27))) := some ((⟨#[65, 115, 115, 101, 114, 116]⟩ : ByteArray), ([] : List Int), (([(⟨a0_0, l0_1, l0_2⟩ : S27), (⟨(⟨#[65, 99, 116]⟩ : ByteArray), ([] : List Int), (([(⟨a1, ([] : List Int), ([] : List (S27))⟩ : S27)] : List (S27)))⟩ : S27)] : List (S27))))
set_option maxHeartbeats 8000000 in
set_option maxRecDepth 100000 in
theorem pentaglotlaw46_sentence.calls (a0_0 : ByteArray) (P0_1_ : Nat → Prop) (A0_1 : Option Addr) (c0_1 : Nat) (l0_1 : List Int) (P0_2_ : Nat → Prop) (A0_2 : Option Addr) (c0_2 : Nat) (l0_2 : List (S27)) (a1 : ByteArray) (r1 : ByteArray) (r2 : List Int) (r3 : List (S27)) (w : World) (hs0_1 : Kd.V (Kd.int .i64) 3 w w.heap.size (fun k_ => P0_1_ k_) (.slice A0_1 l0_1.length c0_1) l0_1) (hs0_2 : Kd.V k27 27 w w.heap.size (fun k_ => P0_2_ k_) (.slice A0_2 l0_2.length c0_2) l0_2) (h : pentaglotlaw46_sentence.f a0_0 l0_1 l0_2 a1 = some (r1, r2, r3)) :
  Calls Try.prog 32 #[.agg #[.string a0_0, .slice A0_1 l0_1.length c0_1, .slice A0_2 l0_2.length c0_2], .string a1] w fun e w' => ∃ v1_ v2_ : Value, e = .returned (.agg #[.string r1, v1_, v2_]) ∧ Kd.R (Kd.int .i64) 3 w' w.heap.size (fun k_ => (w.heap.size ≤ k_)) v1_ r2 ∧ Kd.N k27 27 w' w.heap.size (fun k_ => ((P0_1_ k_ ∨ P0_2_ k_) ∨ w.heap.size ≤ k_) ∧ some k_ ≠ (v1_ : Value).ownBlock) v2_ r3 ∧ Below w.heap.size w w' := by
 have hu27 := Try.underlying27
 have HO0_1 := Aside0.mk (show Kd.V (Kd.int .i64) 3 w w.heap.size (fun k_ => ((P0_1_ k_ ∨ P0_2_ k_) ∨ w.heap.size ≤ k_)) (.slice A0_1 l0_1.length c0_1) l0_1 from Kd.V_mono hs0_1 (fun k_ hk => .inl (.inl hk)))
 have HO0_2 := Aside0.mk (show Kd.V k27 27 w w.heap.size (fun k_ => ((P0_1_ k_ ∨ P0_2_ k_) ∨ w.heap.size ≤ k_)) (.slice A0_2 l0_2.length c0_2) l0_2 from Kd.V_mono hs0_2 (fun k_ hk => .inl (.inr hk)))
 have HB := Aside0.mk (Below.refl w.heap.size w)
 have H : (some ((⟨#[65, 115, 115, 101, 114, 116]⟩ : ByteArray), ([] : List Int), (([(⟨a0_0, l0_1, l0_2⟩ : S27), (⟨(⟨#[65, 99, 116]⟩ : ByteArray), ([] : List Int), (([(⟨a1, ([] : List Int), ([] : List (S27))⟩ : S27)] : List (S27)))⟩ : S27)] : List (S27))))) = some (r1, r2, r3) := h
 clear h
 obtain ⟨y233, hy233⟩ : ∃ y_ : List (S27), y_ = (([(⟨a1, ([] : List Int), ([] : List (S27))⟩ : S27)] : List (S27))) := ⟨_, rfl⟩
 replace H : (some ((⟨#[65, 115, 115, 101, 114, 116]⟩ : ByteArray), ([] : List Int), (([(⟨a0_0, l0_1, l0_2⟩ : S27), (⟨(⟨#[65, 99, 116]⟩ : ByteArray), ([] : List Int), y233⟩ : S27)] : List (S27))))) = some (r1, r2, r3) := by first | (rw [hy233]; with_reducible exact H) | (have H2_ := (Option.bind_some _ _).symm.trans H; rw [hy233]; with_reducible exact H2_) | (have H2_ := (Option.bind_some _ _).symm.trans H; with_reducible exact H2_) | with_reducible exact H | (rw [hy233]; exact H) | exact H
 have Ny233 := Aside0.mk hy233
 clear hy233
 obtain ⟨y236, hy236⟩ : ∃ y_ : List (S27), y_ = (([(⟨a0_0, l0_1, l0_2⟩ : S27), (⟨(⟨#[65, 99, 116]⟩ : ByteArray), ([] : List Int), y233⟩ : S27)] : List (S27))) := ⟨_, rfl⟩
 replace H : (some ((⟨#[65, 115, 115, 101, 114, 116]⟩ : ByteArray), ([] : List Int), y236)) = some (r1, r2, r3) := by first | (rw [hy236]; with_reducible exact H) | (have H2_ := (Option.bind_some _ _).symm.trans H; rw [hy236]; with_reducible exact H2_) | (have H2_ := (Option.bind_some _ _).symm.trans H; with_reducible exact H2_) | with_reducible exact H | (rw [hy236]; exact H) | exact H
 have Ny236 := Aside0.mk hy236
 clear hy236
 simp only [Option.some.injEq, Prod.mk.injEq] at H
 obtain ⟨rfl, rfl, rfl⟩ := H
 go_enter Try.func32, Try.ntmps32
 go_wp2_with (first | ((with_reducible refine gate_dst (N := 2) rfl ?_); refine box_event ?hg (N := 2) ?hd (cs := #[.string a0_0, .slice A0_1 l0_1.length c0_1, .slice A0_2 l0_2.length c0_2]) (t := 27) ?hr ?_; (case hd => rfl); (case hg => rfl); (case hr => first | (go_simp; done) | (go_simp; rfl)); intro gb231 hg w3 hbox hb; have n0_ := Aside0.mk (Kd.V_below (Kd.V_elderB (vq_ HO0_1) gb231 (Nat.le_of_eq hg.symm)) hb); have n1_ := Aside0.mk (Kd.V_below (Kd.V_elderB (vq_ HO0_2) gb231 (Nat.le_of_eq hg.symm)) hb); have n2_ := Aside0.mk (below_step (be_ HB) hb); have n3_ := Aside0.mk (hbox); have n4_ := Aside0.mk ((by rw [hg]; exact (below_size (be_ HB)) : w.heap.size ≤ gb231)); have n5_ := Aside0.mk ((by rw [hg]; exact (below_size (be_ HB)) : w.heap.size ≤ gb231)); clear HO0_1; clear HO0_2; clear HB; have HO0_1 := n0_; have HO0_2 := n1_; have HB := n2_; have BK231 := n3_; have GW231 := n4_; have GE231 := n5_; clear n0_ n1_ n2_ n3_ n4_ n5_; clear hb hbox hg) | ((with_reducible refine gate_dst (N := 4) rfl ?_); refine box_event ?hg (N := 4) ?hd (cs := #[.string (⟨#[]⟩ : ByteArray), .slice none 0 0, .slice none 0 0]) (t := 27) ?hr ?_; (case hd => rfl); (case hg => rfl); (case hr => first | (go_simp; done) | (go_simp; rfl)); intro gb232 hg w4 hbox hb; have n0_ := Aside0.mk (Kd.V_below (Kd.V_elderB (vq_ HO0_1) gb232 (Nat.le_of_eq hg.symm)) hb); have n1_ := Aside0.mk (Kd.V_below (Kd.V_elderB (vq_ HO0_2) gb232 (Nat.le_of_eq hg.symm)) hb); have n2_ := Aside0.mk (blk_below (g := gb231) (o := .cells #[.string a0_0, .slice A0_1 l0_1.length c0_1, .slice A0_2 l0_2.length c0_2] 27 (0, 0)) (bq_ BK231) hb); have n3_ := Aside0.mk (below_step (be1_ HB GE231) hb); have n4_ := Aside0.mk (hbox); have n5_ := Aside0.mk ((by rw [hg]; exact (below_size (be1_ HB GE231)) : w.heap.size ≤ gb232)); have n6_ := Aside0.mk ((by rw [hg]; exact (below_size (be1_ HB GE231)) : w.heap.size ≤ gb232)); have n7_ := Aside0.mk ((by rw [hg]; exact Nat.ne_of_lt (blk_lt (g := gb231) (o := .cells #[.string a0_0, .slice A0_1 l0_1.length c0_1, .slice A0_2 l0_2.length c0_2] 27 (0, 0)) (bq_ BK231)) : gb231 ≠ gb232)); have n8_ := Aside0.mk ((by rw [hg]; exact Nat.ne_of_gt (blk_lt (g := gb231) (o := .cells #[.string a0_0, .slice A0_1 l0_1.length c0_1, .slice A0_2 l0_2.length c0_2] 27 (0, 0)) (bq_ BK231)) : gb232 ≠ gb231)); clear HO0_1; clear HO0_2; clear BK231; clear HB; have HO0_1 := n0_; have HO0_2 := n1_; have BK231 := n2_; have HB := n3_; have BK232 := n4_; have GW232 := n5_; have GE232 := n6_; have NB231_232 := n7_; have NB232_231 := n8_; clear n0_ n1_ n2_ n3_ n4_ n5_ n6_ n7_ n8_; clear hb hbox hg; have hnb5 := NB231_232.out; have hnc5 := NB232_231.out; have hcz6_0 : w4.cell? ⟨gb231, 0, none⟩ = some (.string a0_0) := (blk_cell BK231.out 0).trans rfl; have hcz6_1 : w4.cell? ⟨gb231, 1, none⟩ = some (.slice A0_1 l0_1.length c0_1) := (blk_cell BK231.out 1).trans rfl; have hcz6_2 : w4.cell? ⟨gb231, 2, none⟩ = some (.slice A0_2 l0_2.length c0_2) := (blk_cell BK231.out 2).trans rfl; have hfz6_0 := blk_frozen BK231.out 0; have hfz6_1 := blk_frozen BK231.out 1; have hfz6_2 := blk_frozen BK231.out 2) | ((with_reducible refine gate_dst (N := 8) rfl ?_); refine Kd.N_lit k27 _ 27 ?hg (N' := 8) ?hd (xs := ([(⟨a1, ([] : List Int), ([] : List (S27))⟩ : S27)] : List (S27))) (inner := [.string a1, .slice none 0 0, .slice none 0 0]) (ok := (fun k_ => ((P0_1_ k_ ∨ P0_2_ k_) ∨ w.heap.size ≤ k_) ∧ k_ ≠ gb231 ∧ k_ ≠ gb232)) (okp := (fun k_ => ((P0_1_ k_ ∨ P0_2_ k_) ∨ w.heap.size ≤ k_) ∧ k_ ≠ gb231 ∧ k_ ≠ gb232)) ?hr ?hp (fun _ hk => hk) ((show ∀ k_, w4.heap.size ≤ k_ → (fun k_ => ((P0_1_ k_ ∨ P0_2_ k_) ∨ w.heap.size ≤ k_) ∧ k_ ≠ gb231 ∧ k_ ≠ gb232) k_ from fun k_ hk => ⟨(.inr (Nat.le_trans (below_size (be2_ HB GE231 GE232)) hk)), Kd.freshB (g := gb231) (o := .cells #[.string a0_0, .slice A0_1 l0_1.length c0_1, .slice A0_2 l0_2.length c0_2] 27 (0, 0)) (bq_ BK231) k_ hk, Kd.freshB (g := gb232) (o := .cells #[.string (⟨#[]⟩ : ByteArray), .slice none 0 0, .slice none 0 0] 27 (0, 0)) (bq_ BK232) k_ hk⟩) _ (Nat.le_refl _)) (Below.refl _ _) (Nat.le_refl _) (by simp) ?_; (case hd => rfl); (case hg => rfl); (case hr => first | (go_simp; done) | (go_simp; rfl)); (case hp => exact (Reps.c3 (show Kd.FK k27 _ _ (⟨a1, ([] : List Int), ([] : List (S27))⟩ : S27) [.string a1, .slice none 0 0, .slice none 0 0] from (k27_mkF _ _ (⟨a1, ([] : List Int), ([] : List (S27))⟩ : S27) (Nat.le_refl _) (Kd.F_nil _ _ _) (Nat.le_refl _) (Kd.F_nil _ _ _))) (Reps.none _ _))); intro v234 w7 ho8 hb hg_ hnew_; clear hg_ hnew_; (first | rw [← Ny233.out] at ho8 | (simp only [Int.reduceToNat] at ho8; rw [← Ny233.out] at ho8)); have n0_ := Aside0.mk (Kd.V_elder' (vq_ HO0_1) (Kd.N_base ho8) hb); have n1_ := Aside0.mk (Kd.V_elder' (vq_ HO0_2) (Kd.N_base ho8) hb); have n2_ := Aside0.mk (Kd.N_lower ho8 (below_size (be2_ HB GE231 GE232))); have n3_ := Aside0.mk (blk_below (g := gb231) (o := .cells #[.string a0_0, .slice A0_1 l0_1.length c0_1, .slice A0_2 l0_2.length c0_2] 27 (0, 0)) (bq_ BK231) hb); have n4_ := Aside0.mk (blk_below (g := gb232) (o := .cells #[.string (⟨#[]⟩ : ByteArray), .slice none 0 0, .slice none 0 0] 27 (0, 0)) (bq_ BK232) hb); have n5_ := Aside0.mk (below_step (be2_ HB GE231 GE232) hb); clear HO0_1; clear HO0_2; clear BK231; clear BK232; clear HB; have HO0_1 := n0_; have HO0_2 := n1_; have HO235 := n2_; have BK231 := n3_; have BK232 := n4_; have HB := n5_; clear n0_ n1_ n2_ n3_ n4_ n5_; clear hb ho8; obtain ⟨Ao9, co9, eo9⟩ := Kd.N_slice HO235.out; subst eo9) | ((with_reducible refine gate_dst (N := 10) rfl ?_); refine Kd.N_lit k27 _ 27 ?hg (N' := 10) ?hd (xs := ([(⟨a0_0, l0_1, l0_2⟩ : S27), (⟨(⟨#[65, 99, 116]⟩ : ByteArray), ([] : List Int), y233⟩ : S27)] : List (S27))) (inner := [.string a0_0, .slice A0_1 l0_1.length c0_1, .slice A0_2 l0_2.length c0_2, .string (⟨#[65, 99, 116]⟩ : ByteArray), .slice none 0 0, .slice Ao9 y233.length co9]) (ok := (fun k_ => ((P0_1_ k_ ∨ P0_2_ k_) ∨ w.heap.size ≤ k_) ∧ k_ ≠ gb231 ∧ k_ ≠ gb232)) (okp := (fun k_ => ((P0_1_ k_ ∨ P0_2_ k_) ∨ w.heap.size ≤ k_) ∧ k_ ≠ gb231 ∧ k_ ≠ gb232)) ?hr ?hp (fun _ hk => hk) ((show ∀ k_, w7.heap.size ≤ k_ → (fun k_ => ((P0_1_ k_ ∨ P0_2_ k_) ∨ w.heap.size ≤ k_) ∧ k_ ≠ gb231 ∧ k_ ≠ gb232) k_ from fun k_ hk => ⟨(.inr (Nat.le_trans (below_size (be2_ HB GE231 GE232)) hk)), Kd.freshB (g := gb231) (o := .cells #[.string a0_0, .slice A0_1 l0_1.length c0_1, .slice A0_2 l0_2.length c0_2] 27 (0, 0)) (bq_ BK231) k_ hk, Kd.freshB (g := gb232) (o := .cells #[.string (⟨#[]⟩ : ByteArray), .slice none 0 0, .slice none 0 0] 27 (0, 0)) (bq_ BK232) k_ hk⟩) _ (Nat.le_refl _)) (Below.refl _ _) (Nat.le_refl _) (by simp) ?_; (case hd => rfl); (case hg => rfl); (case hr => first | (go_simp; done) | (go_simp; rfl)); (case hp => exact (Reps.c3 (show Kd.FK k27 _ _ (⟨a0_0, l0_1, l0_2⟩ : S27) [.string a0_0, .slice A0_1 l0_1.length c0_1, .slice A0_2 l0_2.length c0_2] from (k27_mkF _ _ (⟨a0_0, l0_1, l0_2⟩ : S27) (Kd.V_reads' (Kd.V_mono (ok' := (fun k_ => ((P0_1_ k_ ∨ P0_2_ k_) ∨ w.heap.size ≤ k_) ∧ k_ ≠ gb231 ∧ k_ ≠ gb232)) (HO0_1.out) (fun k_ hk => ⟨hk.1.1.1, ⟨hk.1.1.2, hk.1.2⟩⟩))).2.1 (Kd.V_F (Kd.V_mono (ok' := (fun k_ => ((P0_1_ k_ ∨ P0_2_ k_) ∨ w.heap.size ≤ k_) ∧ k_ ≠ gb231 ∧ k_ ≠ gb232)) (HO0_1.out) (fun k_ hk => ⟨hk.1.1.1, ⟨hk.1.1.2, hk.1.2⟩⟩))) (Kd.V_reads' (Kd.V_mono (ok' := (fun k_ => ((P0_1_ k_ ∨ P0_2_ k_) ∨ w.heap.size ≤ k_) ∧ k_ ≠ gb231 ∧ k_ ≠ gb232)) (HO0_2.out) (fun k_ hk => ⟨hk.1.1.1, ⟨hk.1.1.2, hk.1.2⟩⟩))).2.1 (Kd.V_F (Kd.V_mono (ok' := (fun k_ => ((P0_1_ k_ ∨ P0_2_ k_) ∨ w.heap.size ≤ k_) ∧ k_ ≠ gb231 ∧ k_ ≠ gb232)) (HO0_2.out) (fun k_ hk => ⟨hk.1.1.1, ⟨hk.1.1.2, hk.1.2⟩⟩))))) (Reps.c3 (show Kd.FK k27 _ _ (⟨(⟨#[65, 99, 116]⟩ : ByteArray), ([] : List Int), y233⟩ : S27) [.string (⟨#[65, 99, 116]⟩ : ByteArray), .slice none 0 0, .slice Ao9 y233.length co9] from (k27_mkF _ _ (⟨(⟨#[65, 99, 116]⟩ : ByteArray), ([] : List Int), y233⟩ : S27) (Nat.le_refl _) (Kd.F_nil _ _ _) (Kd.N_reads' (Kd.N_mono (ok' := (fun k_ => ((P0_1_ k_ ∨ P0_2_ k_) ∨ w.heap.size ≤ k_) ∧ k_ ≠ gb231 ∧ k_ ≠ gb232)) (HO235.out) (fun k_ hk => ⟨hk.1, ⟨hk.2.1, hk.2.2⟩⟩))).2.1 (Kd.N_F (Kd.N_mono (ok' := (fun k_ => ((P0_1_ k_ ∨ P0_2_ k_) ∨ w.heap.size ≤ k_) ∧ k_ ≠ gb231 ∧ k_ ≠ gb232)) (HO235.out) (fun k_ hk => ⟨hk.1, ⟨hk.2.1, hk.2.2⟩⟩))))) (Reps.none _ _)))); intro v237 w10 ho11 hb hg_ hnew_; clear hg_ hnew_; (first | rw [← Ny236.out] at ho11 | (simp only [Int.reduceToNat] at ho11; rw [← Ny236.out] at ho11)); have n0_ := Aside0.mk (Kd.V_elder' (vq_ HO0_1) (Kd.N_base ho11) hb); have n1_ := Aside0.mk (Kd.V_elder' (vq_ HO0_2) (Kd.N_base ho11) hb); have n2_ := Aside0.mk (Kd.N_lower ho11 (below_size (be2_ HB GE231 GE232))); have n3_ := Aside0.mk (blk_below (g := gb231) (o := .cells #[.string a0_0, .slice A0_1 l0_1.length c0_1, .slice A0_2 l0_2.length c0_2] 27 (0, 0)) (bq_ BK231) hb); have n4_ := Aside0.mk (blk_below (g := gb232) (o := .cells #[.string (⟨#[]⟩ : ByteArray), .slice none 0 0, .slice none 0 0] 27 (0, 0)) (bq_ BK232) hb); have n5_ := Aside0.mk (below_step (be2_ HB GE231 GE232) hb); clear HO0_1; clear HO0_2; clear BK231; clear BK232; clear HB; clear HO235; have HO0_1 := n0_; have HO0_2 := n1_; have HO238 := n2_; have BK231 := n3_; have BK232 := n4_; have HB := n5_; clear n0_ n1_ n2_ n3_ n4_ n5_; clear hb ho11; obtain ⟨Ao12, co12, eo12⟩ := Kd.N_slice HO238.out; subst eo12; have hcz13_0 : w10.cell? ⟨gb232, 0, none⟩ = some (.string (⟨#[]⟩ : ByteArray)) := (blk_cell BK232.out 0).trans rfl; have hcz13_1 : w10.cell? ⟨gb232, 1, none⟩ = some (.slice none 0 0) := (blk_cell BK232.out 1).trans rfl; have hcz13_2 : w10.cell? ⟨gb232, 2, none⟩ = some (.slice none 0 0) := (blk_cell BK232.out 2).trans rfl; have hfz13_0 := blk_frozen BK232.out 0; have hfz13_1 := blk_frozen BK232.out 1; have hfz13_2 := blk_frozen BK232.out 2))
 refine bodyPost_ret (results_cell_row rfl _ _ gb232 27 #[.string (⟨#[65, 115, 115, 101, 114, 116]⟩ : ByteArray), .slice none 0 0, .slice Ao12 y236.length co12] (0, 0) _ rfl (by (with_reducible repeat (first | refine blk_drewN ?_ _ | refine blk_drew ?_ | refine blk_alloc ?_ _)); refine blk_put (cs := #[.string (⟨#[65, 115, 115, 101, 114, 116]⟩ : ByteArray), .slice none 0 0, .slice none 0 0]) ?_ 2 _ rfl; (with_reducible repeat (first | refine blk_drewN ?_ _ | refine blk_drew ?_ | refine blk_alloc ?_ _)); refine blk_put (cs := #[.string (⟨#[65, 115, 115, 101, 114, 116]⟩ : ByteArray), .slice none 0 0, .slice none 0 0]) ?_ 1 _ rfl; (with_reducible repeat (first | refine blk_drewN ?_ _ | refine blk_drew ?_ | refine blk_alloc ?_ _)); refine blk_put (cs := #[.string (⟨#[]⟩ : ByteArray), .slice none 0 0, .slice none 0 0]) ?_ 0 _ rfl; (with_reducible repeat (first | refine blk_drewN ?_ _ | refine blk_drew ?_ | refine blk_alloc ?_ _)); exact BK232.out) Try.underlying27 rfl (by kernel_rfl)) rfl ?_
 exact ⟨_, _, er_, by first | exact Kd.R_nil _ _ _ _ _ | exact Kd.N_nil _ _ _ _ _ | exact Kd.V_nil _ _ _ _ _ | exact Kd.Q_nil _ _ _ _ _ | exact Kd.S_nil _ _ _ _ _, by (with_reducible repeat (first | apply Kd.N_alloc | apply Kd.N_drewN | apply Kd.N_drew)); exact Kd.N_mono (Kd.N_far (p := ⟨gb232, 2, none⟩) (Kd.N_far (p := ⟨gb232, 1, none⟩) (Kd.N_far (p := ⟨gb232, 0, none⟩) (Kd.N_mono HO238.out (fun k_ hk => (⟨hk, hk.2.2⟩ : _ ∧ k_ ≠ gb232))) (fun _ hk => hk.2) (.string (⟨#[65, 115, 115, 101, 114, 116]⟩ : ByteArray))) (fun _ hk => hk.2) (.slice none 0 0)) (fun _ hk => hk.2) (.slice Ao12 y236.length co12)) (fun _ hk => ⟨hk.1.1, (by simp [Value.ownBlock])⟩), be2_ HB GE231 GE232⟩

/-! ### pentaglotlaw46_name: function 33 -/
def pentaglotlaw46_name.f (a0 : ByteArray) : Option (ByteArray × List Int × (List (S27))) := some ((⟨#[78, 97, 109, 101]⟩ : ByteArray), ([] : List Int), (([(⟨a0, ([] : List Int), ([] : List (S27))⟩ : S27)] : List (S27))))
set_option maxHeartbeats 8000000 in
set_option maxRecDepth 100000 in
theorem pentaglotlaw46_name.calls (a0 : ByteArray) (r1 : ByteArray) (r2 : List Int) (r3 : List (S27)) (w : World) (h : pentaglotlaw46_name.f a0 = some (r1, r2, r3)) :
  Calls Try.prog 33 #[.string a0] w fun e w' => ∃ v1_ v2_ : Value, e = .returned (.agg #[.string r1, v1_, v2_]) ∧ Kd.R (Kd.int .i64) 3 w' w.heap.size (fun _ => True) v1_ r2 ∧ Kd.R k27 27 w' w.heap.size (fun k_ => some k_ ≠ (v1_ : Value).ownBlock) v2_ r3 ∧ Below w.heap.size w w' := by
 have hu27 := Try.underlying27
 have HB := Aside0.mk (Below.refl w.heap.size w)
 have H : (some ((⟨#[78, 97, 109, 101]⟩ : ByteArray), ([] : List Int), (([(⟨a0, ([] : List Int), ([] : List (S27))⟩ : S27)] : List (S27))))) = some (r1, r2, r3) := h
 clear h
 obtain ⟨y240, hy240⟩ : ∃ y_ : List (S27), y_ = (([(⟨a0, ([] : List Int), ([] : List (S27))⟩ : S27)] : List (S27))) := ⟨_, rfl⟩
 replace H : (some ((⟨#[78, 97, 109, 101]⟩ : ByteArray), ([] : List Int), y240)) = some (r1, r2, r3) := by first | (rw [hy240]; with_reducible exact H) | (have H2_ := (Option.bind_some _ _).symm.trans H; rw [hy240]; with_reducible exact H2_) | (have H2_ := (Option.bind_some _ _).symm.trans H; with_reducible exact H2_) | with_reducible exact H | (rw [hy240]; exact H) | exact H
 have Ny240 := Aside0.mk hy240
 clear hy240
 simp only [Option.some.injEq, Prod.mk.injEq] at H
 obtain ⟨rfl, rfl, rfl⟩ := H
 go_enter Try.func33, Try.ntmps33
 go_wp2_with (first | ((with_reducible refine gate_dst (N := 2) rfl ?_); refine box_event ?hg (N := 2) ?hd (cs := #[.string (⟨#[]⟩ : ByteArray), .slice none 0 0, .slice none 0 0]) (t := 27) ?hr ?_; (case hd => rfl); (case hg => rfl); (case hr => first | (go_simp; done) | (go_simp; rfl)); intro gb239 hg w2 hbox hb; have n0_ := Aside0.mk (below_step (be_ HB) hb); have n1_ := Aside0.mk (hbox); have n2_ := Aside0.mk ((by rw [hg]; exact (below_size (be_ HB)) : w.heap.size ≤ gb239)); have n3_ := Aside0.mk ((by rw [hg]; exact (below_size (be_ HB)) : w.heap.size ≤ gb239)); clear HB; have HB := n0_; have BK239 := n1_; have GW239 := n2_; have GE239 := n3_; clear n0_ n1_ n2_ n3_; clear hb hbox hg) | ((with_reducible refine gate_dst (N := 5) rfl ?_); refine Kd.R_lit k27 _ 27 ?hg (N := 5) ?hd (xs := ([(⟨a0, ([] : List Int), ([] : List (S27))⟩ : S27)] : List (S27))) (inner := [.string a0, .slice none 0 0, .slice none 0 0]) (ok := fun _ => True) (okp := fun _ => True) ?hr ?hp (fun _ hk => hk) trivial (Below.refl _ _) (Nat.le_refl _) (by simp) ?_; (case hd => rfl); (case hg => rfl); (case hr => first | (go_simp; done) | (go_simp; rfl)); (case hp => exact (Reps.c3 (show Kd.M k27 _ _ _ (⟨a0, ([] : List Int), ([] : List (S27))⟩ : S27) [.string a0, .slice none 0 0, .slice none 0 0] from (k27_mkM _ _ _ (⟨a0, ([] : List Int), ([] : List (S27))⟩ : S27) (Kd.R_nil _ _ _ _ _) (Kd.R_nil _ _ _ _ _))) (Reps.none _ _))); intro v241 w3 ho4 hb hg_ hnew_; clear hg_ hnew_; (first | rw [← Ny240.out] at ho4 | (simp only [Int.reduceToNat] at ho4; rw [← Ny240.out] at ho4)); have n0_ := Aside0.mk (Kd.R_lower (Kd.R_newB ho4 (g := gb239) (o := .cells #[.string (⟨#[]⟩ : ByteArray), .slice none 0 0, .slice none 0 0] 27 (0, 0)) (bq_ BK239)) (below_size (be1_ HB GE239))); have n1_ := Aside0.mk (blk_below (g := gb239) (o := .cells #[.string (⟨#[]⟩ : ByteArray), .slice none 0 0, .slice none 0 0] 27 (0, 0)) (bq_ BK239) hb); have n2_ := Aside0.mk (below_step (be1_ HB GE239) hb); clear BK239; clear HB; have HO242 := n0_; have BK239 := n1_; have HB := n2_; clear n0_ n1_ n2_; clear hb ho4; obtain ⟨Ao5, co5, eo5⟩ := Kd.R_slice HO242.out; subst eo5; have hcz6_0 : w3.cell? ⟨gb239, 0, none⟩ = some (.string (⟨#[]⟩ : ByteArray)) := (blk_cell BK239.out 0).trans rfl; have hcz6_1 : w3.cell? ⟨gb239, 1, none⟩ = some (.slice none 0 0) := (blk_cell BK239.out 1).trans rfl; have hcz6_2 : w3.cell? ⟨gb239, 2, none⟩ = some (.slice none 0 0) := (blk_cell BK239.out 2).trans rfl; have hfz6_0 := blk_frozen BK239.out 0; have hfz6_1 := blk_frozen BK239.out 1; have hfz6_2 := blk_frozen BK239.out 2))
 refine bodyPost_ret (results_cell_row rfl _ _ gb239 27 #[.string (⟨#[78, 97, 109, 101]⟩ : ByteArray), .slice none 0 0, .slice Ao5 y240.length co5] (0, 0) _ rfl (by (with_reducible repeat (first | refine blk_drewN ?_ _ | refine blk_drew ?_ | refine blk_alloc ?_ _)); refine blk_put (cs := #[.string (⟨#[78, 97, 109, 101]⟩ : ByteArray), .slice none 0 0, .slice none 0 0]) ?_ 2 _ rfl; (with_reducible repeat (first | refine blk_drewN ?_ _ | refine blk_drew ?_ | refine blk_alloc ?_ _)); refine blk_put (cs := #[.string (⟨#[78, 97, 109, 101]⟩ : ByteArray), .slice none 0 0, .slice none 0 0]) ?_ 1 _ rfl; (with_reducible repeat (first | refine blk_drewN ?_ _ | refine blk_drew ?_ | refine blk_alloc ?_ _)); refine blk_put (cs := #[.string (⟨#[]⟩ : ByteArray), .slice none 0 0, .slice none 0 0]) ?_ 0 _ rfl; (with_reducible repeat (first | refine blk_drewN ?_ _ | refine blk_drew ?_ | refine blk_alloc ?_ _)); exact BK239.out) Try.underlying27 rfl (by kernel_rfl)) rfl ?_
 exact ⟨_, _, er_, by first | exact Kd.R_nil _ _ _ _ _ | exact Kd.N_nil _ _ _ _ _ | exact Kd.V_nil _ _ _ _ _ | exact Kd.Q_nil _ _ _ _ _ | exact Kd.S_nil _ _ _ _ _, by (with_reducible repeat (first | apply Kd.R_alloc | apply Kd.R_drewN | apply Kd.R_drew)); exact Kd.R_mono (Kd.R_far (p := ⟨gb239, 2, none⟩) (Kd.R_far (p := ⟨gb239, 1, none⟩) (Kd.R_far (p := ⟨gb239, 0, none⟩) (Kd.R_mono HO242.out (fun k_ hk => (⟨hk, hk.2⟩ : _ ∧ k_ ≠ gb239))) (fun _ hk => hk.2) (.string (⟨#[78, 97, 109, 101]⟩ : ByteArray))) (fun _ hk => hk.2) (.slice none 0 0)) (fun _ hk => hk.2) (.slice Ao5 y240.length co5)) (fun _ hk => (by simp [Value.ownBlock])), be1_ HB GE239⟩

end Go.Proofs.Ytfampmajmbediaa.P
