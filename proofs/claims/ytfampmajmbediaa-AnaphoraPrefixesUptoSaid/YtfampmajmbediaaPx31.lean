-- Written by the session's own program wip/tools/xprint.py out of the translation, with the kit's print.py on a scratch copy; functions given by hand stand among them.
import Derived.Test.YtfampmajmbediaaPx0
import Derived.Test.YtfampmajmbediaaPx27
namespace Go.Proofs.Ytfampmajmbediaa.P
open Go.RowKit Go.Proofs.YtfampmajmbediaaW.PrintWords Go.Proofs.YtfampmajmbediaaW.PrintLast Go.Proofs.YtfampmajmbediaaW.PrintMore
attribute [local go_sem] max2_int min2_int max_two min_two max_three min_three max_four min_four   -- for this text's walks alone
set_option linter.unusedVariables false
set_option linter.unusedSimpArgs false

/-! ### pentaglotref46_Pronouns: function 25 -/
def pentaglotref46_Pronouns.f (k : Nat) (a0_0 : ByteArray) (l0_1 : List Int) (l0_2 : List (S27)) : Option (Int) := (pentaglotref46_Count.f k a0_0 l0_1 l0_2 (⟨#[73, 116]⟩ : ByteArray)).bind fun t494 => ((pentaglotref46_Count.f k a0_0 l0_1 l0_2 (⟨#[84, 104, 101, 121]⟩ : ByteArray)).bind fun t495 => (some (wrap64 (t494 + t495))))
theorem pentaglotref46_Pronouns.mono : ∀ a0 a1 a2 k, LeO (pentaglotref46_Pronouns.f k a0 a1 a2) (pentaglotref46_Pronouns.f (k + 1) a0 a1 a2) := by
 intro a0 a1 a2 k
 unfold pentaglotref46_Pronouns.f
 repeat' first
   | (with_reducible exact pentaglotref46_Count.mono _ _ _ _ _)
   | (with_reducible exact LeO.refl _)
   | (with_reducible exact LeO.none _)
   | (with_reducible refine LeO.ite ?_ ?_)
   | (with_reducible refine LeO.bind ?_ (fun _ => ?_))
   | exact pentaglotref46_Count.mono _ _ _ _ _
   | exact LeO.none _
   | refine LeO.ite ?_ ?_
   | refine LeO.bind ?_ (fun _ => ?_)
set_option maxHeartbeats 8000000 in
set_option maxRecDepth 100000 in
theorem pentaglotref46_Pronouns.calls (k : Nat) (a0_0 : ByteArray) (A0_1 : Option Addr) (c0_1 : Nat) (l0_1 : List Int) (A0_2 : Option Addr) (c0_2 : Nat) (l0_2 : List (S27)) (r : Int) (w : World) (hr0_1 : Kd.C (Kd.int .i64) w A0_1 l0_1.length l0_1) (hc0_1 : l0_1.length ≤ c0_1) (hr0_2 : Kd.C k27 w A0_2 l0_2.length l0_2) (hc0_2 : l0_2.length ≤ c0_2) (h : pentaglotref46_Pronouns.f k a0_0 l0_1 l0_2 = some r) :
  Calls Try.prog 25 #[.agg #[.string a0_0, .slice A0_1 l0_1.length c0_1, .slice A0_2 l0_2.length c0_2]] w fun e w' => e = .returned (.int .i64 r) ∧ Below w.heap.size w w' := by
 have hu27 := Try.underlying27
 have HR0_1 := Aside0.mk hr0_1
 have HC0_1 := Aside0.mk hc0_1
 clear hr0_1 hc0_1
 have HR0_2 := Aside0.mk hr0_2
 have HC0_2 := Aside0.mk hc0_2
 clear hr0_2 hc0_2
 have HB := Aside0.mk (Below.refl w.heap.size w)
 have H : ((pentaglotref46_Count.f k a0_0 l0_1 l0_2 (⟨#[73, 116]⟩ : ByteArray)).bind fun t494 => ((pentaglotref46_Count.f k a0_0 l0_1 l0_2 (⟨#[84, 104, 101, 121]⟩ : ByteArray)).bind fun t495 => (some (wrap64 (t494 + t495))))) = some r := h
 clear h
 replace H := Option.bind_eq_some_iff.mp H
 obtain ⟨t494, A20, H⟩ := H
 replace H : ((pentaglotref46_Count.f k a0_0 l0_1 l0_2 (⟨#[84, 104, 101, 121]⟩ : ByteArray)).bind fun t495 => (some (wrap64 (t494 + t495)))) = some r := H
 have A2 := Aside0.mk A20
 clear A20
 replace H := Option.bind_eq_some_iff.mp H
 obtain ⟨t495, A30, H⟩ := H
 replace H : (some (wrap64 (t494 + t495))) = some r := H
 have A3 := Aside0.mk A30
 clear A30
 obtain rfl := Option.some.inj H
 go_enter Try.func25, Try.ntmps25
 try go_wp2_with (first | ((with_reducible refine gate_dst (N := 1) rfl ?_); refine box_event ?hg (N := 1) ?hd (cs := #[.string a0_0, .slice A0_1 l0_1.length c0_1, .slice A0_2 l0_2.length c0_2]) (t := 27) ?hr ?_; (case hd => rfl); (case hg => rfl); (case hr => first | (go_simp; done) | (go_simp; rfl)); intro gb493 hg w4 hbox hb; have n0_ := Aside0.mk (below_step (be_ HB) hb); have n1_ := Aside0.mk (hbox); have n2_ := Aside0.mk ((by rw [hg]; exact (below_size (be_ HB)) : w.heap.size ≤ gb493)); have n3_ := Aside0.mk ((by rw [hg]; exact (below_size (be_ HB)) : w.heap.size ≤ gb493)); clear HB; have HB := n0_; have BK493 := n1_; have GW493 := n2_; have GE493 := n3_; clear n0_ n1_ n2_ n3_; clear hb hbox hg))
 have n0_ := Aside0.mk (blk_drew BK493.out)
 have n1_ := Aside0.mk (below_drew1 HB.out)
 clear BK493
 clear HB
 have BK493 := n0_
 have HB := n1_
 clear n0_ n1_
 refine start_ (n := 6) (S := fun w' => w'.cell? ⟨gb493, 0, none⟩ = some (.string a0_0) ∧ w'.cell? ⟨gb493, 1, none⟩ = some (.slice A0_1 l0_1.length c0_1) ∧ w'.cell? ⟨gb493, 2, none⟩ = some (.slice A0_2 l0_2.length c0_2)) (ds := []) #[false, false, false, false, false, false] (by kernel_rfl) rfl rfl ⟨(blk_cell BK493.out 0).trans rfl, (blk_cell BK493.out 1).trans rfl, (blk_cell BK493.out 2).trans rfl⟩ (fun hHeld => ?_)
 generalize w4.drew = w5 at BK493 HB hHeld ⊢
 refine tk_ 0 (some 3) hHeld ?_
 refine tk_ 2 (some 5) hHeld ?_
 refine on_ 1 (some 4) (fun K hK => ?_)
 refine goes_ Try.func47 (by kernel_rfl) rfl #[.agg #[.string a0_0, .slice A0_1 l0_1.length c0_1, .slice A0_2 l0_2.length c0_2], .string (⟨#[73, 116]⟩ : ByteArray)] (by rfl) rfl rfl (by (try simp only [List.map_toArray, List.map_cons, List.map_nil]); first | done | rfl | (simp only [List.length_drop, List.length_take]; rfl)) ?_
 with_reducible refine (pentaglotref46_Count.calls k a0_0 _ _ l0_1 _ _ l0_2 (⟨#[73, 116]⟩ : ByteArray) t494 _ ?side1 ?side2 ?side3 ?side4 A2.out).mono ?_
 (case side1 => exact cs_ (Kd.C_below HR0_1.out HB.out))
 (case side2 => exact HC0_1.out)
 (case side3 => exact cs_ (Kd.C_below HR0_2.out HB.out))
 (case side4 => exact HC0_2.out)
 rintro e w6 ⟨rfl, hb⟩
 refine ⟨_, rfl, ?_⟩
 have n0_ := Aside0.mk (blk_below (g := gb493) (o := .cells #[.string a0_0, .slice A0_1 l0_1.length c0_1, .slice A0_2 l0_2.length c0_2] 27 (0, 0)) (bq_ BK493) hb)
 have n1_ := Aside0.mk (below_step (be1_ HB GE493) hb)
 clear BK493
 clear HB
 have BK493 := n0_
 have HB := n1_
 clear n0_ n1_
 (try clear hb)
 (try clear hb2)
 (try clear hk)
 (try clear hi)
 refine hK.out _ _ ⟨(blk_cell BK493.out 0).trans rfl, (blk_cell BK493.out 1).trans rfl, (blk_cell BK493.out 2).trans rfl⟩ (fun hHeld => ?_)
 clear hK K
 refine no_ (N := some 4) ?_
 refine on_ 3 (some 6) (fun K hK => ?_)
 refine goes_ Try.func47 (by kernel_rfl) rfl #[.agg #[.string a0_0, .slice A0_1 l0_1.length c0_1, .slice A0_2 l0_2.length c0_2], .string (⟨#[84, 104, 101, 121]⟩ : ByteArray)] (by rfl) rfl rfl (by (try simp only [List.map_toArray, List.map_cons, List.map_nil]); first | done | rfl | (simp only [List.length_drop, List.length_take]; rfl)) ?_
 with_reducible refine (pentaglotref46_Count.calls k a0_0 _ _ l0_1 _ _ l0_2 (⟨#[84, 104, 101, 121]⟩ : ByteArray) t495 _ ?side1 ?side2 ?side3 ?side4 A3.out).mono ?_
 (case side1 => exact cs_ (Kd.C_below HR0_1.out HB.out))
 (case side2 => exact HC0_1.out)
 (case side3 => exact cs_ (Kd.C_below HR0_2.out HB.out))
 (case side4 => exact HC0_2.out)
 rintro e w7 ⟨rfl, hb⟩
 refine ⟨_, rfl, ?_⟩
 have n0_ := Aside0.mk (blk_below (g := gb493) (o := .cells #[.string a0_0, .slice A0_1 l0_1.length c0_1, .slice A0_2 l0_2.length c0_2] 27 (0, 0)) (bq_ BK493) hb)
 have n1_ := Aside0.mk (below_step (be1_ HB GE493) hb)
 clear BK493
 clear HB
 have BK493 := n0_
 have HB := n1_
 clear n0_ n1_
 (try clear hb)
 (try clear hb2)
 (try clear hk)
 (try clear hi)
 refine hK.out _ _ ⟨(blk_cell BK493.out 0).trans rfl, (blk_cell BK493.out 1).trans rfl, (blk_cell BK493.out 2).trans rfl⟩ (fun hHeld => ?_)
 clear hK K
 refine no_ (N := some 6) ?_
 refine pu_ 4 (some 7) ?_
 refine pu_ 5 (some 2) ?_
 refine done_ (by kernel_rfl) ?_
 try go_wp2
 go_ret
 exact ⟨er_, be1_ HB GE493⟩

end Go.Proofs.Ytfampmajmbediaa.P
