-- Written by the session's own program wip/tools/xprint.py out of the translation, with the kit's print.py on a scratch copy; functions given by hand stand among them.
import Derived.Test.YtolpckflofjfhaaDoorPx0
import Derived.Test.YtolpckflofjfhaaDoorPx2
import Derived.Test.YtolpckflofjfhaaDoorPx5
namespace Go.Proofs.YtolpckflofjfhaaDoor.P
open Go.RowKit Go.Proofs.YtolpckflofjfhaaDoorW.PrintWords Go.Proofs.YtolpckflofjfhaaDoorW.PrintLast Go.Proofs.YtolpckflofjfhaaDoorW.PrintMore
attribute [local go_sem] max2_int min2_int max_two min_two max_three min_three max_four min_four   -- for this text's walks alone
set_option linter.unusedVariables false
set_option linter.unusedSimpArgs false

/-! ### formula_Valid: function 52 -/
def formula_Valid.f (k : Nat) (a0_0 : Int) (a0_1 : ByteArray) (l0_2 : List (S92)) (a0_3 : Int) (a0_4 : Int) (l0_5 : List (S32)) (a1 : Int) : Option (Bool) := (formula_limits.f k a0_0 a0_1 l0_2 a0_3 a0_4 l0_5).bind fun t133 => (if t133 = true then ((formula_formed.f k a0_0 a0_1 l0_2 a0_3 a0_4 l0_5 (mn (mx a1 0) 1099511627776)).bind fun t134 => (some t134)) else (some false))
theorem formula_Valid.mono : ∀ a0 a1 a2 a3 a4 a5 a6 k, LeO (formula_Valid.f k a0 a1 a2 a3 a4 a5 a6) (formula_Valid.f (k + 1) a0 a1 a2 a3 a4 a5 a6) := by
 intro a0 a1 a2 a3 a4 a5 a6 k
 unfold formula_Valid.f
 repeat' first
   | (with_reducible exact formula_formed.mono _ _ _ _ _ _ _ _)
   | (with_reducible exact formula_limits.mono _ _ _ _ _ _ _)
   | (with_reducible exact LeO.refl _)
   | (with_reducible exact LeO.none _)
   | (with_reducible refine LeO.ite ?_ ?_)
   | (with_reducible refine LeO.bind ?_ (fun _ => ?_))
   | exact formula_formed.mono _ _ _ _ _ _ _ _
   | exact formula_limits.mono _ _ _ _ _ _ _
   | exact LeO.none _
   | refine LeO.ite ?_ ?_
   | refine LeO.bind ?_ (fun _ => ?_)
set_option maxHeartbeats 8000000 in
set_option maxRecDepth 100000 in
theorem formula_Valid.calls (k : Nat) (a0_0 : Int) (a0_1 : ByteArray) (A0_2 : Option Addr) (c0_2 : Nat) (l0_2 : List (S92)) (a0_3 : Int) (a0_4 : Int) (A0_5 : Option Addr) (c0_5 : Nat) (l0_5 : List (S32)) (a1 : Int) (r : Bool) (w : World) (hr0_2 : Kd.C k92 w A0_2 l0_2.length l0_2) (hc0_2 : l0_2.length ≤ c0_2) (hr0_5 : Kd.C k32 w A0_5 l0_5.length l0_5) (hc0_5 : l0_5.length ≤ c0_5) (h : formula_Valid.f k a0_0 a0_1 l0_2 a0_3 a0_4 l0_5 a1 = some r) :
  Calls Tryd.prog 52 #[.agg #[.int .i64 a0_0, .string a0_1, .slice A0_2 l0_2.length c0_2, .int .i64 a0_3, .int .i64 a0_4, .slice A0_5 l0_5.length c0_5], .int .i64 a1] w fun e w' => e = .returned (.bool r) ∧ Below w.heap.size w w' := by
 have hu32 := Tryd.underlying32
 have HR0_2 := Aside0.mk hr0_2
 have HC0_2 := Aside0.mk hc0_2
 clear hr0_2 hc0_2
 have HR0_5 := Aside0.mk hr0_5
 have HC0_5 := Aside0.mk hc0_5
 clear hr0_5 hc0_5
 have HB := Aside0.mk (Below.refl w.heap.size w)
 have H : ((formula_limits.f k a0_0 a0_1 l0_2 a0_3 a0_4 l0_5).bind fun t133 => (if t133 = true then ((formula_formed.f k a0_0 a0_1 l0_2 a0_3 a0_4 l0_5 (mn (mx a1 0) 1099511627776)).bind fun t134 => (some t134)) else (some false))) = some r := h
 clear h
 replace H := Option.bind_eq_some_iff.mp H
 obtain ⟨t133, A30, H⟩ := H
 replace H : (if t133 = true then ((formula_formed.f k a0_0 a0_1 l0_2 a0_3 a0_4 l0_5 (mn (mx a1 0) 1099511627776)).bind fun t134 => (some t134)) else (some false)) = some r := H
 have A3 := Aside0.mk A30
 clear A30
 by_cases c4 : t133 = true
 ·subst c4
  have H1 : ((formula_formed.f k a0_0 a0_1 l0_2 a0_3 a0_4 l0_5 (mn (mx a1 0) 1099511627776)).bind fun t134 => (some t134)) = some r := by rw [if_pos rfl] at H; exact H
  clear H
  have H := H1
  clear H1
  obtain ⟨ji5, hji5⟩ : ∃ j_ : Int, (mx a1 0) = j_ := ⟨_, rfl⟩
  replace H : ((formula_formed.f k a0_0 a0_1 l0_2 a0_3 a0_4 l0_5 (mn (ji5) 1099511627776)).bind fun t134 => (some t134)) = some r := by first | (rw [hji5] at H; exact H) | (simp only [hji5] at H ⊢; exact H)
  (try rw [hji5] at A3)
  (try (have hji5l : 0 ≤ ji5 := by (rw [← hji5]; unfold mx; (repeat' split) <;> omega)))
  (try (have hji5m : 0 ≤ ji5 := by omega))
  have hji5_ : (if a1 < 0 then 0 else a1) = ji5 := hji5
  obtain ⟨ji6, hji6⟩ : ∃ j_ : Int, (mn (ji5) 1099511627776) = j_ := ⟨_, rfl⟩
  replace H : ((formula_formed.f k a0_0 a0_1 l0_2 a0_3 a0_4 l0_5 (ji6)).bind fun t134 => (some t134)) = some r := by first | (rw [hji6] at H; exact H) | (simp only [hji6] at H ⊢; exact H)
  (try rw [hji6] at A3)
  have hji6_ : (if 1099511627776 < (ji5) then 1099511627776 else (ji5)) = ji6 := hji6
  replace H := Option.bind_eq_some_iff.mp H
  obtain ⟨t134, A70, H⟩ := H
  replace H : (some t134) = some r := H
  have A7 := Aside0.mk A70
  clear A70
  obtain rfl := Option.some.inj H
  go_enter Tryd.func52, Tryd.ntmps52
  go_wp2_with (first | ((with_reducible refine gate_dst (N := 2) rfl ?_); (try (refine gate_guard (by rfl) ?_; dsimp only)); refine box_event ?hg (N := 2) ?hd (cs := #[.int .i64 a0_0, .string a0_1, .slice A0_2 l0_2.length c0_2, .int .i64 a0_3, .int .i64 a0_4, .slice A0_5 l0_5.length c0_5]) (t := 32) ?hr ?_; (case hd => rfl); (case hg => rfl); (case hr => first | (go_simp; done) | (go_simp; rfl)); intro gb132 hg w8 hbox hb; have n0_ := Aside0.mk (below_step (be_ HB) hb); have n1_ := Aside0.mk (hbox); have n2_ := Aside0.mk ((by rw [hg]; exact (below_size (be_ HB)) : w.heap.size ≤ gb132)); have n3_ := Aside0.mk ((by rw [hg]; exact (below_size (be_ HB)) : w.heap.size ≤ gb132)); clear HB; have HB := n0_; have BK132 := n1_; have GW132 := n2_; have GE132 := n3_; clear n0_ n1_ n2_ n3_; clear hb hbox hg; have hcz9_0 : w8.cell? ⟨gb132, 0, none⟩ = some (.int .i64 a0_0) := (blk_cell BK132.out 0).trans rfl; have hcz9_1 : w8.cell? ⟨gb132, 1, none⟩ = some (.string a0_1) := (blk_cell BK132.out 1).trans rfl; have hcz9_2 : w8.cell? ⟨gb132, 2, none⟩ = some (.slice A0_2 l0_2.length c0_2) := (blk_cell BK132.out 2).trans rfl; have hcz9_3 : w8.cell? ⟨gb132, 3, none⟩ = some (.int .i64 a0_3) := (blk_cell BK132.out 3).trans rfl; have hcz9_4 : w8.cell? ⟨gb132, 4, none⟩ = some (.int .i64 a0_4) := (blk_cell BK132.out 4).trans rfl; have hcz9_5 : w8.cell? ⟨gb132, 5, none⟩ = some (.slice A0_5 l0_5.length c0_5) := (blk_cell BK132.out 5).trans rfl; have hfz9_0 := blk_frozen BK132.out 0; have hfz9_1 := blk_frozen BK132.out 1; have hfz9_2 := blk_frozen BK132.out 2; have hfz9_3 := blk_frozen BK132.out 3; have hfz9_4 := blk_frozen BK132.out 4; have hfz9_5 := blk_frozen BK132.out 5) | ((with_reducible refine gate_callee (f := 64) rfl ?_); refine goesL_ (some 6) rfl rfl Tryd.func64 (by kernel_rfl) rfl #[.agg #[.int .i64 a0_0, .string a0_1, .slice A0_2 l0_2.length c0_2, .int .i64 a0_3, .int .i64 a0_4, .slice A0_5 l0_5.length c0_5]] rfl (by (try simp only [List.map_toArray, List.map_cons, List.map_nil]); first | done | rfl | (simp only [List.length_drop, List.length_take]; rfl)) ?_; (with_reducible refine (formula_limits.calls k a0_0 a0_1 _ _ l0_2 a0_3 a0_4 _ _ l0_5 true _ ?side1 ?side2 ?side3 ?side4 A3.out).mono ?_); (case side1 => exact cs_ (Kd.C_below HR0_2.out HB.out)); (case side2 => exact HC0_2.out); (case side3 => exact cs_ (Kd.C_below HR0_5.out HB.out)); (case side4 => exact HC0_5.out); rintro e w10 ⟨rfl, hb⟩; refine ⟨_, rfl, ?_⟩; have n0_ := Aside0.mk (blk_below (g := gb132) (o := .cells #[.int .i64 a0_0, .string a0_1, .slice A0_2 l0_2.length c0_2, .int .i64 a0_3, .int .i64 a0_4, .slice A0_5 l0_5.length c0_5] 32 (0, 0)) (bq_ BK132) hb); have n1_ := Aside0.mk (below_step (be1_ HB GE132) hb); clear BK132; clear HB; have BK132 := n0_; have HB := n1_; clear n0_ n1_; (try clear hb); (try clear hb2); (try clear hk); (try clear hi); have hcz11_0 : w10.cell? ⟨gb132, 0, none⟩ = some (.int .i64 a0_0) := (blk_cell BK132.out 0).trans rfl; have hcz11_1 : w10.cell? ⟨gb132, 1, none⟩ = some (.string a0_1) := (blk_cell BK132.out 1).trans rfl; have hcz11_2 : w10.cell? ⟨gb132, 2, none⟩ = some (.slice A0_2 l0_2.length c0_2) := (blk_cell BK132.out 2).trans rfl; have hcz11_3 : w10.cell? ⟨gb132, 3, none⟩ = some (.int .i64 a0_3) := (blk_cell BK132.out 3).trans rfl; have hcz11_4 : w10.cell? ⟨gb132, 4, none⟩ = some (.int .i64 a0_4) := (blk_cell BK132.out 4).trans rfl; have hcz11_5 : w10.cell? ⟨gb132, 5, none⟩ = some (.slice A0_5 l0_5.length c0_5) := (blk_cell BK132.out 5).trans rfl; have hfz11_0 := blk_frozen BK132.out 0; have hfz11_1 := blk_frozen BK132.out 1; have hfz11_2 := blk_frozen BK132.out 2; have hfz11_3 := blk_frozen BK132.out 3; have hfz11_4 := blk_frozen BK132.out 4; have hfz11_5 := blk_frozen BK132.out 5) | (go_at_call 65; (with_reducible refine (formula_formed.calls k a0_0 a0_1 _ _ l0_2 a0_3 a0_4 _ _ l0_5 ji6 t134 _ ?side1 ?side2 ?side3 ?side4 A7.out).mono ?_); (case side1 => exact cs_ (Kd.C_below HR0_2.out HB.out)); (case side2 => exact HC0_2.out); (case side3 => exact cs_ (Kd.C_below HR0_5.out HB.out)); (case side4 => exact HC0_5.out); rintro e w12 ⟨rfl, hb⟩; have n0_ := Aside0.mk (blk_below (g := gb132) (o := .cells #[.int .i64 a0_0, .string a0_1, .slice A0_2 l0_2.length c0_2, .int .i64 a0_3, .int .i64 a0_4, .slice A0_5 l0_5.length c0_5] 32 (0, 0)) (bq_ BK132) hb); have n1_ := Aside0.mk (below_step (be1_ HB GE132) hb); clear BK132; clear HB; have BK132 := n0_; have HB := n1_; clear n0_ n1_; (try clear hb); (try clear hb2); (try clear hk); (try clear hi)))
  go_ret
  exact ⟨by first | rfl | (simp [errW_none, errW_some] <;> rfl) | (simp only [← hji5, ← hji6]; first | rfl | (simp [errW_none, errW_some] <;> rfl)) | (simp [*, errW_none, errW_some] <;> rfl), be1_ HB GE132⟩
 ·replace c4 := Bool.eq_false_iff.mpr c4
  subst c4
  have H1 : (some false) = some r := by rw [if_neg (show ¬ (false = true) by decide)] at H; exact H
  clear H
  have H := H1
  clear H1
  obtain rfl := Option.some.inj H
  go_enter Tryd.func52, Tryd.ntmps52
  go_wp2_with (first | ((with_reducible refine gate_dst (N := 2) rfl ?_); (try (refine gate_guard (by rfl) ?_; dsimp only)); refine box_event ?hg (N := 2) ?hd (cs := #[.int .i64 a0_0, .string a0_1, .slice A0_2 l0_2.length c0_2, .int .i64 a0_3, .int .i64 a0_4, .slice A0_5 l0_5.length c0_5]) (t := 32) ?hr ?_; (case hd => rfl); (case hg => rfl); (case hr => first | (go_simp; done) | (go_simp; rfl)); intro gb132 hg w13 hbox hb; have n0_ := Aside0.mk (below_step (be_ HB) hb); have n1_ := Aside0.mk (hbox); have n2_ := Aside0.mk ((by rw [hg]; exact (below_size (be_ HB)) : w.heap.size ≤ gb132)); have n3_ := Aside0.mk ((by rw [hg]; exact (below_size (be_ HB)) : w.heap.size ≤ gb132)); clear HB; have HB := n0_; have BK132 := n1_; have GW132 := n2_; have GE132 := n3_; clear n0_ n1_ n2_ n3_; clear hb hbox hg; have hcz14_0 : w13.cell? ⟨gb132, 0, none⟩ = some (.int .i64 a0_0) := (blk_cell BK132.out 0).trans rfl; have hcz14_1 : w13.cell? ⟨gb132, 1, none⟩ = some (.string a0_1) := (blk_cell BK132.out 1).trans rfl; have hcz14_2 : w13.cell? ⟨gb132, 2, none⟩ = some (.slice A0_2 l0_2.length c0_2) := (blk_cell BK132.out 2).trans rfl; have hcz14_3 : w13.cell? ⟨gb132, 3, none⟩ = some (.int .i64 a0_3) := (blk_cell BK132.out 3).trans rfl; have hcz14_4 : w13.cell? ⟨gb132, 4, none⟩ = some (.int .i64 a0_4) := (blk_cell BK132.out 4).trans rfl; have hcz14_5 : w13.cell? ⟨gb132, 5, none⟩ = some (.slice A0_5 l0_5.length c0_5) := (blk_cell BK132.out 5).trans rfl; have hfz14_0 := blk_frozen BK132.out 0; have hfz14_1 := blk_frozen BK132.out 1; have hfz14_2 := blk_frozen BK132.out 2; have hfz14_3 := blk_frozen BK132.out 3; have hfz14_4 := blk_frozen BK132.out 4; have hfz14_5 := blk_frozen BK132.out 5) | ((with_reducible refine gate_callee (f := 64) rfl ?_); refine goesL_ (some 6) rfl rfl Tryd.func64 (by kernel_rfl) rfl #[.agg #[.int .i64 a0_0, .string a0_1, .slice A0_2 l0_2.length c0_2, .int .i64 a0_3, .int .i64 a0_4, .slice A0_5 l0_5.length c0_5]] rfl (by (try simp only [List.map_toArray, List.map_cons, List.map_nil]); first | done | rfl | (simp only [List.length_drop, List.length_take]; rfl)) ?_; (with_reducible refine (formula_limits.calls k a0_0 a0_1 _ _ l0_2 a0_3 a0_4 _ _ l0_5 false _ ?side1 ?side2 ?side3 ?side4 A3.out).mono ?_); (case side1 => exact cs_ (Kd.C_below HR0_2.out HB.out)); (case side2 => exact HC0_2.out); (case side3 => exact cs_ (Kd.C_below HR0_5.out HB.out)); (case side4 => exact HC0_5.out); rintro e w15 ⟨rfl, hb⟩; refine ⟨_, rfl, ?_⟩; have n0_ := Aside0.mk (blk_below (g := gb132) (o := .cells #[.int .i64 a0_0, .string a0_1, .slice A0_2 l0_2.length c0_2, .int .i64 a0_3, .int .i64 a0_4, .slice A0_5 l0_5.length c0_5] 32 (0, 0)) (bq_ BK132) hb); have n1_ := Aside0.mk (below_step (be1_ HB GE132) hb); clear BK132; clear HB; have BK132 := n0_; have HB := n1_; clear n0_ n1_; (try clear hb); (try clear hb2); (try clear hk); (try clear hi)))
  go_ret
  exact ⟨er_, be1_ HB GE132⟩

/-! ### cmp_isNaN_int: function 77 -/
def cmp_isNaN_int.f (a0 : Int) : Option (Bool) := some (a0 != a0)
set_option maxHeartbeats 8000000 in
set_option maxRecDepth 100000 in
theorem cmp_isNaN_int.calls (a0 : Int) (r : Bool) (w : World) (h : cmp_isNaN_int.f a0 = some r) :
  Calls Tryd.prog 77 #[.int .i64 a0] w fun e w' => e = .returned (.bool r) ∧ Drawn0 w w' := by
 have H : (some (a0 != a0)) = some r := h
 clear h
 obtain rfl := Option.some.inj H
 go_enter Tryd.func77, Tryd.ntmps77
 go_wp2
 go_ret
 exact ⟨by first | rfl | (simp [pw_isEmpty]; done) | (simp; done) | (simp [*]; done), by repeat (first | exact Drawn0.refl _ | apply Drawn0.step)⟩

/-! ### cmp_Less_int: function 68 -/
def cmp_Less_int.f (a0 : Int) (a1 : Int) : Option (Bool) := (cmp_isNaN_int.f a0).bind fun t135 => (if t135 = true then ((cmp_isNaN_int.f a1).bind fun t136 => (if t136 = true then (some (decide (a0 < a1))) else (some true))) else (some (decide (a0 < a1))))
set_option maxHeartbeats 8000000 in
set_option maxRecDepth 100000 in
theorem cmp_Less_int.calls (a0 : Int) (a1 : Int) (r : Bool) (w : World) (h : cmp_Less_int.f a0 a1 = some r) :
  Calls Tryd.prog 68 #[.int .i64 a0, .int .i64 a1] w fun e w' => e = .returned (.bool r) ∧ Drawn0 w w' := by
 have H : ((cmp_isNaN_int.f a0).bind fun t135 => (if t135 = true then ((cmp_isNaN_int.f a1).bind fun t136 => (if t136 = true then (some (decide (a0 < a1))) else (some true))) else (some (decide (a0 < a1))))) = some r := h
 clear h
 replace H := Option.bind_eq_some_iff.mp H
 obtain ⟨t135, A30, H⟩ := H
 replace H : (if t135 = true then ((cmp_isNaN_int.f a1).bind fun t136 => (if t136 = true then (some (decide (a0 < a1))) else (some true))) else (some (decide (a0 < a1)))) = some r := H
 have A3 := Aside0.mk A30
 clear A30
 by_cases c4 : t135 = true
 ·subst c4
  have H1 : ((cmp_isNaN_int.f a1).bind fun t136 => (if t136 = true then (some (decide (a0 < a1))) else (some true))) = some r := by rw [if_pos rfl] at H; exact H
  clear H
  have H := H1
  clear H1
  replace H := Option.bind_eq_some_iff.mp H
  obtain ⟨t136, A50, H⟩ := H
  replace H : (if t136 = true then (some (decide (a0 < a1))) else (some true)) = some r := H
  have A5 := Aside0.mk A50
  clear A50
  by_cases c6 : t136 = true
  ·subst c6
   have H1 : (some (decide (a0 < a1))) = some r := by rw [if_pos rfl] at H; exact H
   clear H
   have H := H1
   clear H1
   obtain rfl := Option.some.inj H
   go_enter Tryd.func68, Tryd.ntmps68
   go_wp2_with (first | ((with_reducible refine gate_callee (f := 77) rfl ?_); refine goesL_ (some 6) rfl rfl Tryd.func77 (by kernel_rfl) rfl #[.int .i64 a0] rfl (by (try simp only [List.map_toArray, List.map_cons, List.map_nil]); first | done | rfl | (simp only [List.length_drop, List.length_take]; rfl)) ?_; (with_reducible refine (cmp_isNaN_int.calls a0 true _ A3.out).mono ?_); rintro e w' ⟨rfl, ⟨nd, rfl⟩⟩; refine ⟨_, rfl, ?_⟩) | (go_at_call 77; (with_reducible refine (cmp_isNaN_int.calls a1 true _ A5.out).mono ?_); rintro e w' ⟨rfl, ⟨nd, rfl⟩⟩))
   go_ret
   exact ⟨by first | rfl | (simp [pw_isEmpty]; done) | (simp; done) | (simp [*]; done), by repeat (first | exact Drawn0.refl _ | apply Drawn0.step)⟩
  ·replace c6 := Bool.eq_false_iff.mpr c6
   subst c6
   have H1 : (some true) = some r := by rw [if_neg (show ¬ (false = true) by decide)] at H; exact H
   clear H
   have H := H1
   clear H1
   obtain rfl := Option.some.inj H
   go_enter Tryd.func68, Tryd.ntmps68
   go_wp2_with (first | ((with_reducible refine gate_callee (f := 77) rfl ?_); refine goesL_ (some 6) rfl rfl Tryd.func77 (by kernel_rfl) rfl #[.int .i64 a0] rfl (by (try simp only [List.map_toArray, List.map_cons, List.map_nil]); first | done | rfl | (simp only [List.length_drop, List.length_take]; rfl)) ?_; (with_reducible refine (cmp_isNaN_int.calls a0 true _ A3.out).mono ?_); rintro e w' ⟨rfl, ⟨nd, rfl⟩⟩; refine ⟨_, rfl, ?_⟩) | (go_at_call 77; (with_reducible refine (cmp_isNaN_int.calls a1 false _ A5.out).mono ?_); rintro e w' ⟨rfl, ⟨nd, rfl⟩⟩))
   go_ret
   exact ⟨by first | rfl | (simp [pw_isEmpty]; done) | (simp; done) | (simp [*]; done), by repeat (first | exact Drawn0.refl _ | apply Drawn0.step)⟩
 ·replace c4 := Bool.eq_false_iff.mpr c4
  subst c4
  have H1 : (some (decide (a0 < a1))) = some r := by rw [if_neg (show ¬ (false = true) by decide)] at H; exact H
  clear H
  have H := H1
  clear H1
  obtain rfl := Option.some.inj H
  go_enter Tryd.func68, Tryd.ntmps68
  go_wp2_with (first | ((with_reducible refine gate_callee (f := 77) rfl ?_); refine goesL_ (some 6) rfl rfl Tryd.func77 (by kernel_rfl) rfl #[.int .i64 a0] rfl (by (try simp only [List.map_toArray, List.map_cons, List.map_nil]); first | done | rfl | (simp only [List.length_drop, List.length_take]; rfl)) ?_; (with_reducible refine (cmp_isNaN_int.calls a0 false _ A3.out).mono ?_); rintro e w' ⟨rfl, ⟨nd, rfl⟩⟩; refine ⟨_, rfl, ?_⟩))
  go_ret
  exact ⟨by first | rfl | (simp [pw_isEmpty]; done) | (simp; done) | (simp [*]; done), by repeat (first | exact Drawn0.refl _ | apply Drawn0.step)⟩

/-! ### slices_isNaN_int: function 69 -/
def slices_isNaN_int.f (a0 : Int) : Option (Bool) := some (a0 != a0)
set_option maxHeartbeats 8000000 in
set_option maxRecDepth 100000 in
theorem slices_isNaN_int.calls (a0 : Int) (r : Bool) (w : World) (h : slices_isNaN_int.f a0 = some r) :
  Calls Tryd.prog 69 #[.int .i64 a0] w fun e w' => e = .returned (.bool r) ∧ Drawn0 w w' := by
 have H : (some (a0 != a0)) = some r := h
 clear h
 obtain rfl := Option.some.inj H
 go_enter Tryd.func69, Tryd.ntmps69
 go_wp2
 go_ret
 exact ⟨by first | rfl | (simp [pw_isEmpty]; done) | (simp; done) | (simp [*]; done), by repeat (first | exact Drawn0.refl _ | apply Drawn0.step)⟩

/-! ### slices_BinarySearch_int_int: function 60 -/
def slices_BinarySearch_int_int.l0 : Nat → List Int → Int → Int → Int → Int → Option (Int × Bool)
 | 0, _, _, _, _, _ => none
 | k + 1, x0, x1, x6, x7, x8 => if x7 < x8 then (if 0 ≤ (wrap64 ((IntKind.u64.wrap (wrap64 (x7 + x8))) / 2)) then (if (wrap64 ((IntKind.u64.wrap (wrap64 (x7 + x8))) / 2)) < (x0.length : Int) then ((cmp_Less_int.f (rd x0 (wrap64 ((IntKind.u64.wrap (wrap64 (x7 + x8))) / 2))) x1).bind fun t138 => (if t138 = true then (slices_BinarySearch_int_int.l0 k x0 x1 x6 (wrap64 ((wrap64 ((IntKind.u64.wrap (wrap64 (x7 + x8))) / 2)) + 1)) x8) else (slices_BinarySearch_int_int.l0 k x0 x1 x6 x7 (wrap64 ((IntKind.u64.wrap (wrap64 (x7 + x8))) / 2))))) else (none)) else (none)) else (if x7 < x6 then (if 0 ≤ x7 then (if x7 < (x0.length : Int) then (if (rd x0 x7) = x1 then (some (x7, true)) else ((slices_isNaN_int.f (rd x0 x7)).bind fun t141 => (if t141 = true then ((slices_isNaN_int.f x1).bind fun t142 => (some (x7, t142))) else (some (x7, false))))) else (none)) else (none)) else (some (x7, false)))
def slices_BinarySearch_int_int.f (k : Nat) (l0 : List Int) (a1 : Int) : Option (Int × Bool) := slices_BinarySearch_int_int.l0 k l0 a1 (l0.length : Int) 0 (l0.length : Int)
theorem slices_BinarySearch_int_int.mono_l : ∀ k, (∀ y0 y1 y2 y3 y4, LeO (slices_BinarySearch_int_int.l0 k y0 y1 y2 y3 y4) (slices_BinarySearch_int_int.l0 (k + 1) y0 y1 y2 y3 y4))
 | 0 => fun _ _ _ _ _ r h => by simp [slices_BinarySearch_int_int.l0] at h
 | k + 1 => by
  have ih0 := slices_BinarySearch_int_int.mono_l k
  ·intro y0 y1 y2 y3 y4
   unfold slices_BinarySearch_int_int.l0
   repeat' first
   | (with_reducible exact ih0 _ _ _ _ _)
   | (with_reducible exact LeO.refl _)
   | (with_reducible exact LeO.none _)
   | (with_reducible refine LeO.ite ?_ ?_)
   | (with_reducible refine LeO.bind ?_ (fun _ => ?_))
   | exact ih0 _ _ _ _ _
   | exact LeO.none _
   | refine LeO.ite ?_ ?_
   | refine LeO.bind ?_ (fun _ => ?_)
theorem slices_BinarySearch_int_int.mono : ∀ a0 a1 k, LeO (slices_BinarySearch_int_int.f k a0 a1) (slices_BinarySearch_int_int.f (k + 1) a0 a1) := by
 intro a0 a1 k
 have ih0 := slices_BinarySearch_int_int.mono_l k
 unfold slices_BinarySearch_int_int.f
 repeat' first
   | (with_reducible exact ih0 _ _ _ _ _)
   | (with_reducible exact LeO.refl _)
   | (with_reducible exact LeO.none _)
   | (with_reducible refine LeO.ite ?_ ?_)
   | (with_reducible refine LeO.bind ?_ (fun _ => ?_))
   | exact ih0 _ _ _ _ _
   | exact LeO.none _
   | refine LeO.ite ?_ ?_
   | refine LeO.bind ?_ (fun _ => ?_)
set_option maxHeartbeats 8000000 in
set_option maxRecDepth 100000 in
theorem slices_BinarySearch_int_int.calls (k : Nat) (A0 : Option Addr) (c0 : Nat) (l0 : List Int) (a1 : Int) (r1 : Int) (r2 : Bool) (w : World) (hr0 : Kd.C (Kd.int .i64) w A0 l0.length l0) (hc0 : l0.length ≤ c0) (h : slices_BinarySearch_int_int.f k l0 a1 = some (r1, r2)) :
  Calls Tryd.prog 60 #[.slice A0 l0.length c0, .int .i64 a1] w fun e w' => e = .returned (.tuple #[.int .i64 r1, .bool r2]) ∧ Drawn0 w w' := by
 have HR0 := Aside0.mk hr0
 have HC0 := Aside0.mk hc0
 clear hr0 hc0
 have H : (slices_BinarySearch_int_int.l0 k l0 a1 (l0.length : Int) 0 (l0.length : Int)) = some (r1, r2) := h
 clear h
 have H' := Aside0.mk H
 clear H
 go_enter Tryd.func60, Tryd.ntmps60
 go_wp2
 go_loopg [7, 8] k (fun kq v7 v8 w' => ∃ (x7_1 : Int) (x8_1 : Int), v7 = .int .i64 x7_1 ∧ v8 = .int .i64 x8_1 ∧ Aside0 (slices_BinarySearch_int_int.l0 kq l0 a1 (l0.length : Int) x7_1 x8_1 = some (r1, r2)) ∧ Aside0 (kq ≤ k) ∧ Drawn0 w w')
 case atStart => exact ⟨(0), ((l0.length : Int)), fi_, fi_, H', ⟨Nat.le_refl _⟩, by repeat (first | exact Drawn0.refl _ | apply Drawn0.step)⟩
 case round =>
  clear H'
  try clear p2
  obtain ⟨x7_1, x8_1, rfl, rfl, HA, HK1, ⟨m1, rfl⟩⟩ := hrel
  cases gk with
  | zero => exact absurd HA.out (by simp [slices_BinarySearch_int_int.l0])
  | succ k1 =>
   have H := HA.out
   clear HA
   simp only [slices_BinarySearch_int_int.l0] at H
   by_cases c3 : x7_1 < x8_1
   ·rw [if_pos c3] at H
    have c3b0 : decide (x7_1 < x8_1) = true := decide_eq_true c3
    clear c3
    obtain ⟨ji4, hji4⟩ : ∃ j_ : Int, (wrap64 ((IntKind.u64.wrap (wrap64 (x7_1 + x8_1))) / 2)) = j_ := ⟨_, rfl⟩
    replace H : (if 0 ≤ (ji4) then (if (ji4) < (l0.length : Int) then ((cmp_Less_int.f (rd l0 (ji4)) a1).bind fun t138 => (if t138 = true then (slices_BinarySearch_int_int.l0 k1 l0 a1 (l0.length : Int) (wrap64 ((ji4) + 1)) x8_1) else (slices_BinarySearch_int_int.l0 k1 l0 a1 (l0.length : Int) x7_1 ji4))) else (none)) else (none)) = some (r1, r2) := by first | (rw [hji4] at H; exact H) | (simp only [hji4] at H ⊢; exact H)
    have hji4w : (IntKind.i64.wrap ((IntKind.u64.wrap (wrap64 (x7_1 + x8_1))) / 2)) = ji4 := (i64_w _).trans hji4
    by_cases c5 : 0 ≤ (ji4)
    ·rw [if_pos c5] at H
     have c5b0 : decide (0 ≤ (ji4)) = true := decide_eq_true c5
     clear c5
     by_cases c6 : (ji4) < (l0.length : Int)
     ·rw [if_pos c6] at H
      have c6b0 : decide ((ji4) < (l0.length : Int)) = true := decide_eq_true c6
      clear c6
      replace H := Option.bind_eq_some_iff.mp H
      obtain ⟨t138, A70, H⟩ := H
      replace H : (if t138 = true then (slices_BinarySearch_int_int.l0 k1 l0 a1 (l0.length : Int) (wrap64 ((ji4) + 1)) x8_1) else (slices_BinarySearch_int_int.l0 k1 l0 a1 (l0.length : Int) x7_1 ji4)) = some (r1, r2) := H
      have A7 := Aside0.mk A70
      clear A70
      by_cases c8 : t138 = true
      ·subst c8
       have H1 : (slices_BinarySearch_int_int.l0 k1 l0 a1 (l0.length : Int) (wrap64 ((ji4) + 1)) x8_1) = some (r1, r2) := by rw [if_pos rfl] at H; exact H
       clear H
       have H := H1
       clear H1
       have H' := Aside0.mk H
       clear H
       have p137 : 0 ≤ ((ji4) : Int) := of_decide_eq_true (by first | (with_reducible assumption) | assumption)
       have q137 : (ji4) < (l0.length : Int) := of_decide_eq_true (by first | (with_reducible assumption) | assumption)
       obtain ⟨ad137, e137, hx137_0⟩ := Kd.at_int HR0.out (ji4) p137 q137
       cases e137
       replace p137 := eq_true p137
       replace q137 := eq_true q137
       go_wp2_with (first | ((with_reducible refine gate_callee (f := 68) rfl ?_); refine goesL_ (some 27) rfl rfl Tryd.func68 (by kernel_rfl) rfl #[.int .i64 (rd l0 (ji4)), .int .i64 a1] rfl (by (try simp only [List.map_toArray, List.map_cons, List.map_nil]); first | done | (simp only [hji4]; rfl) | rfl | (simp only [List.length_drop, List.length_take]; rfl)) ?_; (with_reducible refine (cmp_Less_int.calls (rd l0 (ji4)) a1 true _ A7.out).mono ?_); rintro e w' ⟨rfl, ⟨nd, rfl⟩⟩; refine ⟨_, rfl, ?_⟩))
       go_roundg k1
       case measure => have := HK1.out; omega
       case rel => exact ⟨(wrap64 ((ji4) + 1)), (x8_1), (by first | rfl | (simp; done) | (simp only [← hji4] <;> (first | rfl | simp)) | (simp [*]; done)), fi_, H', ⟨by have := HK1.out; omega⟩, by repeat (first | exact Drawn0.refl _ | apply Drawn0.step)⟩
      ·replace c8 := Bool.eq_false_iff.mpr c8
       subst c8
       have H1 : (slices_BinarySearch_int_int.l0 k1 l0 a1 (l0.length : Int) x7_1 ji4) = some (r1, r2) := by rw [if_neg (show ¬ (false = true) by decide)] at H; exact H
       clear H
       have H := H1
       clear H1
       have H' := Aside0.mk H
       clear H
       have p137 : 0 ≤ ((ji4) : Int) := of_decide_eq_true (by first | (with_reducible assumption) | assumption)
       have q137 : (ji4) < (l0.length : Int) := of_decide_eq_true (by first | (with_reducible assumption) | assumption)
       obtain ⟨ad137, e137, hx137_0⟩ := Kd.at_int HR0.out (ji4) p137 q137
       cases e137
       replace p137 := eq_true p137
       replace q137 := eq_true q137
       go_wp2_with (first | ((with_reducible refine gate_callee (f := 68) rfl ?_); refine goesL_ (some 27) rfl rfl Tryd.func68 (by kernel_rfl) rfl #[.int .i64 (rd l0 (ji4)), .int .i64 a1] rfl (by (try simp only [List.map_toArray, List.map_cons, List.map_nil]); first | done | (simp only [hji4]; rfl) | rfl | (simp only [List.length_drop, List.length_take]; rfl)) ?_; (with_reducible refine (cmp_Less_int.calls (rd l0 (ji4)) a1 false _ A7.out).mono ?_); rintro e w' ⟨rfl, ⟨nd, rfl⟩⟩; refine ⟨_, rfl, ?_⟩))
       go_roundg k1
       case measure => have := HK1.out; omega
       case rel => exact ⟨(x7_1), (ji4), fi_, (by first | rfl | (simp; done) | (simp only [← hji4] <;> (first | rfl | simp)) | (simp [*]; done)), H', ⟨by have := HK1.out; omega⟩, by repeat (first | exact Drawn0.refl _ | apply Drawn0.step)⟩
     ·rw [if_neg c6] at H
      exact absurd H (by simp)
    ·rw [if_neg c5] at H
     exact absurd H (by simp)
   ·rw [if_neg c3] at H
    have c3b0 : decide (x7_1 < x8_1) = false := decide_eq_false c3
    clear c3
    by_cases c9 : x7_1 < (l0.length : Int)
    ·rw [if_pos c9] at H
     have c9b0 : decide (x7_1 < (l0.length : Int)) = true := decide_eq_true c9
     clear c9
     by_cases c10 : 0 ≤ x7_1
     ·rw [if_pos c10] at H
      have c10b0 : decide (0 ≤ x7_1) = true := decide_eq_true c10
      clear c10
      by_cases c11 : x7_1 < (l0.length : Int)
      ·rw [if_pos c11] at H
       have c11b0 : decide (x7_1 < (l0.length : Int)) = true := decide_eq_true c11
       clear c11
       by_cases c12 : (rd l0 x7_1) = a1
       ·rw [if_pos c12] at H
        have c12b0 : ((rd l0 x7_1) == a1) = true := beq_iff_eq.mpr c12
        have c12b1 : ((rd l0 x7_1) != a1) = false := bne_eq_false_iff_eq.mpr c12
        clear c12
        simp only [Option.some.injEq, Prod.mk.injEq] at H
        obtain ⟨rfl, rfl⟩ := H
        have p139 : 0 ≤ (x7_1 : Int) := of_decide_eq_true (by first | (with_reducible assumption) | assumption)
        have q139 : x7_1 < (l0.length : Int) := of_decide_eq_true (by first | (with_reducible assumption) | assumption)
        obtain ⟨ad139, e139, hx139_0⟩ := Kd.at_int HR0.out x7_1 p139 q139
        cases e139
        replace p139 := eq_true p139
        replace q139 := eq_true q139
        go_wp2
        go_ret2
        exact ⟨by first | rfl | (simp [pw_isEmpty]; done) | (simp; done) | (simp [*]; done), by repeat (first | exact Drawn0.refl _ | apply Drawn0.step)⟩
       ·rw [if_neg c12] at H
        have c12b0 : ((rd l0 x7_1) == a1) = false := beq_eq_false_iff_ne.mpr c12
        have c12b1 : ((rd l0 x7_1) != a1) = true := bne_iff_ne.mpr c12
        replace H := Option.bind_eq_some_iff.mp H
        obtain ⟨t141, A130, H⟩ := H
        replace H : (if t141 = true then ((slices_isNaN_int.f a1).bind fun t142 => (some (x7_1, t142))) else (some (x7_1, false))) = some (r1, r2) := H
        have A13 := Aside0.mk A130
        clear A130
        by_cases c14 : t141 = true
        ·subst c14
         have H1 : ((slices_isNaN_int.f a1).bind fun t142 => (some (x7_1, t142))) = some (r1, r2) := by rw [if_pos rfl] at H; exact H
         clear H
         have H := H1
         clear H1
         replace H := Option.bind_eq_some_iff.mp H
         obtain ⟨t142, A150, H⟩ := H
         replace H : (some (x7_1, t142)) = some (r1, r2) := H
         have A15 := Aside0.mk A150
         clear A150
         simp only [Option.some.injEq, Prod.mk.injEq] at H
         obtain ⟨rfl, rfl⟩ := H
         have p139 : 0 ≤ (x7_1 : Int) := of_decide_eq_true (by first | (with_reducible assumption) | assumption)
         have q139 : x7_1 < (l0.length : Int) := of_decide_eq_true (by first | (with_reducible assumption) | assumption)
         obtain ⟨ad139, e139, hx139_0⟩ := Kd.at_int HR0.out x7_1 p139 q139
         cases e139
         replace p139 := eq_true p139
         replace q139 := eq_true q139
         have p140 : 0 ≤ (x7_1 : Int) := of_decide_eq_true (by first | (with_reducible assumption) | assumption)
         have q140 : x7_1 < (l0.length : Int) := of_decide_eq_true (by first | (with_reducible assumption) | assumption)
         obtain ⟨ad140, e140, hx140_0⟩ := Kd.at_int HR0.out x7_1 p140 q140
         obtain rfl : ad139 = ad140 := (by injection e140)
         replace p140 := eq_true p140
         replace q140 := eq_true q140
         go_wp2_with (first | (go_at_call 69; (with_reducible refine (slices_isNaN_int.calls (rd l0 x7_1) true _ A13.out).mono ?_); rintro e w' ⟨rfl, ⟨nd, rfl⟩⟩) | (go_at_call 69; (with_reducible refine (slices_isNaN_int.calls a1 t142 _ A15.out).mono ?_); rintro e w' ⟨rfl, ⟨nd, rfl⟩⟩))
         go_ret2
         exact ⟨by first | rfl | (simp [pw_isEmpty]; done) | (simp; done) | (simp [*]; done), by repeat (first | exact Drawn0.refl _ | apply Drawn0.step)⟩
        ·replace c14 := Bool.eq_false_iff.mpr c14
         subst c14
         have H1 : (some (x7_1, false)) = some (r1, r2) := by rw [if_neg (show ¬ (false = true) by decide)] at H; exact H
         clear H
         have H := H1
         clear H1
         simp only [Option.some.injEq, Prod.mk.injEq] at H
         obtain ⟨rfl, rfl⟩ := H
         have p139 : 0 ≤ (x7_1 : Int) := of_decide_eq_true (by first | (with_reducible assumption) | assumption)
         have q139 : x7_1 < (l0.length : Int) := of_decide_eq_true (by first | (with_reducible assumption) | assumption)
         obtain ⟨ad139, e139, hx139_0⟩ := Kd.at_int HR0.out x7_1 p139 q139
         cases e139
         replace p139 := eq_true p139
         replace q139 := eq_true q139
         have p140 : 0 ≤ (x7_1 : Int) := of_decide_eq_true (by first | (with_reducible assumption) | assumption)
         have q140 : x7_1 < (l0.length : Int) := of_decide_eq_true (by first | (with_reducible assumption) | assumption)
         obtain ⟨ad140, e140, hx140_0⟩ := Kd.at_int HR0.out x7_1 p140 q140
         obtain rfl : ad139 = ad140 := (by injection e140)
         replace p140 := eq_true p140
         replace q140 := eq_true q140
         go_wp2_with (first | (go_at_call 69; (with_reducible refine (slices_isNaN_int.calls (rd l0 x7_1) false _ A13.out).mono ?_); rintro e w' ⟨rfl, ⟨nd, rfl⟩⟩))
         go_ret2
         exact ⟨by first | rfl | (simp [pw_isEmpty]; done) | (simp; done) | (simp [*]; done), by repeat (first | exact Drawn0.refl _ | apply Drawn0.step)⟩
      ·rw [if_neg c11] at H
       exact absurd H (by simp)
     ·rw [if_neg c10] at H
      exact absurd H (by simp)
    ·rw [if_neg c9] at H
     have c9b0 : decide (x7_1 < (l0.length : Int)) = false := decide_eq_false c9
     clear c9
     simp only [Option.some.injEq, Prod.mk.injEq] at H
     obtain ⟨rfl, rfl⟩ := H
     go_wp2
     go_ret2
     exact ⟨by first | rfl | (simp [pw_isEmpty]; done) | (simp; done) | (simp [*]; done), by repeat (first | exact Drawn0.refl _ | apply Drawn0.step)⟩

end Go.Proofs.YtolpckflofjfhaaDoor.P
