-- Written by the session's own program wip/tools/xprint.py out of the translation, with the kit's print.py on a scratch copy; functions given by hand stand among them.
import Derived.Test.YtfampmajmbediaaPx0
import Derived.Test.YtfampmajmbediaaPx18
import Derived.Test.YtfampmajmbediaaPx19
namespace Go.Proofs.Ytfampmajmbediaa.P
open Go.RowKit Go.Proofs.YtfampmajmbediaaW.PrintWords Go.Proofs.YtfampmajmbediaaW.PrintLast Go.Proofs.YtfampmajmbediaaW.PrintMore
attribute [local go_sem] max2_int min2_int max_two min_two max_three min_three max_four min_four   -- for this text's walks alone
set_option linter.unusedVariables false
set_option linter.unusedSimpArgs false

/-! ### pentaglotref31_Category: function 49 -/
def pentaglotref31_Category.f (k : Nat) (l0 : List (S67)) (a1_0 : ByteArray) (l1_1 : List Int) (l1_2 : List (S27)) : Option (ByteArray × Int) := (pentaglotref31_Size.f k a1_0 l1_1 l1_2).bind fun t260 => (if t260 > 60 then (some ((⟨#[]⟩ : ByteArray), 2)) else ((pentaglotref31_Well.f k l0 a1_0 l1_1 l1_2).bind fun bt261 => (if bt261.2 = true then (some (bt261.1, 0)) else (some ((⟨#[]⟩ : ByteArray), 6)))))
theorem pentaglotref31_Category.mono : ∀ a0 a1 a2 a3 k, LeO (pentaglotref31_Category.f k a0 a1 a2 a3) (pentaglotref31_Category.f (k + 1) a0 a1 a2 a3) := by
 intro a0 a1 a2 a3 k
 unfold pentaglotref31_Category.f
 repeat' first
   | (with_reducible exact pentaglotref31_Size.mono _ _ _ _)
   | (with_reducible exact pentaglotref31_Well.mono _ _ _ _ _)
   | (with_reducible exact LeO.refl _)
   | (with_reducible exact LeO.none _)
   | (with_reducible refine LeO.ite ?_ ?_)
   | (with_reducible refine LeO.bind ?_ (fun _ => ?_))
   | exact pentaglotref31_Size.mono _ _ _ _
   | exact pentaglotref31_Well.mono _ _ _ _ _
   | exact LeO.none _
   | refine LeO.ite ?_ ?_
   | refine LeO.bind ?_ (fun _ => ?_)
set_option maxHeartbeats 8000000 in
set_option maxRecDepth 100000 in
theorem pentaglotref31_Category.calls (k : Nat) (A0 : Option Addr) (c0 : Nat) (l0 : List (S67)) (a1_0 : ByteArray) (A1_1 : Option Addr) (c1_1 : Nat) (l1_1 : List Int) (A1_2 : Option Addr) (c1_2 : Nat) (l1_2 : List (S27)) (r1 : ByteArray) (r2 : Int) (w : World) (hr0 : Kd.C k67 w A0 l0.length l0) (hc0 : l0.length ≤ c0) (hr1_1 : Kd.C (Kd.int .i64) w A1_1 l1_1.length l1_1) (hc1_1 : l1_1.length ≤ c1_1) (hr1_2 : Kd.C k27 w A1_2 l1_2.length l1_2) (hc1_2 : l1_2.length ≤ c1_2) (h : pentaglotref31_Category.f k l0 a1_0 l1_1 l1_2 = some (r1, r2)) :
  Calls Try.prog 49 #[.slice A0 l0.length c0, .agg #[.string a1_0, .slice A1_1 l1_1.length c1_1, .slice A1_2 l1_2.length c1_2]] w fun e w' => e = .returned (.tuple #[.string r1, .int .i64 r2]) ∧ Below w.heap.size w w' := by
 have hu27 := Try.underlying27
 have HR0 := Aside0.mk hr0
 have HC0 := Aside0.mk hc0
 clear hr0 hc0
 have HR1_1 := Aside0.mk hr1_1
 have HC1_1 := Aside0.mk hc1_1
 clear hr1_1 hc1_1
 have HR1_2 := Aside0.mk hr1_2
 have HC1_2 := Aside0.mk hc1_2
 clear hr1_2 hc1_2
 have HB := Aside0.mk (Below.refl w.heap.size w)
 have H : ((pentaglotref31_Size.f k a1_0 l1_1 l1_2).bind fun t260 => (if t260 > 60 then (some ((⟨#[]⟩ : ByteArray), 2)) else ((pentaglotref31_Well.f k l0 a1_0 l1_1 l1_2).bind fun bt261 => (if bt261.2 = true then (some (bt261.1, 0)) else (some ((⟨#[]⟩ : ByteArray), 6)))))) = some (r1, r2) := h
 clear h
 replace H := Option.bind_eq_some_iff.mp H
 obtain ⟨t260, A30, H⟩ := H
 replace H : (if t260 > 60 then (some ((⟨#[]⟩ : ByteArray), 2)) else ((pentaglotref31_Well.f k l0 a1_0 l1_1 l1_2).bind fun bt261 => (if bt261.2 = true then (some (bt261.1, 0)) else (some ((⟨#[]⟩ : ByteArray), 6))))) = some (r1, r2) := H
 have A3 := Aside0.mk A30
 clear A30
 by_cases c4 : t260 > 60
 ·rw [if_pos c4] at H
  have c4b0 : decide (60 < t260) = true := decide_eq_true c4
  clear c4
  simp only [Option.some.injEq, Prod.mk.injEq] at H
  obtain ⟨rfl, rfl⟩ := H
  go_enter Try.func49, Try.ntmps49
  go_wp2_with (first | ((with_reducible refine gate_dst (N := 3) rfl ?_); refine box_event ?hg (N := 3) ?hd (cs := #[.string a1_0, .slice A1_1 l1_1.length c1_1, .slice A1_2 l1_2.length c1_2]) (t := 27) ?hr ?_; (case hd => rfl); (case hg => rfl); (case hr => first | (go_simp; done) | (go_simp; rfl)); intro gb259 hg w5 hbox hb; have n0_ := Aside0.mk (below_step (be_ HB) hb); have n1_ := Aside0.mk (hbox); have n2_ := Aside0.mk ((by rw [hg]; exact (below_size (be_ HB)) : w.heap.size ≤ gb259)); have n3_ := Aside0.mk ((by rw [hg]; exact (below_size (be_ HB)) : w.heap.size ≤ gb259)); clear HB; have HB := n0_; have BK259 := n1_; have GW259 := n2_; have GE259 := n3_; clear n0_ n1_ n2_ n3_; clear hb hbox hg; have hcz6_0 : w5.cell? ⟨gb259, 0, none⟩ = some (.string a1_0) := (blk_cell BK259.out 0).trans rfl; have hcz6_1 : w5.cell? ⟨gb259, 1, none⟩ = some (.slice A1_1 l1_1.length c1_1) := (blk_cell BK259.out 1).trans rfl; have hcz6_2 : w5.cell? ⟨gb259, 2, none⟩ = some (.slice A1_2 l1_2.length c1_2) := (blk_cell BK259.out 2).trans rfl; have hfz6_0 := blk_frozen BK259.out 0; have hfz6_1 := blk_frozen BK259.out 1; have hfz6_2 := blk_frozen BK259.out 2) | ((with_reducible refine gate_callee (f := 30) rfl ?_); refine goesL_ (some 9) rfl rfl Try.func30 (by kernel_rfl) rfl #[.agg #[.string a1_0, .slice A1_1 l1_1.length c1_1, .slice A1_2 l1_2.length c1_2]] rfl (by (try simp only [List.map_toArray, List.map_cons, List.map_nil]); first | done | rfl | (simp only [List.length_drop, List.length_take]; rfl)) ?_; (with_reducible refine (pentaglotref31_Size.calls k a1_0 _ _ l1_1 _ _ l1_2 t260 _ ?side1 ?side2 ?side3 ?side4 A3.out).mono ?_); (case side1 => exact cs_ (Kd.C_below HR1_1.out HB.out)); (case side2 => exact HC1_1.out); (case side3 => exact cs_ (Kd.C_below HR1_2.out HB.out)); (case side4 => exact HC1_2.out); rintro e w7 ⟨rfl, hb⟩; refine ⟨_, rfl, ?_⟩; have n0_ := Aside0.mk (blk_below (g := gb259) (o := .cells #[.string a1_0, .slice A1_1 l1_1.length c1_1, .slice A1_2 l1_2.length c1_2] 27 (0, 0)) (bq_ BK259) hb); have n1_ := Aside0.mk (below_step (be1_ HB GE259) hb); clear BK259; clear HB; have BK259 := n0_; have HB := n1_; clear n0_ n1_; (try clear hb); (try clear hb2); (try clear hk); (try clear hi)))
  go_ret2
  exact ⟨er_, be1_ HB GE259⟩
 ·rw [if_neg c4] at H
  have c4b0 : decide (60 < t260) = false := decide_eq_false c4
  clear c4
  replace H := Option.bind_eq_some_iff.mp H
  obtain ⟨⟨t261, t262⟩, A80, H⟩ := H
  replace H : (if t262 = true then (some (t261, 0)) else (some ((⟨#[]⟩ : ByteArray), 6))) = some (r1, r2) := H
  have A8 := Aside0.mk A80
  clear A80
  by_cases c9 : t262 = true
  ·subst c9
   have H1 : (some (t261, 0)) = some (r1, r2) := by rw [if_pos rfl] at H; exact H
   clear H
   have H := H1
   clear H1
   simp only [Option.some.injEq, Prod.mk.injEq] at H
   obtain ⟨rfl, rfl⟩ := H
   go_enter Try.func49, Try.ntmps49
   go_wp2_with (first | ((with_reducible refine gate_dst (N := 3) rfl ?_); refine box_event ?hg (N := 3) ?hd (cs := #[.string a1_0, .slice A1_1 l1_1.length c1_1, .slice A1_2 l1_2.length c1_2]) (t := 27) ?hr ?_; (case hd => rfl); (case hg => rfl); (case hr => first | (go_simp; done) | (go_simp; rfl)); intro gb259 hg w10 hbox hb; have n0_ := Aside0.mk (below_step (be_ HB) hb); have n1_ := Aside0.mk (hbox); have n2_ := Aside0.mk ((by rw [hg]; exact (below_size (be_ HB)) : w.heap.size ≤ gb259)); have n3_ := Aside0.mk ((by rw [hg]; exact (below_size (be_ HB)) : w.heap.size ≤ gb259)); clear HB; have HB := n0_; have BK259 := n1_; have GW259 := n2_; have GE259 := n3_; clear n0_ n1_ n2_ n3_; clear hb hbox hg; have hcz11_0 : w10.cell? ⟨gb259, 0, none⟩ = some (.string a1_0) := (blk_cell BK259.out 0).trans rfl; have hcz11_1 : w10.cell? ⟨gb259, 1, none⟩ = some (.slice A1_1 l1_1.length c1_1) := (blk_cell BK259.out 1).trans rfl; have hcz11_2 : w10.cell? ⟨gb259, 2, none⟩ = some (.slice A1_2 l1_2.length c1_2) := (blk_cell BK259.out 2).trans rfl; have hfz11_0 := blk_frozen BK259.out 0; have hfz11_1 := blk_frozen BK259.out 1; have hfz11_2 := blk_frozen BK259.out 2) | ((with_reducible refine gate_callee (f := 30) rfl ?_); refine goesL_ (some 9) rfl rfl Try.func30 (by kernel_rfl) rfl #[.agg #[.string a1_0, .slice A1_1 l1_1.length c1_1, .slice A1_2 l1_2.length c1_2]] rfl (by (try simp only [List.map_toArray, List.map_cons, List.map_nil]); first | done | rfl | (simp only [List.length_drop, List.length_take]; rfl)) ?_; (with_reducible refine (pentaglotref31_Size.calls k a1_0 _ _ l1_1 _ _ l1_2 t260 _ ?side1 ?side2 ?side3 ?side4 A3.out).mono ?_); (case side1 => exact cs_ (Kd.C_below HR1_1.out HB.out)); (case side2 => exact HC1_1.out); (case side3 => exact cs_ (Kd.C_below HR1_2.out HB.out)); (case side4 => exact HC1_2.out); rintro e w12 ⟨rfl, hb⟩; refine ⟨_, rfl, ?_⟩; have n0_ := Aside0.mk (blk_below (g := gb259) (o := .cells #[.string a1_0, .slice A1_1 l1_1.length c1_1, .slice A1_2 l1_2.length c1_2] 27 (0, 0)) (bq_ BK259) hb); have n1_ := Aside0.mk (below_step (be1_ HB GE259) hb); clear BK259; clear HB; have BK259 := n0_; have HB := n1_; clear n0_ n1_; (try clear hb); (try clear hb2); (try clear hk); (try clear hi); have hcz13_0 : w12.cell? ⟨gb259, 0, none⟩ = some (.string a1_0) := (blk_cell BK259.out 0).trans rfl; have hcz13_1 : w12.cell? ⟨gb259, 1, none⟩ = some (.slice A1_1 l1_1.length c1_1) := (blk_cell BK259.out 1).trans rfl; have hcz13_2 : w12.cell? ⟨gb259, 2, none⟩ = some (.slice A1_2 l1_2.length c1_2) := (blk_cell BK259.out 2).trans rfl; have hfz13_0 := blk_frozen BK259.out 0; have hfz13_1 := blk_frozen BK259.out 1; have hfz13_2 := blk_frozen BK259.out 2) | ((with_reducible refine gate_callee (f := 61) rfl ?_); refine goesL_ (some 14) rfl rfl Try.func61 (by kernel_rfl) rfl #[.slice A0 l0.length c0, .agg #[.string a1_0, .slice A1_1 l1_1.length c1_1, .slice A1_2 l1_2.length c1_2]] rfl (by (try simp only [List.map_toArray, List.map_cons, List.map_nil]); first | done | rfl | (simp only [List.length_drop, List.length_take]; rfl)) ?_; (with_reducible refine (pentaglotref31_Well.calls k _ _ l0 a1_0 _ _ l1_1 _ _ l1_2 t261 true _ ?side1 ?side2 ?side3 ?side4 ?side5 ?side6 A8.out).mono ?_); (case side1 => exact cs_ (Kd.C_below HR0.out HB.out)); (case side2 => exact HC0.out); (case side3 => exact cs_ (Kd.C_below HR1_1.out HB.out)); (case side4 => exact HC1_1.out); (case side5 => exact cs_ (Kd.C_below HR1_2.out HB.out)); (case side6 => exact HC1_2.out); rintro e w14 ⟨rfl, hb⟩; refine ⟨_, rfl, ?_⟩; have n0_ := Aside0.mk (blk_below (g := gb259) (o := .cells #[.string a1_0, .slice A1_1 l1_1.length c1_1, .slice A1_2 l1_2.length c1_2] 27 (0, 0)) (bq_ BK259) hb); have n1_ := Aside0.mk (below_step (be1_ HB GE259) hb); clear BK259; clear HB; have BK259 := n0_; have HB := n1_; clear n0_ n1_; (try clear hb); (try clear hb2); (try clear hk); (try clear hi)))
   go_ret2
   exact ⟨er_, be1_ HB GE259⟩
  ·replace c9 := Bool.eq_false_iff.mpr c9
   subst c9
   have H1 : (some ((⟨#[]⟩ : ByteArray), 6)) = some (r1, r2) := by rw [if_neg (show ¬ (false = true) by decide)] at H; exact H
   clear H
   have H := H1
   clear H1
   simp only [Option.some.injEq, Prod.mk.injEq] at H
   obtain ⟨rfl, rfl⟩ := H
   go_enter Try.func49, Try.ntmps49
   go_wp2_with (first | ((with_reducible refine gate_dst (N := 3) rfl ?_); refine box_event ?hg (N := 3) ?hd (cs := #[.string a1_0, .slice A1_1 l1_1.length c1_1, .slice A1_2 l1_2.length c1_2]) (t := 27) ?hr ?_; (case hd => rfl); (case hg => rfl); (case hr => first | (go_simp; done) | (go_simp; rfl)); intro gb259 hg w15 hbox hb; have n0_ := Aside0.mk (below_step (be_ HB) hb); have n1_ := Aside0.mk (hbox); have n2_ := Aside0.mk ((by rw [hg]; exact (below_size (be_ HB)) : w.heap.size ≤ gb259)); have n3_ := Aside0.mk ((by rw [hg]; exact (below_size (be_ HB)) : w.heap.size ≤ gb259)); clear HB; have HB := n0_; have BK259 := n1_; have GW259 := n2_; have GE259 := n3_; clear n0_ n1_ n2_ n3_; clear hb hbox hg; have hcz16_0 : w15.cell? ⟨gb259, 0, none⟩ = some (.string a1_0) := (blk_cell BK259.out 0).trans rfl; have hcz16_1 : w15.cell? ⟨gb259, 1, none⟩ = some (.slice A1_1 l1_1.length c1_1) := (blk_cell BK259.out 1).trans rfl; have hcz16_2 : w15.cell? ⟨gb259, 2, none⟩ = some (.slice A1_2 l1_2.length c1_2) := (blk_cell BK259.out 2).trans rfl; have hfz16_0 := blk_frozen BK259.out 0; have hfz16_1 := blk_frozen BK259.out 1; have hfz16_2 := blk_frozen BK259.out 2) | ((with_reducible refine gate_callee (f := 30) rfl ?_); refine goesL_ (some 9) rfl rfl Try.func30 (by kernel_rfl) rfl #[.agg #[.string a1_0, .slice A1_1 l1_1.length c1_1, .slice A1_2 l1_2.length c1_2]] rfl (by (try simp only [List.map_toArray, List.map_cons, List.map_nil]); first | done | rfl | (simp only [List.length_drop, List.length_take]; rfl)) ?_; (with_reducible refine (pentaglotref31_Size.calls k a1_0 _ _ l1_1 _ _ l1_2 t260 _ ?side1 ?side2 ?side3 ?side4 A3.out).mono ?_); (case side1 => exact cs_ (Kd.C_below HR1_1.out HB.out)); (case side2 => exact HC1_1.out); (case side3 => exact cs_ (Kd.C_below HR1_2.out HB.out)); (case side4 => exact HC1_2.out); rintro e w17 ⟨rfl, hb⟩; refine ⟨_, rfl, ?_⟩; have n0_ := Aside0.mk (blk_below (g := gb259) (o := .cells #[.string a1_0, .slice A1_1 l1_1.length c1_1, .slice A1_2 l1_2.length c1_2] 27 (0, 0)) (bq_ BK259) hb); have n1_ := Aside0.mk (below_step (be1_ HB GE259) hb); clear BK259; clear HB; have BK259 := n0_; have HB := n1_; clear n0_ n1_; (try clear hb); (try clear hb2); (try clear hk); (try clear hi); have hcz18_0 : w17.cell? ⟨gb259, 0, none⟩ = some (.string a1_0) := (blk_cell BK259.out 0).trans rfl; have hcz18_1 : w17.cell? ⟨gb259, 1, none⟩ = some (.slice A1_1 l1_1.length c1_1) := (blk_cell BK259.out 1).trans rfl; have hcz18_2 : w17.cell? ⟨gb259, 2, none⟩ = some (.slice A1_2 l1_2.length c1_2) := (blk_cell BK259.out 2).trans rfl; have hfz18_0 := blk_frozen BK259.out 0; have hfz18_1 := blk_frozen BK259.out 1; have hfz18_2 := blk_frozen BK259.out 2) | ((with_reducible refine gate_callee (f := 61) rfl ?_); refine goesL_ (some 14) rfl rfl Try.func61 (by kernel_rfl) rfl #[.slice A0 l0.length c0, .agg #[.string a1_0, .slice A1_1 l1_1.length c1_1, .slice A1_2 l1_2.length c1_2]] rfl (by (try simp only [List.map_toArray, List.map_cons, List.map_nil]); first | done | rfl | (simp only [List.length_drop, List.length_take]; rfl)) ?_; (with_reducible refine (pentaglotref31_Well.calls k _ _ l0 a1_0 _ _ l1_1 _ _ l1_2 t261 false _ ?side1 ?side2 ?side3 ?side4 ?side5 ?side6 A8.out).mono ?_); (case side1 => exact cs_ (Kd.C_below HR0.out HB.out)); (case side2 => exact HC0.out); (case side3 => exact cs_ (Kd.C_below HR1_1.out HB.out)); (case side4 => exact HC1_1.out); (case side5 => exact cs_ (Kd.C_below HR1_2.out HB.out)); (case side6 => exact HC1_2.out); rintro e w19 ⟨rfl, hb⟩; refine ⟨_, rfl, ?_⟩; have n0_ := Aside0.mk (blk_below (g := gb259) (o := .cells #[.string a1_0, .slice A1_1 l1_1.length c1_1, .slice A1_2 l1_2.length c1_2] 27 (0, 0)) (bq_ BK259) hb); have n1_ := Aside0.mk (below_step (be1_ HB GE259) hb); clear BK259; clear HB; have BK259 := n0_; have HB := n1_; clear n0_ n1_; (try clear hb); (try clear hb2); (try clear hk); (try clear hi)))
   go_ret2
   exact ⟨er_, be1_ HB GE259⟩

/-! ### api_Functions: function 50, by hand -/
def fnsL : List S67 := [(⟨(⟨#[78, 97, 109, 101]⟩ : ByteArray), [(⟨#[80, 78]⟩ : ByteArray)], (⟨#[78, 80]⟩ : ByteArray), 0⟩ : S67), (⟨(⟨#[69, 118, 101, 114, 121]⟩ : ByteArray), [(⟨#[67, 78]⟩ : ByteArray)], (⟨#[78, 80]⟩ : ByteArray), 0⟩ : S67), (⟨(⟨#[83, 111, 109, 101]⟩ : ByteArray), [(⟨#[67, 78]⟩ : ByteArray)], (⟨#[78, 80]⟩ : ByteArray), 0⟩ : S67), (⟨(⟨#[78, 111]⟩ : ByteArray), [(⟨#[67, 78]⟩ : ByteArray)], (⟨#[78, 80]⟩ : ByteArray), 0⟩ : S67), (⟨(⟨#[69, 118, 101, 114, 121, 69, 120, 99, 101, 112, 116]⟩ : ByteArray), [(⟨#[67, 78]⟩ : ByteArray), (⟨#[67, 78]⟩ : ByteArray)], (⟨#[78, 80]⟩ : ByteArray), 0⟩ : S67), (⟨(⟨#[66, 111, 116, 104]⟩ : ByteArray), [(⟨#[78, 80]⟩ : ByteArray), (⟨#[78, 80]⟩ : ByteArray)], (⟨#[78, 80]⟩ : ByteArray), 0⟩ : S67), (⟨(⟨#[73, 116]⟩ : ByteArray), [], (⟨#[78, 80]⟩ : ByteArray), 0⟩ : S67), (⟨(⟨#[84, 104, 101, 121]⟩ : ByteArray), [], (⟨#[78, 80]⟩ : ByteArray), 0⟩ : S67), (⟨(⟨#[78, 111, 117, 110]⟩ : ByteArray), [(⟨#[78]⟩ : ByteArray)], (⟨#[67, 78]⟩ : ByteArray), 0⟩ : S67), (⟨(⟨#[65, 100, 106]⟩ : ByteArray), [(⟨#[65]⟩ : ByteArray), (⟨#[67, 78]⟩ : ByteArray)], (⟨#[67, 78]⟩ : ByteArray), 0⟩ : S67), (⟨(⟨#[87, 104, 111]⟩ : ByteArray), [(⟨#[67, 78]⟩ : ByteArray), (⟨#[86, 80]⟩ : ByteArray)], (⟨#[67, 78]⟩ : ByteArray), 0⟩ : S67), (⟨(⟨#[65, 99, 116]⟩ : ByteArray), [(⟨#[86, 49]⟩ : ByteArray)], (⟨#[86, 80]⟩ : ByteArray), 0⟩ : S67), (⟨(⟨#[68, 111]⟩ : ByteArray), [(⟨#[86, 50]⟩ : ByteArray), (⟨#[78, 80]⟩ : ByteArray)], (⟨#[86, 80]⟩ : ByteArray), 0⟩ : S67), (⟨(⟨#[71, 105, 118, 101]⟩ : ByteArray), [(⟨#[86, 51]⟩ : ByteArray), (⟨#[78, 80]⟩ : ByteArray), (⟨#[78, 80]⟩ : ByteArray)], (⟨#[86, 80]⟩ : ByteArray), 0⟩ : S67), (⟨(⟨#[67, 111, 115, 116]⟩ : ByteArray), [(⟨#[86, 81]⟩ : ByteArray)], (⟨#[86, 80]⟩ : ByteArray), 1⟩ : S67), (⟨(⟨#[65, 110, 100, 86, 80]⟩ : ByteArray), [(⟨#[86, 80]⟩ : ByteArray), (⟨#[86, 80]⟩ : ByteArray)], (⟨#[86, 80]⟩ : ByteArray), 0⟩ : S67), (⟨(⟨#[65, 115, 115, 101, 114, 116]⟩ : ByteArray), [(⟨#[78, 80]⟩ : ByteArray), (⟨#[86, 80]⟩ : ByteArray)], (⟨#[83]⟩ : ByteArray), 0⟩ : S67), (⟨(⟨#[77, 117, 115, 116]⟩ : ByteArray), [(⟨#[78, 80]⟩ : ByteArray), (⟨#[86, 80]⟩ : ByteArray)], (⟨#[83]⟩ : ByteArray), 0⟩ : S67), (⟨(⟨#[77, 117, 115, 116, 78, 111, 116]⟩ : ByteArray), [(⟨#[78, 80]⟩ : ByteArray), (⟨#[86, 80]⟩ : ByteArray)], (⟨#[83]⟩ : ByteArray), 0⟩ : S67), (⟨(⟨#[77, 97, 121]⟩ : ByteArray), [(⟨#[78, 80]⟩ : ByteArray), (⟨#[86, 80]⟩ : ByteArray)], (⟨#[83]⟩ : ByteArray), 0⟩ : S67), (⟨(⟨#[68, 117, 114, 105, 110, 103]⟩ : ByteArray), [(⟨#[83]⟩ : ByteArray)], (⟨#[83]⟩ : ByteArray), 2⟩ : S67), (⟨(⟨#[83, 105, 110, 99, 101]⟩ : ByteArray), [(⟨#[83]⟩ : ByteArray)], (⟨#[83]⟩ : ByteArray), 1⟩ : S67), (⟨(⟨#[85, 110, 116, 105, 108]⟩ : ByteArray), [(⟨#[83]⟩ : ByteArray)], (⟨#[83]⟩ : ByteArray), 1⟩ : S67), (⟨(⟨#[65, 110, 100]⟩ : ByteArray), [(⟨#[83]⟩ : ByteArray), (⟨#[83]⟩ : ByteArray)], (⟨#[83]⟩ : ByteArray), 0⟩ : S67), (⟨(⟨#[79, 114]⟩ : ByteArray), [(⟨#[83]⟩ : ByteArray), (⟨#[83]⟩ : ByteArray)], (⟨#[83]⟩ : ByteArray), 0⟩ : S67), (⟨(⟨#[73, 102]⟩ : ByteArray), [(⟨#[83]⟩ : ByteArray), (⟨#[83]⟩ : ByteArray)], (⟨#[83]⟩ : ByteArray), 0⟩ : S67), (⟨(⟨#[65, 108, 115, 111]⟩ : ByteArray), [(⟨#[83]⟩ : ByteArray), (⟨#[78, 80]⟩ : ByteArray)], (⟨#[83]⟩ : ByteArray), 0⟩ : S67), (⟨(⟨#[80, 108, 101, 97, 115, 101]⟩ : ByteArray), [(⟨#[83]⟩ : ByteArray)], (⟨#[83]⟩ : ByteArray), 0⟩ : S67), (⟨(⟨#[112, 97, 115, 115, 101, 110, 103, 101, 114]⟩ : ByteArray), [], (⟨#[78]⟩ : ByteArray), 0⟩ : S67), (⟨(⟨#[99, 104, 105, 108, 100]⟩ : ByteArray), [], (⟨#[78]⟩ : ByteArray), 0⟩ : S67), (⟨(⟨#[103, 117, 97, 114, 100]⟩ : ByteArray), [], (⟨#[78]⟩ : ByteArray), 0⟩ : S67), (⟨(⟨#[100, 111, 103]⟩ : ByteArray), [], (⟨#[78]⟩ : ByteArray), 0⟩ : S67), (⟨(⟨#[102, 101, 114, 114, 121]⟩ : ByteArray), [], (⟨#[78]⟩ : ByteArray), 0⟩ : S67), (⟨(⟨#[116, 105, 99, 107, 101, 116]⟩ : ByteArray), [], (⟨#[78]⟩ : ByteArray), 0⟩ : S67), (⟨(⟨#[98, 97, 103]⟩ : ByteArray), [], (⟨#[78]⟩ : ByteArray), 0⟩ : S67), (⟨(⟨#[100, 111, 111, 114]⟩ : ByteArray), [], (⟨#[78]⟩ : ByteArray), 0⟩ : S67), (⟨(⟨#[116, 105, 114, 101, 100]⟩ : ByteArray), [], (⟨#[65]⟩ : ByteArray), 0⟩ : S67), (⟨(⟨#[111, 108, 100]⟩ : ByteArray), [], (⟨#[65]⟩ : ByteArray), 0⟩ : S67), (⟨(⟨#[119, 101, 116]⟩ : ByteArray), [], (⟨#[65]⟩ : ByteArray), 0⟩ : S67), (⟨(⟨#[115, 109, 97, 108, 108]⟩ : ByteArray), [], (⟨#[65]⟩ : ByteArray), 0⟩ : S67), (⟨(⟨#[108, 111, 99, 107, 101, 100]⟩ : ByteArray), [], (⟨#[65]⟩ : ByteArray), 0⟩ : S67), (⟨(⟨#[119, 97, 105, 116]⟩ : ByteArray), [], (⟨#[86, 49]⟩ : ByteArray), 0⟩ : S67), (⟨(⟨#[115, 108, 101, 101, 112]⟩ : ByteArray), [], (⟨#[86, 49]⟩ : ByteArray), 0⟩ : S67), (⟨(⟨#[115, 109, 111, 107, 101]⟩ : ByteArray), [], (⟨#[86, 49]⟩ : ByteArray), 0⟩ : S67), (⟨(⟨#[100, 101, 112, 97, 114, 116]⟩ : ByteArray), [], (⟨#[86, 49]⟩ : ByteArray), 0⟩ : S67), (⟨(⟨#[97, 114, 114, 105, 118, 101]⟩ : ByteArray), [], (⟨#[86, 49]⟩ : ByteArray), 0⟩ : S67), (⟨(⟨#[99, 97, 114, 114, 121]⟩ : ByteArray), [], (⟨#[86, 50]⟩ : ByteArray), 0⟩ : S67), (⟨(⟨#[111, 112, 101, 110]⟩ : ByteArray), [], (⟨#[86, 50]⟩ : ByteArray), 0⟩ : S67), (⟨(⟨#[116, 111, 117, 99, 104]⟩ : ByteArray), [], (⟨#[86, 50]⟩ : ByteArray), 0⟩ : S67), (⟨(⟨#[98, 111, 97, 114, 100]⟩ : ByteArray), [], (⟨#[86, 50]⟩ : ByteArray), 0⟩ : S67), (⟨(⟨#[101, 110, 116, 101, 114]⟩ : ByteArray), [], (⟨#[86, 50]⟩ : ByteArray), 0⟩ : S67), (⟨(⟨#[115, 104, 111, 119]⟩ : ByteArray), [], (⟨#[86, 51]⟩ : ByteArray), 0⟩ : S67), (⟨(⟨#[103, 105, 118, 101]⟩ : ByteArray), [], (⟨#[86, 51]⟩ : ByteArray), 0⟩ : S67), (⟨(⟨#[114, 101, 116, 117, 114, 110]⟩ : ByteArray), [], (⟨#[86, 51]⟩ : ByteArray), 0⟩ : S67), (⟨(⟨#[99, 111, 115, 116]⟩ : ByteArray), [], (⟨#[86, 81]⟩ : ByteArray), 0⟩ : S67), (⟨(⟨#[119, 101, 105, 103, 104]⟩ : ByteArray), [], (⟨#[86, 81]⟩ : ByteArray), 0⟩ : S67), (⟨(⟨#[109, 97, 114, 116, 97]⟩ : ByteArray), [], (⟨#[80, 78]⟩ : ByteArray), 0⟩ : S67), (⟨(⟨#[99, 97, 112, 116, 97, 105, 110]⟩ : ByteArray), [], (⟨#[80, 78]⟩ : ByteArray), 0⟩ : S67), (⟨(⟨#[110, 111, 114, 116, 104, 45, 102, 101, 114, 114, 121]⟩ : ByteArray), [], (⟨#[80, 78]⟩ : ByteArray), 0⟩ : S67), (⟨(⟨#[115, 111, 117, 116, 104, 45, 102, 101, 114, 114, 121]⟩ : ByteArray), [], (⟨#[80, 78]⟩ : ByteArray), 0⟩ : S67), (⟨(⟨#[111, 108, 100, 45, 113, 117, 97, 121]⟩ : ByteArray), [], (⟨#[80, 78]⟩ : ByteArray), 0⟩ : S67)]
def api_Functions.f : Option (List S67) := some fnsL
/-- The rows that the list's elements hold, in their order. -/
def rowsOf : List S67 → List (List ByteArray)
 | [] => []
 | x :: l => if x.f1.isEmpty = true then rowsOf l else x.f1 :: rowsOf l
def cellsF : Nat → List S67 → List Value
 | _, [] => []
 | b, x :: l => if x.f1.isEmpty = true then .string x.f0 :: .slice none 0 0 :: .string x.f2 :: .int .i64 x.f3 :: cellsF b l else .string x.f0 :: .slice (some ⟨b, 0, none⟩) x.f1.length x.f1.length :: .string x.f2 :: .int .i64 x.f3 :: cellsF (b + 1) l
def wAfter (w : World) : List (List ByteArray) → World
 | [] => w
 | r :: l => wAfter (w.alloc (.cells (r.map .string).toArray 9)) l
theorem wAfter_below : ∀ (l : List (List ByteArray)) (w : World), Below w.heap.size w (wAfter w l)
 | [], w => Below.refl _ _
 | r :: l, w => (below_alloc (Below.refl _ _) _).trans ((wAfter_below l _).mono (by simp))
theorem wAfter_at : ∀ (l : List (List ByteArray)) (w : World) (i : Nat) (r : List ByteArray), l[i]? = some r → (wAfter w l).heap[w.heap.size + i]? = some (.cells (r.map .string).toArray 9 (0, 0))
 | [], w, i, r, h => by simp at h
 | x :: l, w, 0, r, h => by
  simp only [List.getElem?_cons_zero, Option.some.injEq] at h
  subst h
  exact blk_below (heap_alloc_new w _) (wAfter_below l _)
 | x :: l, w, i + 1, r, h => by
  rw [List.getElem?_cons_succ] at h
  have h2 := wAfter_at l (w.alloc (.cells (x.map .string).toArray 9)) i r h
  rw [World.size_alloc] at h2
  rw [show w.heap.size + (i + 1) = w.heap.size + 1 + i by omega]
  exact h2
theorem fns_reps (base : Nat) (W : World) : ∀ (l : List S67) (b : Nat), base ≤ b → (∀ x ∈ l, x.f1.length ≤ 1000) → (∀ i r, (rowsOf l)[i]? = some r → W.heap[b + i]? = some (.cells (r.map .string).toArray 9 (0, 0))) → Reps (k67.M W base (fun i => base ≤ i ∧ i < W.heap.size)) 4 l (cellsF b l)
 | [], b, _, _, _ => Reps.none _ _
 | x :: l, b, hb, hx, h => by
  unfold cellsF
  unfold rowsOf at h
  cases hxe : x.f1.isEmpty with
  | true =>
   rw [if_pos rfl]
   rw [hxe, if_pos rfl] at h
   have hx0 : x.f1 = [] := by simpa using hxe
   refine Reps.c4 (k67_mkM _ _ _ x (v1 := .slice none 0 0) ?_) (fns_reps base W l b hb (fun y hy => hx y (List.mem_cons_of_mem _ hy)) h)
   rw [hx0]
   exact Kd.R_nil _ _ _ _ _
  | false =>
   rw [if_neg (by decide)]
   rw [hxe, if_neg (by decide)] at h
   have h0 := h 0 x.f1 rfl
   rw [Nat.add_zero] at h0
   refine Reps.c4 (k67_mkM _ _ _ x ?_) (fns_reps base W l (b + 1) (by omega) (fun y hy => hx y (List.mem_cons_of_mem _ hy)) (fun i r hi => by
    have h1 := h (i + 1) r (by rw [List.getElem?_cons_succ]; exact hi)
    rwa [show b + (i + 1) = b + 1 + i by omega] at h1))
   refine Kd.R_of_own (enc := fun s => .string s) ⟨by simp [encs], .inr ⟨b, x.f1.length, (x.f1.map .string).toArray, rfl, hb, h0, Nat.le_refl _, by have := hx x List.mem_cons_self; unfold maxLen; omega, by simp, ?_⟩⟩ (fun k hk => ?_)
   ·simp [encs, List.take_of_length_le]
   ·have : b = k := by simpa [Value.ownBlock] using hk
    subst this
    exact ⟨hb, blk_lt h0⟩
theorem wp_of_run {P : Program} {o : Oper} {a : Act} {w w1 : World} {v : Value} {K : Act → World → Prop} {Q : Exit → Act → World → Prop} (h : (execOp a.eval o).run P w = .ok (.value v) w1) (k : K (a.put o.dst v) w1) : Oper.wp P o a w K Q := by
 unfold Oper.wp
 rw [h]
 exact k
theorem fns_small : ∀ x ∈ fnsL, x.f1.length ≤ 1000 := by decide
set_option maxHeartbeats 16000000 in
set_option maxRecDepth 100000 in
theorem api_Functions.calls (r : List S67) (w : World) (h : api_Functions.f = some r) :
  Calls Try.prog 50 #[] w fun e w' => ∃ v0_ : Value, e = .returned (v0_) ∧ Kd.N k67 67 w' w.heap.size (fun k_ => w.heap.size ≤ k_) v0_ r ∧ Below w.heap.size w w' := by
 obtain rfl := Option.some.inj h
 clear h
 have hB := wAfter_below (rowsOf fnsL) w
 have hP := fns_reps w.heap.size (wAfter w (rowsOf fnsL)) fnsL w.heap.size (Nat.le_refl _) fns_small (wAfter_at (rowsOf fnsL) w)
 have HB := Aside0.mk hB
 have HP := Aside0.mk hP
 clear hB hP
 go_enter Try.func50, Try.ntmps50
 go_wp2
 refine wp_of_run (v := .slice (some ⟨(wAfter w (rowsOf fnsL)).heap.size, 0, none⟩) 61 61) (w1 := (wAfter w (rowsOf fnsL)).alloc (.cells (cellsF w.heap.size fnsL).toArray 67)) (by kernel_rfl) ?_
 have hR : Kd.R k67 67 ((wAfter w (rowsOf fnsL)).alloc (.cells (cellsF w.heap.size fnsL).toArray 67)) w.heap.size (fun _ => True) (.slice (some ⟨(wAfter w (rowsOf fnsL)).heap.size, 0, none⟩) 61 61) fnsL :=
  ⟨fun _ _ => trivial, cellsF w.heap.size fnsL, World.ownsRow_lit (e := 67) (size := 4) (wAfter w (rowsOf fnsL)) (cellsF w.heap.size fnsL).toArray 61 HB.out.size (by unfold maxLen; omega) (by have h61 : fnsL.length = 61 := rfl; have := HP.out.1; rw [h61] at this; simpa using this),
   HP.out.imp_ (fun x cs hm => k67.M_mono (fun i hi => ⟨trivial, fun e => by have : (wAfter w (rowsOf fnsL)).heap.size = i := (by simpa [Value.ownBlock] using e.symm); have := hi.2; omega⟩) (Kd.M_below hm (below_alloc (Below.refl _ _) _)))⟩
 have hB1 := below_alloc HB.out (.cells (cellsF w.heap.size fnsL).toArray 67)
 have HO1 := Aside0.mk hR
 have HB1 := Aside0.mk hB1
 clear hR hB1 HP HB
 generalize (wAfter w (rowsOf fnsL)).heap.size = g at HO1 ⊢
 generalize (wAfter w (rowsOf fnsL)).alloc (.cells (cellsF w.heap.size fnsL).toArray 67) = W1 at HO1 HB1 ⊢
 go_wp2
 go_ret
 exact ⟨_, rfl, Kd.N_mono (Kd.R_N (Kd.R_bound HO1.out)) (fun _ h => h.2.1), HB1.out⟩

end Go.Proofs.Ytfampmajmbediaa.P
