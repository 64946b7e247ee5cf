-- printed by wip/tools/xprint.py
import Derived.Test.YtolpckflofjfhaaDoorPx0
import Derived.Test.YtolpckflofjfhaaDoorPx13
import Derived.Test.YtolpckflofjfhaaDoorPx18
import Derived.Test.YtolpckflofjfhaaDoorPx21
namespace Go.Proofs.YtolpckflofjfhaaDoor.P
open Go.RowKit Go.Proofs.YtolpckflofjfhaaDoorW.PrintWords Go.Proofs.YtolpckflofjfhaaDoorW.PrintLast Go.Proofs.YtolpckflofjfhaaDoorW.PrintMore
attribute [local go_sem] max2_int min2_int max_two min_two max_three min_three max_four min_four
set_option linter.unusedVariables false
set_option maxHeartbeats 8000000
set_option maxRecDepth 100000
set_option linter.unusedSimpArgs false

def pentaglotref26_Fits.f (k : Nat) (l0_0 : List (S73)) (l0_1 : List Int) (a0_2 : Int) (l0_3 : List (S62)) (a1_0 : Int) (a1_1 : ByteArray) (l1_2 : List (S92)) (a1_3 : Int) (a1_4 : Int) (l1_5 : List (S32)) : Option (Bool) := (pentaglotref26_Proper.f k l0_0 l0_1 a0_2).bind fun t276 => (if t276 = true then ((pentaglotref22_Valid.f k a1_0 a1_1 l1_2 a1_3 a1_4 l1_5 0).bind fun t277 => (if t277 = true then ((pentaglotref26_known.f k l0_0 l0_1 a0_2 l0_3 a1_0 a1_1 l1_2 a1_3 a1_4 l1_5).bind fun t278 => (some t278)) else (some false))) else (some false))
theorem pentaglotref26_Fits.calls (k : Nat) (A0_0 : Option Addr) (c0_0 : Nat) (l0_0 : List (S73)) (A0_1 : Option Addr) (c0_1 : Nat) (l0_1 : List Int) (a0_2 : Int) (A0_3 : Option Addr) (c0_3 : Nat) (l0_3 : List (S62)) (a1_0 : Int) (a1_1 : ByteArray) (A1_2 : Option Addr) (c1_2 : Nat) (l1_2 : List (S92)) (a1_3 : Int) (a1_4 : Int) (A1_5 : Option Addr) (c1_5 : Nat) (l1_5 : List (S32)) (r : Bool) (w : World) (hr0_0 : Kd.C k73 w A0_0 l0_0.length l0_0) (hc0_0 : l0_0.length ≤ c0_0) (hr0_1 : Kd.C (Kd.int .i64) w A0_1 l0_1.length l0_1) (hc0_1 : l0_1.length ≤ c0_1) (hr0_3 : Kd.C k62 w A0_3 l0_3.length l0_3) (hc0_3 : l0_3.length ≤ c0_3) (hr1_2 : Kd.C k92 w A1_2 l1_2.length l1_2) (hc1_2 : l1_2.length ≤ c1_2) (hr1_5 : Kd.C k32 w A1_5 l1_5.length l1_5) (hc1_5 : l1_5.length ≤ c1_5) (h : pentaglotref26_Fits.f k l0_0 l0_1 a0_2 l0_3 a1_0 a1_1 l1_2 a1_3 a1_4 l1_5 = some r) :
  Calls Tryd.prog 36 #[.agg #[.slice A0_0 l0_0.length c0_0, .slice A0_1 l0_1.length c0_1, .int .i64 a0_2, .slice A0_3 l0_3.length c0_3], .agg #[.int .i64 a1_0, .string a1_1, .slice A1_2 l1_2.length c1_2, .int .i64 a1_3, .int .i64 a1_4, .slice A1_5 l1_5.length c1_5]] w fun e w' => e = .returned (.bool r) ∧ Below w.heap.size w w' := by
 have hu28 := Tryd.underlying28
 have hu32 := Tryd.underlying32
 have hu25 := Tryd.underlying25
 have HR0_0 := mk_ hr0_0
 have HC0_0 := mk_ hc0_0
 clear hr0_0 hc0_0
 have HR0_1 := mk_ hr0_1
 have HC0_1 := mk_ hc0_1
 clear hr0_1 hc0_1
 have HR0_3 := mk_ hr0_3
 have HC0_3 := mk_ hc0_3
 clear hr0_3 hc0_3
 have HR1_2 := mk_ hr1_2
 have HC1_2 := mk_ hc1_2
 clear hr1_2 hc1_2
 have HR1_5 := mk_ hr1_5
 have HC1_5 := mk_ hc1_5
 clear hr1_5 hc1_5
 have HB := mk_ (Below.refl w.heap.size w)
 have H : ((pentaglotref26_Proper.f k l0_0 l0_1 a0_2).bind fun t276 => (if t276 = true then ((pentaglotref22_Valid.f k a1_0 a1_1 l1_2 a1_3 a1_4 l1_5 0).bind fun t277 => (if t277 = true then ((pentaglotref26_known.f k l0_0 l0_1 a0_2 l0_3 a1_0 a1_1 l1_2 a1_3 a1_4 l1_5).bind fun t278 => (some t278)) else (some false))) else (some false))) = some r := h
 clear h
 replace H := Option.bind_eq_some_iff.mp H
 obtain ⟨t276, A30, H⟩ := H
 replace H : (if t276 = true then ((pentaglotref22_Valid.f k a1_0 a1_1 l1_2 a1_3 a1_4 l1_5 0).bind fun t277 => (if t277 = true then ((pentaglotref26_known.f k l0_0 l0_1 a0_2 l0_3 a1_0 a1_1 l1_2 a1_3 a1_4 l1_5).bind fun t278 => (some t278)) else (some false))) else (some false)) = some r := H
 have A3 := mk_ A30
 clear A30
 by_cases c4 : t276 = true
 ·subst c4
  rw [if_pos rfl] at H
  replace H := Option.bind_eq_some_iff.mp H
  obtain ⟨t277, A50, H⟩ := H
  replace H : (if t277 = true then ((pentaglotref26_known.f k l0_0 l0_1 a0_2 l0_3 a1_0 a1_1 l1_2 a1_3 a1_4 l1_5).bind fun t278 => (some t278)) else (some false)) = some r := H
  have A5 := mk_ A50
  clear A50
  by_cases c6 : t277 = true
  ·subst c6
   rw [if_pos rfl] at H
   replace H := Option.bind_eq_some_iff.mp H
   obtain ⟨t278, A70, H⟩ := H
   replace H : (some t278) = some r := H
   have A7 := mk_ A70
   clear A70
   obtain rfl := Option.some.inj H
   go_enter Tryd.func36, Tryd.ntmps36
   go_wp2_with (first | ((with_reducible refine gate_dst (N := 2) rfl ?_); refine bx_ 2 #[.slice A0_0 l0_0.length c0_0, .slice A0_1 l0_1.length c0_1, .int .i64 a0_2, .slice A0_3 l0_3.length c0_3] 28 ?_; intro gb274 hg w8 hbox hb; have BK274 := mk_ (hbox); have GW274 := mk_ (gs_ hg (be_ HB)); have GE274 := mk_ (gs_ hg (be_ HB)); replace HB := mk_ (below_step (be_ HB) hb); clear hb hbox hg) | ((with_reducible refine gate_dst (N := 3) rfl ?_); refine bx_ 3 #[.int .i64 a1_0, .string a1_1, .slice A1_2 l1_2.length c1_2, .int .i64 a1_3, .int .i64 a1_4, .slice A1_5 l1_5.length c1_5] 32 ?_; intro gb275 hg w9 hbox hb; have n0_ := mk_ (bb_ BK274 hb); have n1_ := mk_ (below_step (be1_ HB GE274) hb); have n2_ := mk_ (hbox); have n3_ := mk_ (gs_ hg (be1_ HB GE274)); have n4_ := mk_ (gs_ hg (be1_ HB GE274)); have n5_ := mk_ ((by rw [hg]; exact Nat.ne_of_lt (blk_lt (g := gb274) (o := .cells #[.slice A0_0 l0_0.length c0_0, .slice A0_1 l0_1.length c0_1, .int .i64 a0_2, .slice A0_3 l0_3.length c0_3] 28 (0, 0)) (bq_ BK274)) : gb274 ≠ gb275)); have n6_ := mk_ ((by rw [hg]; exact Nat.ne_of_gt (blk_lt (g := gb274) (o := .cells #[.slice A0_0 l0_0.length c0_0, .slice A0_1 l0_1.length c0_1, .int .i64 a0_2, .slice A0_3 l0_3.length c0_3] 28 (0, 0)) (bq_ BK274)) : gb275 ≠ gb274)); clear BK274; clear HB; have BK274 := n0_; have HB := n1_; have BK275 := n2_; have GW275 := n3_; have GE275 := n4_; have NB274_275 := n5_; have NB275_274 := n6_; clear n0_ n1_ n2_ n3_ n4_ n5_ n6_; clear hb hbox hg; have hnb10 := NB274_275.out; have hnc10 := NB275_274.out; obtain ⟨_, _, _, _, _, _, _, _⟩ := hb4_ BK274) | ((with_reducible refine gate_callee (f := 24) rfl ?_); refine gl_ (some 7) Tryd.func24 #[.agg #[.slice A0_0 l0_0.length c0_0, .slice A0_1 l0_1.length c0_1, .int .i64 a0_2]] ?_; (with_reducible refine (pentaglotref26_Proper.calls k _ _ l0_0 _ _ l0_1 a0_2 true _ ?side1 ?side2 ?side3 ?side4 A3.out).mono ?_); (case side1 => exact cs_ (Kd.C_below HR0_0.out HB.out)); (case side2 => exact HC0_0.out); (case side3 => exact cs_ (Kd.C_below HR0_1.out HB.out)); (case side4 => exact HC0_1.out); rintro e w12 ⟨rfl, hb⟩; refine ⟨_, rfl, ?_⟩; replace BK274 := mk_ (bb_ BK274 hb); replace BK275 := mk_ (bb_ BK275 hb); replace HB := mk_ (below_step (be2_ HB GE274 GE275) hb); (try clear hb); (try clear hb2); (try clear hk); (try clear hi); obtain ⟨_, _, _, _, _, _, _, _, _, _, _, _⟩ := hb6_ BK275) | (go_at_call 50; (with_reducible refine (pentaglotref22_Valid.calls k a1_0 a1_1 _ _ l1_2 a1_3 a1_4 _ _ l1_5 0 true _ ?side1 ?side2 ?side3 ?side4 A5.out).mono ?_); (case side1 => exact cs_ (Kd.C_below HR1_2.out HB.out)); (case side2 => exact HC1_2.out); (case side3 => exact cs_ (Kd.C_below HR1_5.out HB.out)); (case side4 => exact HC1_5.out); rintro e w14 ⟨rfl, hb⟩; replace BK274 := mk_ (bb_ BK274 hb); replace BK275 := mk_ (bb_ BK275 hb); replace HB := mk_ (below_step (be2_ HB GE274 GE275) hb); (try clear hb); (try clear hb2); (try clear hk); (try clear hi); obtain ⟨_, _, _, _, _, _, _, _⟩ := hb4_ BK274; obtain ⟨_, _, _, _, _, _, _, _, _, _, _, _⟩ := hb6_ BK275) | (go_at_call 51; (with_reducible refine (pentaglotref26_known.calls k _ _ l0_0 _ _ l0_1 a0_2 _ _ l0_3 a1_0 a1_1 _ _ l1_2 a1_3 a1_4 _ _ l1_5 t278 _ ?side1 ?side2 ?side3 ?side4 ?side5 ?side6 ?side7 ?side8 ?side9 ?side10 A7.out).mono ?_); (case side1 => exact cs_ (Kd.C_below HR0_0.out HB.out)); (case side2 => exact HC0_0.out); (case side3 => exact cs_ (Kd.C_below HR0_1.out HB.out)); (case side4 => exact HC0_1.out); (case side5 => exact cs_ (Kd.C_below HR0_3.out HB.out)); (case side6 => exact HC0_3.out); (case side7 => exact cs_ (Kd.C_below HR1_2.out HB.out)); (case side8 => exact HC1_2.out); (case side9 => exact cs_ (Kd.C_below HR1_5.out HB.out)); (case side10 => exact HC1_5.out); rintro e w17 ⟨rfl, hb⟩; replace BK274 := mk_ (bb_ BK274 hb); replace BK275 := mk_ (bb_ BK275 hb); replace HB := mk_ (below_step (be2_ HB GE274 GE275) hb); (try clear hb); (try clear hb2); (try clear hk); (try clear hi)))
   go_ret
   exact ⟨er_, be2_ HB GE274 GE275⟩
  ·replace c6 := Bool.eq_false_iff.mpr c6
   subst c6
   rw [if_neg nf_] at H
   obtain rfl := Option.some.inj H
   go_enter Tryd.func36, Tryd.ntmps36
   go_wp2_with (first | ((with_reducible refine gate_dst (N := 2) rfl ?_); refine bx_ 2 #[.slice A0_0 l0_0.length c0_0, .slice A0_1 l0_1.length c0_1, .int .i64 a0_2, .slice A0_3 l0_3.length c0_3] 28 ?_; intro gb274 hg w18 hbox hb; have BK274 := mk_ (hbox); have GW274 := mk_ (gs_ hg (be_ HB)); have GE274 := mk_ (gs_ hg (be_ HB)); replace HB := mk_ (below_step (be_ HB) hb); clear hb hbox hg) | ((with_reducible refine gate_dst (N := 3) rfl ?_); refine bx_ 3 #[.int .i64 a1_0, .string a1_1, .slice A1_2 l1_2.length c1_2, .int .i64 a1_3, .int .i64 a1_4, .slice A1_5 l1_5.length c1_5] 32 ?_; intro gb275 hg w19 hbox hb; have n0_ := mk_ (bb_ BK274 hb); have n1_ := mk_ (below_step (be1_ HB GE274) hb); have n2_ := mk_ (hbox); have n3_ := mk_ (gs_ hg (be1_ HB GE274)); have n4_ := mk_ (gs_ hg (be1_ HB GE274)); have n5_ := mk_ ((by rw [hg]; exact Nat.ne_of_lt (blk_lt (g := gb274) (o := .cells #[.slice A0_0 l0_0.length c0_0, .slice A0_1 l0_1.length c0_1, .int .i64 a0_2, .slice A0_3 l0_3.length c0_3] 28 (0, 0)) (bq_ BK274)) : gb274 ≠ gb275)); have n6_ := mk_ ((by rw [hg]; exact Nat.ne_of_gt (blk_lt (g := gb274) (o := .cells #[.slice A0_0 l0_0.length c0_0, .slice A0_1 l0_1.length c0_1, .int .i64 a0_2, .slice A0_3 l0_3.length c0_3] 28 (0, 0)) (bq_ BK274)) : gb275 ≠ gb274)); clear BK274; clear HB; have BK274 := n0_; have HB := n1_; have BK275 := n2_; have GW275 := n3_; have GE275 := n4_; have NB274_275 := n5_; have NB275_274 := n6_; clear n0_ n1_ n2_ n3_ n4_ n5_ n6_; clear hb hbox hg; have hnb20 := NB274_275.out; have hnc20 := NB275_274.out; obtain ⟨_, _, _, _, _, _, _, _⟩ := hb4_ BK274) | ((with_reducible refine gate_callee (f := 24) rfl ?_); refine gl_ (some 7) Tryd.func24 #[.agg #[.slice A0_0 l0_0.length c0_0, .slice A0_1 l0_1.length c0_1, .int .i64 a0_2]] ?_; (with_reducible refine (pentaglotref26_Proper.calls k _ _ l0_0 _ _ l0_1 a0_2 true _ ?side1 ?side2 ?side3 ?side4 A3.out).mono ?_); (case side1 => exact cs_ (Kd.C_below HR0_0.out HB.out)); (case side2 => exact HC0_0.out); (case side3 => exact cs_ (Kd.C_below HR0_1.out HB.out)); (case side4 => exact HC0_1.out); rintro e w22 ⟨rfl, hb⟩; refine ⟨_, rfl, ?_⟩; replace BK274 := mk_ (bb_ BK274 hb); replace BK275 := mk_ (bb_ BK275 hb); replace HB := mk_ (below_step (be2_ HB GE274 GE275) hb); (try clear hb); (try clear hb2); (try clear hk); (try clear hi); obtain ⟨_, _, _, _, _, _, _, _, _, _, _, _⟩ := hb6_ BK275) | (go_at_call 50; (with_reducible refine (pentaglotref22_Valid.calls k a1_0 a1_1 _ _ l1_2 a1_3 a1_4 _ _ l1_5 0 false _ ?side1 ?side2 ?side3 ?side4 A5.out).mono ?_); (case side1 => exact cs_ (Kd.C_below HR1_2.out HB.out)); (case side2 => exact HC1_2.out); (case side3 => exact cs_ (Kd.C_below HR1_5.out HB.out)); (case side4 => exact HC1_5.out); rintro e w24 ⟨rfl, hb⟩; replace BK274 := mk_ (bb_ BK274 hb); replace BK275 := mk_ (bb_ BK275 hb); replace HB := mk_ (below_step (be2_ HB GE274 GE275) hb); (try clear hb); (try clear hb2); (try clear hk); (try clear hi)))
   go_ret
   exact ⟨er_, be2_ HB GE274 GE275⟩
 ·replace c4 := Bool.eq_false_iff.mpr c4
  subst c4
  rw [if_neg nf_] at H
  obtain rfl := Option.some.inj H
  go_enter Tryd.func36, Tryd.ntmps36
  go_wp2_with (first | ((with_reducible refine gate_dst (N := 2) rfl ?_); refine bx_ 2 #[.slice A0_0 l0_0.length c0_0, .slice A0_1 l0_1.length c0_1, .int .i64 a0_2, .slice A0_3 l0_3.length c0_3] 28 ?_; intro gb274 hg w25 hbox hb; have BK274 := mk_ (hbox); have GW274 := mk_ (gs_ hg (be_ HB)); have GE274 := mk_ (gs_ hg (be_ HB)); replace HB := mk_ (below_step (be_ HB) hb); clear hb hbox hg) | ((with_reducible refine gate_dst (N := 3) rfl ?_); refine bx_ 3 #[.int .i64 a1_0, .string a1_1, .slice A1_2 l1_2.length c1_2, .int .i64 a1_3, .int .i64 a1_4, .slice A1_5 l1_5.length c1_5] 32 ?_; intro gb275 hg w26 hbox hb; have n0_ := mk_ (bb_ BK274 hb); have n1_ := mk_ (below_step (be1_ HB GE274) hb); have n2_ := mk_ (hbox); have n3_ := mk_ (gs_ hg (be1_ HB GE274)); have n4_ := mk_ (gs_ hg (be1_ HB GE274)); have n5_ := mk_ ((by rw [hg]; exact Nat.ne_of_lt (blk_lt (g := gb274) (o := .cells #[.slice A0_0 l0_0.length c0_0, .slice A0_1 l0_1.length c0_1, .int .i64 a0_2, .slice A0_3 l0_3.length c0_3] 28 (0, 0)) (bq_ BK274)) : gb274 ≠ gb275)); have n6_ := mk_ ((by rw [hg]; exact Nat.ne_of_gt (blk_lt (g := gb274) (o := .cells #[.slice A0_0 l0_0.length c0_0, .slice A0_1 l0_1.length c0_1, .int .i64 a0_2, .slice A0_3 l0_3.length c0_3] 28 (0, 0)) (bq_ BK274)) : gb275 ≠ gb274)); clear BK274; clear HB; have BK274 := n0_; have HB := n1_; have BK275 := n2_; have GW275 := n3_; have GE275 := n4_; have NB274_275 := n5_; have NB275_274 := n6_; clear n0_ n1_ n2_ n3_ n4_ n5_ n6_; clear hb hbox hg; have hnb27 := NB274_275.out; have hnc27 := NB275_274.out; obtain ⟨_, _, _, _, _, _, _, _⟩ := hb4_ BK274) | ((with_reducible refine gate_callee (f := 24) rfl ?_); refine gl_ (some 7) Tryd.func24 #[.agg #[.slice A0_0 l0_0.length c0_0, .slice A0_1 l0_1.length c0_1, .int .i64 a0_2]] ?_; (with_reducible refine (pentaglotref26_Proper.calls k _ _ l0_0 _ _ l0_1 a0_2 false _ ?side1 ?side2 ?side3 ?side4 A3.out).mono ?_); (case side1 => exact cs_ (Kd.C_below HR0_0.out HB.out)); (case side2 => exact HC0_0.out); (case side3 => exact cs_ (Kd.C_below HR0_1.out HB.out)); (case side4 => exact HC0_1.out); rintro e w29 ⟨rfl, hb⟩; refine ⟨_, rfl, ?_⟩; replace BK274 := mk_ (bb_ BK274 hb); replace BK275 := mk_ (bb_ BK275 hb); replace HB := mk_ (below_step (be2_ HB GE274 GE275) hb); (try clear hb); (try clear hb2); (try clear hk); (try clear hi)))
  go_ret
  exact ⟨er_, be2_ HB GE274 GE275⟩

end Go.Proofs.YtolpckflofjfhaaDoor.P
