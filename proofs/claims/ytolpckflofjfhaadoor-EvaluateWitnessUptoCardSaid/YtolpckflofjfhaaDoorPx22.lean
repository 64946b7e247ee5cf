import Derived.Test.YtolpckflofjfhaaDoorPx0
import Derived.Test.YtolpckflofjfhaaDoorPx12
import Derived.Test.YtolpckflofjfhaaDoorPx17
import Derived.Test.YtolpckflofjfhaaDoorPx21
namespace Go.Proofs.YtolpckflofjfhaaDoor.P
open Go.RowKit Go.Proofs.YtolpckflofjfhaaDoorW.PrintWords Go.Proofs.YtolpckflofjfhaaDoorW.PrintLast Go.Proofs.YtolpckflofjfhaaDoorW.PrintMore
attribute [local go_sem] max2_int min2_int max_two min_two max_three min_three max_four min_four
set_option linter.unusedVariables false
set_option maxHeartbeats 8000000
set_option maxRecDepth 100000
set_option linter.unusedSimpArgs false
def pentaglotref26_Fits.f (k : Nat) (l0_0 : List (S73)) (l0_1 : List Int) (a0_2 : Int) (l0_3 : List (S62)) (a1_0 : Int) (a1_1 : ByteArray) (l1_2 : List (S92)) (a1_3 : Int) (a1_4 : Int) (l1_5 : List (S32)) : Option (Bool) := (pentaglotref26_Proper.f k l0_0 l0_1 a0_2).bind fun t276 => (if t276 = true then ((pentaglotref22_Valid.f k a1_0 a1_1 l1_2 a1_3 a1_4 l1_5 0).bind fun t277 => (if t277 = true then ((pentaglotref26_known.f k l0_0 l0_1 a0_2 l0_3 a1_0 a1_1 l1_2 a1_3 a1_4 l1_5).bind fun t278 => (some t278)) else (some false))) else (some false))
theorem pentaglotref26_Fits.calls (k : Nat) (A0_0 : Option Addr) (c0_0 : Nat) (l0_0 : List (S73)) (A0_1 : Option Addr) (c0_1 : Nat) (l0_1 : List Int) (a0_2 : Int) (A0_3 : Option Addr) (c0_3 : Nat) (l0_3 : List (S62)) (a1_0 : Int) (a1_1 : ByteArray) (A1_2 : Option Addr) (c1_2 : Nat) (l1_2 : List (S92)) (a1_3 : Int) (a1_4 : Int) (A1_5 : Option Addr) (c1_5 : Nat) (l1_5 : List (S32)) (r : Bool) (w : World) (hr0_0 : Kd.C k73 w A0_0 l0_0.length l0_0) (hc0_0 : l0_0.length ≤ c0_0) (hr0_1 : Kd.C (Kd.int .i64) w A0_1 l0_1.length l0_1) (hc0_1 : l0_1.length ≤ c0_1) (hr0_3 : Kd.C k62 w A0_3 l0_3.length l0_3) (hc0_3 : l0_3.length ≤ c0_3) (hr1_2 : Kd.C k92 w A1_2 l1_2.length l1_2) (hc1_2 : l1_2.length ≤ c1_2) (hr1_5 : Kd.C k32 w A1_5 l1_5.length l1_5) (hc1_5 : l1_5.length ≤ c1_5) (h : pentaglotref26_Fits.f k l0_0 l0_1 a0_2 l0_3 a1_0 a1_1 l1_2 a1_3 a1_4 l1_5 = some r) :
  Calls Tryd.prog 36 #[.agg #[.slice A0_0 l0_0.length c0_0, .slice A0_1 l0_1.length c0_1, .int .i64 a0_2, .slice A0_3 l0_3.length c0_3], .agg #[.int .i64 a1_0, .string a1_1, .slice A1_2 l1_2.length c1_2, .int .i64 a1_3, .int .i64 a1_4, .slice A1_5 l1_5.length c1_5]] w fun e w' => e = .returned (.bool r) ∧ Below w.heap.size w w' := by
 have hu28 := Tryd.underlying28
 have hu32 := Tryd.underlying32
 have hu25 := Tryd.underlying25
 have HR0_0 := mk_ hr0_0; have HC0_0 := mk_ hc0_0; clear hr0_0 hc0_0
 have HR0_1 := mk_ hr0_1; have HC0_1 := mk_ hc0_1; clear hr0_1 hc0_1
 have HR0_3 := mk_ hr0_3; have HC0_3 := mk_ hc0_3; clear hr0_3 hc0_3
 have HR1_2 := mk_ hr1_2; have HC1_2 := mk_ hc1_2; clear hr1_2 hc1_2
 have HR1_5 := mk_ hr1_5; have HC1_5 := mk_ hc1_5; clear hr1_5 hc1_5
 have HB := mk_ (Below.refl w.heap.size w)
 have H : ((pentaglotref26_Proper.f k l0_0 l0_1 a0_2).bind fun t276 => (if t276 = true then ((pentaglotref22_Valid.f k a1_0 a1_1 l1_2 a1_3 a1_4 l1_5 0).bind fun t277 => (if t277 = true then ((pentaglotref26_known.f k l0_0 l0_1 a0_2 l0_3 a1_0 a1_1 l1_2 a1_3 a1_4 l1_5).bind fun t278 => (some t278)) else (some false))) else (some false))) = some r := h
 clear h
 replace H := Option.bind_eq_some_iff.mp H
 obtain ⟨t276, A30, H⟩ := H
 replace H : (if t276 = true then ((pentaglotref22_Valid.f k a1_0 a1_1 l1_2 a1_3 a1_4 l1_5 0).bind fun t277 => (if t277 = true then ((pentaglotref26_known.f k l0_0 l0_1 a0_2 l0_3 a1_0 a1_1 l1_2 a1_3 a1_4 l1_5).bind fun t278 => (some t278)) else (some false))) else (some false)) = some r := H
 have A3 := mk_ A30
 clear A30
 by_cases c4 : t276 = true
 ·subst c4
  rw [if_pos rfl] at H
  replace H := Option.bind_eq_some_iff.mp H
  obtain ⟨t277, A50, H⟩ := H
  replace H : (if t277 = true then ((pentaglotref26_known.f k l0_0 l0_1 a0_2 l0_3 a1_0 a1_1 l1_2 a1_3 a1_4 l1_5).bind fun t278 => (some t278)) else (some false)) = some r := H
  have A5 := mk_ A50
  clear A50
  by_cases c6 : t277 = true
  ·subst c6
   rw [if_pos rfl] at H
   replace H := Option.bind_eq_some_iff.mp H
   obtain ⟨t278, A70, H⟩ := H
   replace H : (some t278) = some r := H
   have A7 := mk_ A70
   clear A70
   obtain rfl := Option.some.inj H
   go_enter Tryd.func36, Tryd.ntmps36
   go_wp2_with (first | ((with_reducible refine gate_dst (N := 2) rfl ?_); refine bx_ 2 #[.slice A0_0 l0_0.length c0_0, .slice A0_1 l0_1.length c0_1, .int .i64 a0_2, .slice A0_3 l0_3.length c0_3] 28 ?_; intro gb274 hg w8 hbox hb; have BK274 := mk_ (hbox); have GW274 := mk_ (gs_ hg (be_ HB)); have GE274 := mk_ (gs_ hg (be_ HB)); replace HB := mk_ (below_step (be_ HB) hb); clear hb hbox hg) | ((with_reducible refine gate_dst (N := 3) rfl ?_); refine bx_ 3 #[.int .i64 a1_0, .string a1_1, .slice A1_2 l1_2.length c1_2, .int .i64 a1_3, .int .i64 a1_4, .slice A1_5 l1_5.length c1_5] 32 ?_; intro gb275 hg w9 hbox hb; have n0_ := mk_ (bb_ BK274 hb); have n1_ := mk_ (below_step (be1_ HB GE274) hb); have n2_ := mk_ (hbox); have n3_ := mk_ (gs_ hg (be1_ HB GE274)); have n4_ := mk_ (gs_ hg (be1_ HB GE274)); have n5_ := mk_ ((by rw [hg]; exact Nat.ne_of_lt (blk_lt (g := gb274) (o := .cells #[.slice A0_0 l0_0.length c0_0, .slice A0_1 l0_1.length c0_1, .int .i64 a0_2, .slice A0_3 l0_3.length c0_3] 28 (0, 0)) (bq_ BK274)) : gb274 ≠ gb275)); have n6_ := mk_ ((by rw [hg]; exact Nat.ne_of_gt (blk_lt (g := gb274) (o := .cells #[.slice A0_0 l0_0.length c0_0, .slice A0_1 l0_1.length c0_1, .int .i64 a0_2, .slice A0_3 l0_3.length c0_3] 28 (0, 0)) (bq_ BK274)) : gb275 ≠ gb274)); clear BK274; clear HB; have BK274 := n0_; have HB := n1_; have BK275 := n2_; have GW275 := n3_; have GE275 := n4_; have NB274_275 := n5_; have NB275_274 := n6_; clear n0_ n1_ n2_ n3_ n4_ n5_ n6_; clear hb hbox hg; have hnb10 := NB274_275.out; have hnc10 := NB275_274.out; obtain ⟨_, _, _, _, _, _, _, _⟩ := hb4_ BK274) | ((with_reducible refine gate_callee (f := 24) rfl ?_); refine gl_ (some 7) Tryd.func24 #[.agg #[.slice A0_0 l0_0.length c0_0, .slice A0_1 l0_1.length c0_1, .int .i64 a0_2]] ?_; (with_reducible refine (pentaglotref26_Proper.calls k _ _ l0_0 _ _ l0_1 a0_2 true _ ?side1 ?side2 ?side3 ?side4 A3.out).mono ?_); (case side1 => exact cs_ (Kd.C_below HR0_0.out HB.out)); (case side2 => exact HC0_0.out); (case side3 => exact cs_ (Kd.C_below HR0_1.out HB.out)); (case side4 => exact HC0_1.out); rintro e w12 ⟨rfl, hb⟩; refine ⟨_, rfl, ?_⟩; replace BK274 := mk_ (bb_ BK274 hb); replace BK275 := mk_ (bb_ BK275 hb); replace HB := mk_ (below_step (be2_ HB GE274 GE275) hb); obtain ⟨_, _, _, _, _, _, _, _, _, _, _, _⟩ := hb6_ BK275) | (go_at_call 50; (with_reducible refine (pentaglotref22_Valid.calls k a1_0 a1_1 _ _ l1_2 a1_3 a1_4 _ _ l1_5 0 true _ ?side1 ?side2 ?side3 ?side4 A5.out).mono ?_); (case side1 => exact cs_ (Kd.C_below HR1_2.out HB.out)); (case side2 => exact HC1_2.out); (case side3 => exact cs_ (Kd.C_below HR1_5.out HB.out)); (case side4 => exact HC1_5.out); rintro e w14 ⟨rfl, hb⟩; replace BK274 := mk_ (bb_ BK274 hb); replace BK275 := mk_ (bb_ BK275 hb); replace HB := mk_ (below_step (be2_ HB GE274 GE275) hb); obtain ⟨_, _, _, _, _, _, _, _⟩ := hb4_ BK274; obtain ⟨_, _, _, _, _, _, _, _, _, _, _, _⟩ := hb6_ BK275) | (go_at_call 51; (with_reducible refine (pentaglotref26_known.calls k _ _ l0_0 _ _ l0_1 a0_2 _ _ l0_3 a1_0 a1_1 _ _ l1_2 a1_3 a1_4 _ _ l1_5 t278 _ ?side1 ?side2 ?side3 ?side4 ?side5 ?side6 ?side7 ?side8 ?side9 ?side10 A7.out).mono ?_); (case side1 => exact cs_ (Kd.C_below HR0_0.out HB.out)); (case side2 => exact HC0_0.out); (case side3 => exact cs_ (Kd.C_below HR0_1.out HB.out)); (case side4 => exact HC0_1.out); (case side5 => exact cs_ (Kd.C_below HR0_3.out HB.out)); (case side6 => exact HC0_3.out); (case side7 => exact cs_ (Kd.C_below HR1_2.out HB.out)); (case side8 => exact HC1_2.out); (case side9 => exact cs_ (Kd.C_below HR1_5.out HB.out)); (case side10 => exact HC1_5.out); rintro e w17 ⟨rfl, hb⟩; replace BK274 := mk_ (bb_ BK274 hb); replace BK275 := mk_ (bb_ BK275 hb); replace HB := mk_ (below_step (be2_ HB GE274 GE275) hb)))
   go_ret
   exact ⟨er_, be2_ HB GE274 GE275⟩
  ·replace c6 := Bool.eq_false_iff.mpr c6
   subst c6
   rw [if_neg nf_] at H
   obtain rfl := Option.some.inj H
   go_enter Tryd.func36, Tryd.ntmps36
   go_wp2_with (first | ((with_reducible refine gate_dst (N := 2) rfl ?_); refine bx_ 2 #[.slice A0_0 l0_0.length c0_0, .slice A0_1 l0_1.length c0_1, .int .i64 a0_2, .slice A0_3 l0_3.length c0_3] 28 ?_; intro gb274 hg w18 hbox hb; have BK274 := mk_ (hbox); have GW274 := mk_ (gs_ hg (be_ HB)); have GE274 := mk_ (gs_ hg (be_ HB)); replace HB := mk_ (below_step (be_ HB) hb); clear hb hbox hg) | ((with_reducible refine gate_dst (N := 3) rfl ?_); refine bx_ 3 #[.int .i64 a1_0, .string a1_1, .slice A1_2 l1_2.length c1_2, .int .i64 a1_3, .int .i64 a1_4, .slice A1_5 l1_5.length c1_5] 32 ?_; intro gb275 hg w19 hbox hb; have n0_ := mk_ (bb_ BK274 hb); have n1_ := mk_ (below_step (be1_ HB GE274) hb); have n2_ := mk_ (hbox); have n3_ := mk_ (gs_ hg (be1_ HB GE274)); have n4_ := mk_ (gs_ hg (be1_ HB GE274)); have n5_ := mk_ ((by rw [hg]; exact Nat.ne_of_lt (blk_lt (g := gb274) (o := .cells #[.slice A0_0 l0_0.length c0_0, .slice A0_1 l0_1.length c0_1, .int .i64 a0_2, .slice A0_3 l0_3.length c0_3] 28 (0, 0)) (bq_ BK274)) : gb274 ≠ gb275)); have n6_ := mk_ ((by rw [hg]; exact Nat.ne_of_gt (blk_lt (g := gb274) (o := .cells #[.slice A0_0 l0_0.length c0_0, .slice A0_1 l0_1.length c0_1, .int .i64 a0_2, .slice A0_3 l0_3.length c0_3] 28 (0, 0)) (bq_ BK274)) : gb275 ≠ gb274)); clear BK274; clear HB; have BK274 := n0_; have HB := n1_; have BK275 := n2_; have GW275 := n3_; have GE275 := n4_; have NB274_275 := n5_; have NB275_274 := n6_; clear n0_ n1_ n2_ n3_ n4_ n5_ n6_; clear hb hbox hg; have hnb20 := NB274_275.out; have hnc20 := NB275_274.out; obtain ⟨_, _, _, _, _, _, _, _⟩ := hb4_ BK274) | ((with_reducible refine gate_callee (f := 24) rfl ?_); refine gl_ (some 7) Tryd.func24 #[.agg #[.slice A0_0 l0_0.length c0_0, .slice A0_1 l0_1.length c0_1, .int .i64 a0_2]] ?_; (with_reducible refine (pentaglotref26_Proper.calls k _ _ l0_0 _ _ l0_1 a0_2 true _ ?side1 ?side2 ?side3 ?side4 A3.out).mono ?_); (case side1 => exact cs_ (Kd.C_below HR0_0.out HB.out)); (case side2 => exact HC0_0.out); (case side3 => exact cs_ (Kd.C_below HR0_1.out HB.out)); (case side4 => exact HC0_1.out); rintro e w22 ⟨rfl, hb⟩; refine ⟨_, rfl, ?_⟩; replace BK274 := mk_ (bb_ BK274 hb); replace BK275 := mk_ (bb_ BK275 hb); replace HB := mk_ (below_step (be2_ HB GE274 GE275) hb); obtain ⟨_, _, _, _, _, _, _, _, _, _, _, _⟩ := hb6_ BK275) | (go_at_call 50; (with_reducible refine (pentaglotref22_Valid.calls k a1_0 a1_1 _ _ l1_2 a1_3 a1_4 _ _ l1_5 0 false _ ?side1 ?side2 ?side3 ?side4 A5.out).mono ?_); (case side1 => exact cs_ (Kd.C_below HR1_2.out HB.out)); (case side2 => exact HC1_2.out); (case side3 => exact cs_ (Kd.C_below HR1_5.out HB.out)); (case side4 => exact HC1_5.out); rintro e w24 ⟨rfl, hb⟩; replace BK274 := mk_ (bb_ BK274 hb); replace BK275 := mk_ (bb_ BK275 hb); replace HB := mk_ (below_step (be2_ HB GE274 GE275) hb)))
   go_ret
   exact ⟨er_, be2_ HB GE274 GE275⟩
 ·replace c4 := Bool.eq_false_iff.mpr c4
  subst c4
  rw [if_neg nf_] at H
  obtain rfl := Option.some.inj H
  go_enter Tryd.func36, Tryd.ntmps36
  go_wp2_with (first | ((with_reducible refine gate_dst (N := 2) rfl ?_); refine bx_ 2 #[.slice A0_0 l0_0.length c0_0, .slice A0_1 l0_1.length c0_1, .int .i64 a0_2, .slice A0_3 l0_3.length c0_3] 28 ?_; intro gb274 hg w25 hbox hb; have BK274 := mk_ (hbox); have GW274 := mk_ (gs_ hg (be_ HB)); have GE274 := mk_ (gs_ hg (be_ HB)); replace HB := mk_ (below_step (be_ HB) hb); clear hb hbox hg) | ((with_reducible refine gate_dst (N := 3) rfl ?_); refine bx_ 3 #[.int .i64 a1_0, .string a1_1, .slice A1_2 l1_2.length c1_2, .int .i64 a1_3, .int .i64 a1_4, .slice A1_5 l1_5.length c1_5] 32 ?_; intro gb275 hg w26 hbox hb; have n0_ := mk_ (bb_ BK274 hb); have n1_ := mk_ (below_step (be1_ HB GE274) hb); have n2_ := mk_ (hbox); have n3_ := mk_ (gs_ hg (be1_ HB GE274)); have n4_ := mk_ (gs_ hg (be1_ HB GE274)); have n5_ := mk_ ((by rw [hg]; exact Nat.ne_of_lt (blk_lt (g := gb274) (o := .cells #[.slice A0_0 l0_0.length c0_0, .slice A0_1 l0_1.length c0_1, .int .i64 a0_2, .slice A0_3 l0_3.length c0_3] 28 (0, 0)) (bq_ BK274)) : gb274 ≠ gb275)); have n6_ := mk_ ((by rw [hg]; exact Nat.ne_of_gt (blk_lt (g := gb274) (o := .cells #[.slice A0_0 l0_0.length c0_0, .slice A0_1 l0_1.length c0_1, .int .i64 a0_2, .slice A0_3 l0_3.length c0_3] 28 (0, 0)) (bq_ BK274)) : gb275 ≠ gb274)); clear BK274; clear HB; have BK274 := n0_; have HB := n1_; have BK275 := n2_; have GW275 := n3_; have GE275 := n4_; have NB274_275 := n5_; have NB275_274 := n6_; clear n0_ n1_ n2_ n3_ n4_ n5_ n6_; clear hb hbox hg; have hnb27 := NB274_275.out; have hnc27 := NB275_274.out; obtain ⟨_, _, _, _, _, _, _, _⟩ := hb4_ BK274) | ((with_reducible refine gate_callee (f := 24) rfl ?_); refine gl_ (some 7) Tryd.func24 #[.agg #[.slice A0_0 l0_0.length c0_0, .slice A0_1 l0_1.length c0_1, .int .i64 a0_2]] ?_; (with_reducible refine (pentaglotref26_Proper.calls k _ _ l0_0 _ _ l0_1 a0_2 false _ ?side1 ?side2 ?side3 ?side4 A3.out).mono ?_); (case side1 => exact cs_ (Kd.C_below HR0_0.out HB.out)); (case side2 => exact HC0_0.out); (case side3 => exact cs_ (Kd.C_below HR0_1.out HB.out)); (case side4 => exact HC0_1.out); rintro e w29 ⟨rfl, hb⟩; refine ⟨_, rfl, ?_⟩; replace BK274 := mk_ (bb_ BK274 hb); replace BK275 := mk_ (bb_ BK275 hb); replace HB := mk_ (below_step (be2_ HB GE274 GE275) hb)))
  go_ret
  exact ⟨er_, be2_ HB GE274 GE275⟩
mutual
def pentaglotref26_Work.l0 : Nat → Int → Int → List (S73) → List Int → Int → List (S62) → Int → ByteArray → List (S92) → Int → Int → List (S32) → Option (Int)
 | 0, _, _, _, _, _, _, _, _, _, _, _, _ => none
 | k + 1, x5, x6, x280000, x280001, x280002, x280003, x281000, x281001, x281002, x281003, x281004, x281005 => if x6 < (x281005.length : Int) then (if 0 ≤ x6 then ((pentaglotref26_Work.f k x280000 x280001 x280002 x280003 ((rd_T32 x281005 x6).f0) ((rd_T32 x281005 x6).f1) ((rd_T32 x281005 x6).f2) ((rd_T32 x281005 x6).f3) ((rd_T32 x281005 x6).f4) ((rd_T32 x281005 x6).f5)).bind fun t282 => (pentaglotref26_Work.l0 k (mn 1048577 (wrap64 (x5 + t282))) (wrap64 (x6 + 1)) x280000 x280001 x280002 x280003 x281000 x281001 x281002 x281003 x281004 x281005)) else (none)) else (if x281000 = 8 then (pentaglotref26_Work.j1 k x5 1 x281000 (x281000 == 8) x280000 x280001 x280002 x280003 x281000 x281001 x281002 x281003 x281004 x281005) else (pentaglotref26_Work.j1 k x5 1 x281000 (x281000 == 9) x280000 x280001 x280002 x280003 x281000 x281001 x281002 x281003 x281004 x281005))
def pentaglotref26_Work.j1 : Nat → Int → Int → Int → Bool → List (S73) → List Int → Int → List (S62) → Int → ByteArray → List (S92) → Int → Int → List (S32) → Option (Int)
 | 0, _, _, _, _, _, _, _, _, _, _, _, _, _, _ => none
 | k + 1, x5, x7, x30, x31, x280000, x280001, x280002, x280003, x281000, x281001, x281002, x281003, x281004, x281005 => if x31 = true then ((pentaglotref26_Individuals.f k x280000 x280001 x280002 x281001).bind fun bt283 => (some (mn 1048577 (wrap64 (1 + (wrap64 (x5 * (bt283.1.length : Int)))))))) else (if x30 = 10 then ((pentaglotref26_Interval.f k x280000 x280001 x280002 x281003 x281004).bind fun bt287 => (some (mn 1048577 (wrap64 (1 + (wrap64 (x5 * (bt287.1.length : Int)))))))) else (if x30 = 11 then (some (mn 1048577 (wrap64 (1 + (wrap64 (x5 * x280002)))))) else (if x30 = 12 then (some (mn 1048577 (wrap64 (1 + (wrap64 (x5 * x280002)))))) else (some (mn 1048577 (wrap64 (1 + (wrap64 (x5 * x7)))))))))
def pentaglotref26_Work.f : Nat → List (S73) → List Int → Int → List (S62) → Int → ByteArray → List (S92) → Int → Int → List (S32) → Option (Int)
 | 0, _, _, _, _, _, _, _, _, _, _ => none
 | k + 1, l0_0, l0_1, a0_2, l0_3, a1_0, a1_1, l1_2, a1_3, a1_4, l1_5 => pentaglotref26_Work.l0 k 0 0 l0_0 l0_1 a0_2 l0_3 a1_0 a1_1 l1_2 a1_3 a1_4 l1_5
end
def pentaglotref26_Work.T5 : Bool × List (List Nat × List Nat) := (true, [([], []), ([], []), ([], []), ([2], [2]), ([], []), ([3, 4], [3, 4]), ([5], [5]), ([1, 6], [1, 6]), ([0, 7], [0, 7]), ([8], [8]), ([9, 7, 0, 1, 2, 3, 4, 5, 6, 7, 8, 9], [0, 9])])
def pentaglotref26_Work.B5 : List Nat := [0, 0, 0, 4, 0, 28, 60, 126, 255, 511, 1023]
theorem pentaglotref26_Work.tab5 : rtab .any (opsOf Tryd.f37 5) = pentaglotref26_Work.T5 := by kernel_rfl
theorem pentaglotref26_Work.bits5 : waitsOk pentaglotref26_Work.T5.2 pentaglotref26_Work.B5 = true := by kernel_rfl
theorem pentaglotref26_Work.calls (k : Nat) : ∀ (A0_0 : Option Addr) (c0_0 : Nat) (l0_0 : List (S73)) (A0_1 : Option Addr) (c0_1 : Nat) (l0_1 : List Int) (a0_2 : Int) (A0_3 : Option Addr) (c0_3 : Nat) (l0_3 : List (S62)) (a1_0 : Int) (a1_1 : ByteArray) (A1_2 : Option Addr) (c1_2 : Nat) (l1_2 : List (S92)) (a1_3 : Int) (a1_4 : Int) (A1_5 : Option Addr) (c1_5 : Nat) (l1_5 : List (S32)) (r : Int) (w : World) (hr0_0 : Kd.C k73 w A0_0 l0_0.length l0_0) (hc0_0 : l0_0.length ≤ c0_0) (hr0_1 : Kd.C (Kd.int .i64) w A0_1 l0_1.length l0_1) (hc0_1 : l0_1.length ≤ c0_1) (hr0_3 : Kd.C k62 w A0_3 l0_3.length l0_3) (hc0_3 : l0_3.length ≤ c0_3) (hr1_2 : Kd.C k92 w A1_2 l1_2.length l1_2) (hc1_2 : l1_2.length ≤ c1_2) (hr1_5 : Kd.C k32 w A1_5 l1_5.length l1_5) (hc1_5 : l1_5.length ≤ c1_5) (h : pentaglotref26_Work.f k l0_0 l0_1 a0_2 l0_3 a1_0 a1_1 l1_2 a1_3 a1_4 l1_5 = some r),
  Calls Tryd.prog 37 #[.agg #[.slice A0_0 l0_0.length c0_0, .slice A0_1 l0_1.length c0_1, .int .i64 a0_2, .slice A0_3 l0_3.length c0_3], .agg #[.int .i64 a1_0, .string a1_1, .slice A1_2 l1_2.length c1_2, .int .i64 a1_3, .int .i64 a1_4, .slice A1_5 l1_5.length c1_5]] w fun e w' => e = .returned (.int .i64 r) ∧ Below w.heap.size w w' := by
 induction k using Nat.strongRecOn with
 | _ k ih =>
 intro A0_0 c0_0 l0_0 A0_1 c0_1 l0_1 a0_2 A0_3 c0_3 l0_3 a1_0 a1_1 A1_2 c1_2 l1_2 a1_3 a1_4 A1_5 c1_5 l1_5 r w hr0_0 hc0_0 hr0_1 hc0_1 hr0_3 hc0_3 hr1_2 hc1_2 hr1_5 hc1_5 h
 cases k with
 | zero => exact absurd h (by simp [pentaglotref26_Work.f])
 | succ k =>
 simp only [pentaglotref26_Work.f] at h
 have hu28 := Tryd.underlying28
 have hu32 := Tryd.underlying32
 have hu25 := Tryd.underlying25
 have HR0_0 := mk_ hr0_0; have HC0_0 := mk_ hc0_0; clear hr0_0 hc0_0
 have HR0_1 := mk_ hr0_1; have HC0_1 := mk_ hc0_1; clear hr0_1 hc0_1
 have HR0_3 := mk_ hr0_3; have HC0_3 := mk_ hc0_3; clear hr0_3 hc0_3
 have HR1_2 := mk_ hr1_2; have HC1_2 := mk_ hc1_2; clear hr1_2 hc1_2
 have HR1_5 := mk_ hr1_5; have HC1_5 := mk_ hc1_5; clear hr1_5 hc1_5
 have HB := mk_ (Below.refl w.heap.size w)
 have H : (pentaglotref26_Work.l0 k 0 0 l0_0 l0_1 a0_2 l0_3 a1_0 a1_1 l1_2 a1_3 a1_4 l1_5) = some r := h
 clear h
 have H' := mk_ H
 clear H
 go_enter Tryd.func37, Tryd.ntmps37
 go_wp2_with (first | ((with_reducible refine gate_dst (N := 2) rfl ?_); refine bx_ 2 #[.slice A0_0 l0_0.length c0_0, .slice A0_1 l0_1.length c0_1, .int .i64 a0_2, .slice A0_3 l0_3.length c0_3] 28 ?_; intro gb279 hg w3 hbox hb; have BK279 := mk_ (hbox); have GW279 := mk_ (gs_ hg (be_ HB)); have GE279 := mk_ (gs_ hg (be_ HB)); replace HB := mk_ (below_step (be_ HB) hb); clear hb hbox hg) | ((with_reducible refine gate_dst (N := 3) rfl ?_); refine bx_ 3 #[.int .i64 a1_0, .string a1_1, .slice A1_2 l1_2.length c1_2, .int .i64 a1_3, .int .i64 a1_4, .slice A1_5 l1_5.length c1_5] 32 ?_; intro gb280 hg w4 hbox hb; have n0_ := mk_ (bb_ BK279 hb); have n1_ := mk_ (below_step (be1_ HB GE279) hb); have n2_ := mk_ (hbox); have n3_ := mk_ (gs_ hg (be1_ HB GE279)); have n4_ := mk_ (gs_ hg (be1_ HB GE279)); have n5_ := mk_ ((by rw [hg]; exact Nat.ne_of_lt (blk_lt (g := gb279) (o := .cells #[.slice A0_0 l0_0.length c0_0, .slice A0_1 l0_1.length c0_1, .int .i64 a0_2, .slice A0_3 l0_3.length c0_3] 28 (0, 0)) (bq_ BK279)) : gb279 ≠ gb280)); have n6_ := mk_ ((by rw [hg]; exact Nat.ne_of_gt (blk_lt (g := gb279) (o := .cells #[.slice A0_0 l0_0.length c0_0, .slice A0_1 l0_1.length c0_1, .int .i64 a0_2, .slice A0_3 l0_3.length c0_3] 28 (0, 0)) (bq_ BK279)) : gb280 ≠ gb279)); clear BK279; clear HB; have BK279 := n0_; have HB := n1_; have BK280 := n2_; have GW280 := n3_; have GE280 := n4_; have NB279_280 := n5_; have NB280_279 := n6_; clear n0_ n1_ n2_ n3_ n4_ n5_ n6_; clear hb hbox hg))
 go_loopg [5, 6] k (fun kq v5 v6 w' => ∃ (x5_1 : Int) (x6_1 : Int), v5 = .int .i64 x5_1 ∧ v6 = .int .i64 x6_1 ∧ Aside0 (pentaglotref26_Work.l0 kq x5_1 x6_1 l0_0 l0_1 a0_2 l0_3 a1_0 a1_1 l1_2 a1_3 a1_4 l1_5 = some r) ∧ Aside0 (kq ≤ k) ∧ Aside0 (w'.heap[gb279]? = some (.cells #[(.slice A0_0 l0_0.length c0_0), (.slice A0_1 l0_1.length c0_1), .int .i64 a0_2, (.slice A0_3 l0_3.length c0_3)] 28 (0, 0))) ∧ Aside0 (w'.heap[gb280]? = some (.cells #[.int .i64 a1_0, .string a1_1, (.slice A1_2 l1_2.length c1_2), .int .i64 a1_3, .int .i64 a1_4, (.slice A1_5 l1_5.length c1_5)] 32 (0, 0))) ∧ Aside0 (Below w.heap.size w w'))
 case atStart => exact ⟨(0), (0), fi_, fi_, H', ⟨Nat.le_refl _⟩, ⟨bq_ BK279⟩, ⟨bq_ BK280⟩, ⟨be2_ HB GE279 GE280⟩⟩
 case round =>
  clear H'
  obtain ⟨x5_1, x6_1, rfl, rfl, HA, HK1, BK279, BK280, HB⟩ := hrel
  cases gk with
  | zero => exact absurd HA.out (by simp [pentaglotref26_Work.l0])
  | succ k1 =>
   have H := HA.out
   clear HA
   simp only [pentaglotref26_Work.l0] at H
   by_cases c5 : x6_1 < (l1_5.length : Int)
   ·rw [if_pos c5] at H
    have c5b0 : decide (x6_1 < (l1_5.length : Int)) = true := decide_eq_true c5
    clear c5
    by_cases c6 : 0 ≤ x6_1
    ·rw [if_pos c6] at H
     have c6b0 : decide (0 ≤ x6_1) = true := decide_eq_true c6
     clear c6
     replace H := Option.bind_eq_some_iff.mp H
     obtain ⟨t282, A70, H⟩ := H
     replace H : (pentaglotref26_Work.l0 k1 (mn 1048577 (wrap64 (x5_1 + t282))) (wrap64 (x6_1 + 1)) l0_0 l0_1 a0_2 l0_3 a1_0 a1_1 l1_2 a1_3 a1_4 l1_5) = some r := H
     have A7 := mk_ A70
     clear A70
     obtain ⟨ji8, hji8⟩ : ∃ j_ : Int, (mn 1048577 (wrap64 (x5_1 + t282))) = j_ := ⟨_, rfl⟩
     replace H : (pentaglotref26_Work.l0 k1 ji8 (wrap64 (x6_1 + 1)) l0_0 l0_1 a0_2 l0_3 a1_0 a1_1 l1_2 a1_3 a1_4 l1_5) = some r := by first | (rw [hji8] at H; exact H) | (simp only [hji8] at H ⊢; exact H)
     (try rw [hji8] at A7)
     have hji8_ : (if (wrap64 (x5_1 + t282)) < 1048577 then (wrap64 (x5_1 + t282)) else 1048577) = ji8 := hji8
     have H' := mk_ H
     clear H
     have hnb9 := NB280_279.out
     have hnc9 := NB279_280.out
     obtain ⟨_, _, _, _, _, _, _, _, _, _, _, _⟩ := hb6_ BK280
     try go_wp2
     replace BK279 := mk_ (blk_drew BK279.out)
     replace BK280 := mk_ (blk_drew BK280.out)
     replace HB := mk_ (below_drew1 HB.out)
     have p281 : 0 ≤ (x6_1 : Int) := of_decide_eq_true (by first | (with_reducible assumption) | assumption)
     have q281 : x6_1 < (l1_5.length : Int) := of_decide_eq_true (by first | (with_reducible assumption) | assumption)
     obtain ⟨ad281, A281_2, c281_2, A281_5, c281_5, e281, hx281_0, hx281_1, hx281_2, hx281_3, hx281_4, hx281_5, hl281_2, hi281_2, hl281_5, hi281_5⟩ := at_T32 HR1_5.out x6_1 p281 q281
     have hw281_5 := hx281_5
     have hw281_4 := hx281_4
     have hw281_3 := hx281_3
     have hw281_2 := hx281_2
     have hw281_1 := hx281_1
     have hw281_0 := hx281_0
     cases e281
     replace hx281_0 := cb_ HB hx281_0
     replace hx281_1 := cb_ HB hx281_1
     replace hx281_2 := cb_ HB hx281_2
     replace hx281_3 := cb_ HB hx281_3
     replace hx281_4 := cb_ HB hx281_4
     replace hx281_5 := cb_ HB hx281_5
     have HR281_2 := mk_ hi281_2; have HC281_2 := mk_ hl281_2; clear hi281_2 hl281_2
     have HR281_5 := mk_ hi281_5; have HC281_5 := mk_ hl281_5; clear hi281_5 hl281_5
     replace p281 := eq_true p281
     replace q281 := eq_true q281
     refine start_ (n := 11) (S := fun w' => w'.cell? ⟨gb279, 0, none⟩ = some (.slice A0_0 l0_0.length c0_0) ∧ w'.cell? ⟨gb279, 1, none⟩ = some (.slice A0_1 l0_1.length c0_1) ∧ w'.cell? ⟨gb279, 2, none⟩ = some (.int .i64 a0_2) ∧ w'.cell? ⟨gb279, 3, none⟩ = some (.slice A0_3 l0_3.length c0_3) ∧ w'.cell? ⟨gb280, 0, none⟩ = some (.int .i64 a1_0) ∧ w'.cell? ⟨gb280, 1, none⟩ = some (.string a1_1) ∧ w'.cell? ⟨gb280, 2, none⟩ = some (.slice A1_2 l1_2.length c1_2) ∧ w'.cell? ⟨gb280, 3, none⟩ = some (.int .i64 a1_3) ∧ w'.cell? ⟨gb280, 4, none⟩ = some (.int .i64 a1_4) ∧ w'.cell? ⟨gb280, 5, none⟩ = some (.slice (some ad281) l1_5.length c1_5) ∧ w'.cell? (ad281.add ((x6_1).toNat * 6)) = some (.int .i64 ((rd_T32 l1_5 x6_1).f0)) ∧ w'.cell? ⟨(ad281.add ((x6_1).toNat * 6)).block, (ad281.add ((x6_1).toNat * 6)).off + 1, none⟩ = some (.string ((rd_T32 l1_5 x6_1).f1)) ∧ w'.cell? ⟨(ad281.add ((x6_1).toNat * 6)).block, (ad281.add ((x6_1).toNat * 6)).off + 2, none⟩ = some (.slice A281_2 ((rd_T32 l1_5 x6_1).f2).length c281_2) ∧ w'.cell? ⟨(ad281.add ((x6_1).toNat * 6)).block, (ad281.add ((x6_1).toNat * 6)).off + 3, none⟩ = some (.int .i64 ((rd_T32 l1_5 x6_1).f3)) ∧ w'.cell? ⟨(ad281.add ((x6_1).toNat * 6)).block, (ad281.add ((x6_1).toNat * 6)).off + 4, none⟩ = some (.int .i64 ((rd_T32 l1_5 x6_1).f4)) ∧ w'.cell? ⟨(ad281.add ((x6_1).toNat * 6)).block, (ad281.add ((x6_1).toNat * 6)).off + 5, none⟩ = some (.slice A281_5 ((rd_T32 l1_5 x6_1).f5).length c281_5)) (ds := []) #[false, false, false, false, false, false, false, false, false, false, false] (by kernel_rfl) rfl rfl ⟨(blk_cell BK279.out 0).trans rfl, (blk_cell BK279.out 1).trans rfl, (blk_cell BK279.out 2).trans rfl, (blk_cell BK279.out 3).trans rfl, (blk_cell BK280.out 0).trans rfl, (blk_cell BK280.out 1).trans rfl, (blk_cell BK280.out 2).trans rfl, (blk_cell BK280.out 3).trans rfl, (blk_cell BK280.out 4).trans rfl, (blk_cell BK280.out 5).trans rfl, ((HB.out.cell (World.block_lt_of_cell? w _ hw281_0)).trans hw281_0), ((HB.out.cell (World.block_lt_of_cell? w _ hw281_1)).trans hw281_1), ((HB.out.cell (World.block_lt_of_cell? w _ hw281_2)).trans hw281_2), ((HB.out.cell (World.block_lt_of_cell? w _ hw281_3)).trans hw281_3), ((HB.out.cell (World.block_lt_of_cell? w _ hw281_4)).trans hw281_4), ((HB.out.cell (World.block_lt_of_cell? w _ hw281_5)).trans hw281_5)⟩ (fun hHeld => ?_); refine with_tabW pentaglotref26_Work.tab5 pentaglotref26_Work.bits5 (fun HT_ HW_ => ?_)
     generalize wr.drew = w11 at BK279 BK280 HB HR281_2 HR281_5 hx281_0 hx281_1 hx281_2 hx281_3 hx281_4 hx281_5 hHeld ⊢
     refine pu_ 0 (some 19) ?_
     refine pu_ 2 (some 21) ?_
     refine pu_ 4 (some 23) ?_
     refine tk_ 1 (some 20) hHeld ?_
     refine tk_ 3 (some 22) hHeld ?_
     refine pu_ 5 (some 24) ?_
     refine tk_ 6 (some 25) hHeld ?_
     refine on_ 7 (some 26) (fun K hK => ?_)
     refine goes_ Tryd.func37 (by kernel_rfl) rfl #[.agg #[.slice A0_0 l0_0.length c0_0, .slice A0_1 l0_1.length c0_1, .int .i64 a0_2, .slice A0_3 l0_3.length c0_3], .agg #[.int .i64 ((rd_T32 l1_5 x6_1).f0), .string ((rd_T32 l1_5 x6_1).f1), .slice A281_2 ((rd_T32 l1_5 x6_1).f2).length c281_2, .int .i64 ((rd_T32 l1_5 x6_1).f3), .int .i64 ((rd_T32 l1_5 x6_1).f4), .slice A281_5 ((rd_T32 l1_5 x6_1).f5).length c281_5]] (by rfl) rfl rfl (by (try simp only [List.map_toArray, List.map_cons, List.map_nil]); first | done | rfl | (simp only [List.length_drop, List.length_take]; rfl)) ?_
     with_reducible refine (ih k1 (by have := HK1.out; omega) _ _ l0_0 _ _ l0_1 a0_2 _ _ l0_3 ((rd_T32 l1_5 x6_1).f0) ((rd_T32 l1_5 x6_1).f1) _ _ ((rd_T32 l1_5 x6_1).f2) ((rd_T32 l1_5 x6_1).f3) ((rd_T32 l1_5 x6_1).f4) _ _ ((rd_T32 l1_5 x6_1).f5) t282 _ ?side1 ?side2 ?side3 ?side4 ?side5 ?side6 ?side7 ?side8 ?side9 ?side10 A7.out).mono ?_
     (case side1 => exact cs_ (Kd.C_below HR0_0.out HB.out))
     (case side2 => exact HC0_0.out)
     (case side3 => exact cs_ (Kd.C_below HR0_1.out HB.out))
     (case side4 => exact HC0_1.out)
     (case side5 => exact cs_ (Kd.C_below HR0_3.out HB.out))
     (case side6 => exact HC0_3.out)
     (case side7 => exact cs_ (Kd.C_below HR281_2.out HB.out))
     (case side8 => exact HC281_2.out)
     (case side9 => exact cs_ (Kd.C_below HR281_5.out HB.out))
     (case side10 => exact HC281_5.out)
     rintro e w12 ⟨rfl, hb⟩
     refine ⟨_, rfl, ?_⟩
     replace BK279 := mk_ (blk_below (g := gb279) (o := .cells #[.slice A0_0 l0_0.length c0_0, .slice A0_1 l0_1.length c0_1, .int .i64 a0_2, .slice A0_3 l0_3.length c0_3] 28 (0, 0)) (bq_ BK279) hb)
     replace BK280 := mk_ (bb_ BK280 hb)
     replace HB := mk_ (below_step (be2_ HB GE279 GE280) hb)
     refine hK.out _ _ ⟨(blk_cell BK279.out 0).trans rfl, (blk_cell BK279.out 1).trans rfl, (blk_cell BK279.out 2).trans rfl, (blk_cell BK279.out 3).trans rfl, (blk_cell BK280.out 0).trans rfl, (blk_cell BK280.out 1).trans rfl, (blk_cell BK280.out 2).trans rfl, (blk_cell BK280.out 3).trans rfl, (blk_cell BK280.out 4).trans rfl, (blk_cell BK280.out 5).trans rfl, ((HB.out.cell (World.block_lt_of_cell? w _ hw281_0)).trans hw281_0), ((HB.out.cell (World.block_lt_of_cell? w _ hw281_1)).trans hw281_1), ((HB.out.cell (World.block_lt_of_cell? w _ hw281_2)).trans hw281_2), ((HB.out.cell (World.block_lt_of_cell? w _ hw281_3)).trans hw281_3), ((HB.out.cell (World.block_lt_of_cell? w _ hw281_4)).trans hw281_4), ((HB.out.cell (World.block_lt_of_cell? w _ hw281_5)).trans hw281_5)⟩ (fun hHeld => ?_)
     clear hK K
     refine no_ (N := some 26) ?_
     refine pu_ 8 (some 27) ?_
     refine pu_ 9 (some 28) ?_
     refine pu_ 10 (some 5) ?_
     refine done_ (done_of HT_.out (by kernel_rfl)) ?_
     try go_wp2
     go_roundg k1
     case measure => have := HK1.out; omega
     case rel => exact ⟨(ji8), (wrap64 (x6_1 + 1)), (by first | rfl | (simp; done) | (simp only [← hji8] <;> (first | rfl | simp)) | (simp [*]; done)), fi_, H', ⟨by have := HK1.out; omega⟩, ⟨bq_ BK279⟩, ⟨bq_ BK280⟩, ⟨be2_ HB GE279 GE280⟩⟩
    ·rw [if_neg c6] at H
     exact absurd H (by simp)
   ·rw [if_neg c5] at H
    have c5b0 : decide (x6_1 < (l1_5.length : Int)) = false := decide_eq_false c5
    clear c5
    have HC13 := mk_ H
    clear H
    have hnb14 := NB280_279.out
    have hnc14 := NB279_280.out
    obtain ⟨_, _, _, _, _, _, _, _, _, _, _, _⟩ := hb6_ BK280
    go_upto_if 31 with (fail)
    go_cut [31] (fun v31 wc => ∃ (kq : Nat) (x31_12 : Bool), v31 = .bool x31_12 ∧ Aside0 (pentaglotref26_Work.j1 kq x5_1 1 a1_0 x31_12 l0_0 l0_1 a0_2 l0_3 a1_0 a1_1 l1_2 a1_3 a1_4 l1_5 = some r) ∧ Aside0 (kq ≤ k1) ∧ Aside0 (wc.heap[gb279]? = some (.cells #[(.slice A0_0 l0_0.length c0_0), (.slice A0_1 l0_1.length c0_1), .int .i64 a0_2, (.slice A0_3 l0_3.length c0_3)] 28 (0, 0))) ∧ Aside0 (wc.heap[gb280]? = some (.cells #[.int .i64 a1_0, .string a1_1, (.slice A1_2 l1_2.length c1_2), .int .i64 a1_3, .int .i64 a1_4, (.slice A1_5 l1_5.length c1_5)] 32 (0, 0))) ∧ Aside0 (Below w.heap.size w wc))
    case first =>
     have H := HC13.out
     clear HC13
     by_cases c16 : a1_0 = 8
     ·rw [if_pos c16] at H
      obtain ⟨c16b0, c16b1⟩ := eb_ c16
      clear c16
      (first | rw [c16b0] | (simp only [i64_w, i32_w]; rw [c16b0]) | skip)
      have H' := mk_ H
      clear H
      go_wp2
      go_meet
      case rel => exact ⟨_, ((a1_0 == 8)), fi_, H', ⟨by have := HK1.out; first | omega | exact Nat.le_refl _⟩, ⟨bq_ BK279⟩, ⟨bq_ BK280⟩, ⟨be2_ HB GE279 GE280⟩⟩
     ·rw [if_neg c16] at H
      obtain ⟨c16b0, c16b1⟩ := en_ c16
      (first | rw [c16b0] | (simp only [i64_w, i32_w]; rw [c16b0]) | skip)
      have H' := mk_ H
      clear H
      go_wp2
      go_meet
      case rel => exact ⟨_, ((a1_0 == 9)), fi_, H', ⟨by have := HK1.out; first | omega | exact Nat.le_refl _⟩, ⟨bq_ BK279⟩, ⟨bq_ BK280⟩, ⟨be2_ HB GE279 GE280⟩⟩
    case rest =>
     clear HC13
     obtain ⟨kq, x31_12, rfl, HA, HJ12, BK279, BK280, HB⟩ := hcut
     cases kq with
     | zero => exact absurd HA.out (by simp [pentaglotref26_Work.j1])
     | succ kj12 =>
      have H := HA.out
      clear HA
      simp only [pentaglotref26_Work.j1] at H
      by_cases c17 : x31_12 = true
      ·subst c17
       rw [if_pos rfl] at H
       replace H := Option.bind_eq_some_iff.mp H
       obtain ⟨⟨t283, t286⟩, A180, H⟩ := H
       replace H : (some (mn 1048577 (wrap64 (1 + (wrap64 (x5_1 * (t283.length : Int))))))) = some r := H
       have A18 := mk_ A180
       clear A180
       obtain ⟨ji19, hji19⟩ : ∃ j_ : Int, (mn 1048577 (wrap64 (1 + (wrap64 (x5_1 * (t283.length : Int)))))) = j_ := ⟨_, rfl⟩
       replace H : (some ji19) = some r := by first | (rw [hji19] at H; exact H) | (simp only [hji19] at H ⊢; exact H)
       (try rw [hji19] at A18)
       have hji19_ : (if (wrap64 (1 + (wrap64 (x5_1 * (t283.length : Int))))) < 1048577 then (wrap64 (1 + (wrap64 (x5_1 * (t283.length : Int))))) else 1048577) = ji19 := hji19
       obtain rfl := Option.some.inj H
       have hnb20 := NB279_280.out
       have hnc20 := NB280_279.out
       obtain ⟨_, _, _, _, _, _, _, _⟩ := hb4_ BK279
       obtain ⟨_, _, _, _, _, _, _, _, _, _, _, _⟩ := hb6_ BK280
       go_wp2_with (first | ((with_reducible refine gate_callee (f := 48) rfl ?_); refine gl_ (some 39) Tryd.func48 #[.agg #[.slice A0_0 l0_0.length c0_0, .slice A0_1 l0_1.length c0_1, .int .i64 a0_2], .string a1_1] ?_; (with_reducible refine (pentaglotref26_Individuals.calls kj12 (fun k_ => k_ < w.heap.size) _ _ l0_0 _ _ l0_1 a0_2 a1_1 t283 t286 _ ?side1 ?side2 ?side3 A18.out).mono ?_); (case side1 => exact Kd.V_mk HC0_0.out (Kd.F_below (Kd.C_F k73_heap HR0_0.out) (be2_ HB GE279 GE280))); (case side2 => exact cs_ (Kd.C_below HR0_1.out HB.out)); (case side3 => exact HC0_1.out); rintro e w23 ⟨v284, rfl, ho0, hb⟩; refine ⟨_, rfl, ?_⟩; have n0_ := mk_ (Kd.V_lower (Kd.V_mono (ok' := fun k_ => k_ ≠ gb279 ∧ k_ ≠ gb280) ho0 (fun k_ hk_ => ⟨Or.elim hk_ (fun hs_ => fun e_ => Nat.not_le.2 hs_ (by rw [e_]; exact GW279.out)) (fun hn_ => (Kd.freshB (g := gb279) (o := .cells #[.slice A0_0 l0_0.length c0_0, .slice A0_1 l0_1.length c0_1, .int .i64 a0_2, .slice A0_3 l0_3.length c0_3] 28 (0, 0)) (bq_ BK279) k_ hn_)), Or.elim hk_ (fun hs_ => fun e_ => Nat.not_le.2 hs_ (by rw [e_]; exact GW280.out)) (fun hn_ => (Kd.freshB (g := gb280) (o := .cells #[.int .i64 a1_0, .string a1_1, .slice A1_2 l1_2.length c1_2, .int .i64 a1_3, .int .i64 a1_4, .slice A1_5 l1_5.length c1_5] 32 (0, 0)) (bq_ BK280) k_ hn_))⟩)) (below_size (be2_ HB GE279 GE280))); have n1_ := mk_ (bb_ BK279 hb); have n2_ := mk_ (bb_ BK280 hb); have n3_ := mk_ (below_step (be2_ HB GE279 GE280) hb); clear BK279; clear BK280; clear HB; have HO285 := n0_; have BK279 := n1_; have BK280 := n2_; have HB := n3_; clear n0_ n1_ n2_ n3_; obtain ⟨Ao24, co24, eo24⟩ := Kd.V_slice HO285.out; subst eo24))
       go_ret
       exact ⟨by first | rfl | (simp [errW_none, errW_some] <;> rfl) | (simp only [← hji19]; first | rfl | (simp [errW_none, errW_some] <;> rfl)) | (simp [*, errW_none, errW_some] <;> rfl), be2_ HB GE279 GE280⟩
      ·replace c17 := Bool.eq_false_iff.mpr c17
       subst c17
       rw [if_neg nf_] at H
       by_cases c25 : a1_0 = 10
       ·rw [if_pos c25] at H
        obtain ⟨c25b0, c25b1⟩ := eb_ c25
        clear c25
        replace H := Option.bind_eq_some_iff.mp H
        obtain ⟨⟨t287, t290⟩, A260, H⟩ := H
        replace H : (some (mn 1048577 (wrap64 (1 + (wrap64 (x5_1 * (t287.length : Int))))))) = some r := H
        have A26 := mk_ A260
        clear A260
        obtain ⟨ji27, hji27⟩ : ∃ j_ : Int, (mn 1048577 (wrap64 (1 + (wrap64 (x5_1 * (t287.length : Int)))))) = j_ := ⟨_, rfl⟩
        replace H : (some ji27) = some r := by first | (rw [hji27] at H; exact H) | (simp only [hji27] at H ⊢; exact H)
        (try rw [hji27] at A26)
        have hji27_ : (if (wrap64 (1 + (wrap64 (x5_1 * (t287.length : Int))))) < 1048577 then (wrap64 (1 + (wrap64 (x5_1 * (t287.length : Int))))) else 1048577) = ji27 := hji27
        obtain rfl := Option.some.inj H
        have hnb28 := NB279_280.out
        have hnc28 := NB280_279.out
        obtain ⟨_, _, _, _, _, _, _, _⟩ := hb4_ BK279
        obtain ⟨_, _, _, _, _, _, _, _, _, _, _, _⟩ := hb6_ BK280
        go_wp2_with (first | ((with_reducible refine gate_callee (f := 23) rfl ?_); refine gl_ (some 53) Tryd.func23 #[.agg #[.slice A0_0 l0_0.length c0_0, .slice A0_1 l0_1.length c0_1, .int .i64 a0_2], .int .i64 a1_3, .int .i64 a1_4] ?_; (with_reducible refine (pentaglotref26_Interval.calls kj12 _ _ l0_0 _ _ l0_1 a0_2 a1_3 a1_4 t287 t290 _ ?side1 ?side2 ?side3 ?side4 A26.out).mono ?_); (case side1 => exact cs_ (Kd.C_below HR0_0.out HB.out)); (case side2 => exact HC0_0.out); (case side3 => exact cs_ (Kd.C_below HR0_1.out HB.out)); (case side4 => exact HC0_1.out); rintro e w31 ⟨v288, rfl, ho0, hb⟩; refine ⟨_, rfl, ?_⟩; have HO289 := mk_ (Kd.R_lower ho0 (below_size (be2_ HB GE279 GE280))); replace BK279 := mk_ (bb_ BK279 hb); replace BK280 := mk_ (bb_ BK280 hb); replace HB := mk_ (below_step (be2_ HB GE279 GE280) hb); obtain ⟨Ao32, co32, eo32⟩ := Kd.R_slice HO289.out; subst eo32))
        go_ret
        exact ⟨by first | rfl | (simp [errW_none, errW_some] <;> rfl) | (simp only [← hji27]; first | rfl | (simp [errW_none, errW_some] <;> rfl)) | (simp [*, errW_none, errW_some] <;> rfl), be2_ HB GE279 GE280⟩
       ·rw [if_neg c25] at H
        obtain ⟨c25b0, c25b1⟩ := en_ c25
        by_cases c33 : a1_0 = 11
        ·rw [if_pos c33] at H
         obtain ⟨c33b0, c33b1⟩ := eb_ c33
         clear c33
         obtain ⟨ji34, hji34⟩ : ∃ j_ : Int, (mn 1048577 (wrap64 (1 + (wrap64 (x5_1 * a0_2))))) = j_ := ⟨_, rfl⟩
         replace H : (some ji34) = some r := by first | (rw [hji34] at H; exact H) | (simp only [hji34] at H ⊢; exact H)
         have hji34_ : (if (wrap64 (1 + (wrap64 (x5_1 * a0_2)))) < 1048577 then (wrap64 (1 + (wrap64 (x5_1 * a0_2)))) else 1048577) = ji34 := hji34
         obtain rfl := Option.some.inj H
         have hnb35 := NB279_280.out
         have hnc35 := NB280_279.out
         obtain ⟨_, _, _, _, _, _, _, _⟩ := hb4_ BK279
         go_wp2
         go_ret
         exact ⟨by first | rfl | (simp [errW_none, errW_some] <;> rfl) | (simp only [← hji34]; first | rfl | (simp [errW_none, errW_some] <;> rfl)) | (simp [*, errW_none, errW_some] <;> rfl), be2_ HB GE279 GE280⟩
        ·rw [if_neg c33] at H
         obtain ⟨c33b0, c33b1⟩ := en_ c33
         by_cases c37 : a1_0 = 12
         ·rw [if_pos c37] at H
          obtain ⟨c37b0, c37b1⟩ := eb_ c37
          clear c37
          obtain ⟨ji38, hji38⟩ : ∃ j_ : Int, (mn 1048577 (wrap64 (1 + (wrap64 (x5_1 * a0_2))))) = j_ := ⟨_, rfl⟩
          replace H : (some ji38) = some r := by first | (rw [hji38] at H; exact H) | (simp only [hji38] at H ⊢; exact H)
          have hji38_ : (if (wrap64 (1 + (wrap64 (x5_1 * a0_2)))) < 1048577 then (wrap64 (1 + (wrap64 (x5_1 * a0_2)))) else 1048577) = ji38 := hji38
          obtain rfl := Option.some.inj H
          have hnb39 := NB279_280.out
          have hnc39 := NB280_279.out
          obtain ⟨_, _, _, _, _, _, _, _⟩ := hb4_ BK279
          go_wp2
          go_ret
          exact ⟨by first | rfl | (simp [errW_none, errW_some] <;> rfl) | (simp only [← hji38]; first | rfl | (simp [errW_none, errW_some] <;> rfl)) | (simp [*, errW_none, errW_some] <;> rfl), be2_ HB GE279 GE280⟩
         ·rw [if_neg c37] at H
          obtain ⟨c37b0, c37b1⟩ := en_ c37
          simp only [Int.mul_one] at H
          obtain ⟨ji41, hji41⟩ : ∃ j_ : Int, (mn 1048577 (wrap64 (1 + (wrap64 x5_1)))) = j_ := ⟨_, rfl⟩
          replace H : (some ji41) = some r := by first | (rw [hji41] at H; exact H) | (simp only [hji41] at H ⊢; exact H)
          have hji41_ : (if (wrap64 (1 + (wrap64 x5_1))) < 1048577 then (wrap64 (1 + (wrap64 x5_1))) else 1048577) = ji41 := hji41
          obtain rfl := Option.some.inj H
          go_wp2
          go_ret
          exact ⟨by first | rfl | (simp [errW_none, errW_some] <;> rfl) | (simp only [← hji41]; first | rfl | (simp [errW_none, errW_some] <;> rfl)) | (simp [*, errW_none, errW_some] <;> rfl), be2_ HB GE279 GE280⟩
mutual
def pentaglotref26_Light.l0 : Nat → Int → Int → List (S73) → List Int → Int → List (S62) → Int → ByteArray → List (S92) → Int → Int → List (S32) → Option (Bool)
 | 0, _, _, _, _, _, _, _, _, _, _, _, _ => none
 | k + 1, x5, x6, x292000, x292001, x292002, x292003, x293000, x293001, x293002, x293003, x293004, x293005 => if x6 < (x292000.length : Int) then (if 0 ≤ x6 then (pentaglotref26_Light.l0 k (wrap64 (x5 + (((rd_T73 x292000 x6).f1).length : Int))) (wrap64 (x6 + 1)) x292000 x292001 x292002 x292003 x293000 x293001 x293002 x293003 x293004 x293005) else (none)) else (if x5 > 12 then (pentaglotref26_Light.j1 k true x292000 x292001 x292002 x292003 x293000 x293001 x293002 x293003 x293004 x293005) else (if (x292000.length : Int) > 12 then (pentaglotref26_Light.j1 k true x292000 x292001 x292002 x292003 x293000 x293001 x293002 x293003 x293004 x293005) else (if (x292001.length : Int) > 4 then (pentaglotref26_Light.j1 k true x292000 x292001 x292002 x292003 x293000 x293001 x293002 x293003 x293004 x293005) else (if (x292003.length : Int) > 60 then (pentaglotref26_Light.j1 k true x292000 x292001 x292002 x292003 x293000 x293001 x293002 x293003 x293004 x293005) else ((pentaglotref22_Size.f k x293000 x293001 x293002 x293003 x293004 x293005).bind fun t294 => (pentaglotref26_Light.j1 k (decide (t294 > 300)) x292000 x292001 x292002 x292003 x293000 x293001 x293002 x293003 x293004 x293005))))))
def pentaglotref26_Light.j1 : Nat → Bool → List (S73) → List Int → Int → List (S62) → Int → ByteArray → List (S92) → Int → Int → List (S32) → Option (Bool)
 | 0, _, _, _, _, _, _, _, _, _, _, _ => none
 | k + 1, x52, x292000, x292001, x292002, x292003, x293000, x293001, x293002, x293003, x293004, x293005 => if x52 = true then (some false) else ((pentaglotref26_Fits.f k x292000 x292001 x292002 x292003 x293000 x293001 x293002 x293003 x293004 x293005).bind fun t295 => (if t295 = true then ((pentaglotref26_Work.f k x292000 x292001 x292002 x292003 x293000 x293001 x293002 x293003 x293004 x293005).bind fun t296 => (if t296 ≤ 5000 then (some true) else (some (decide (t296 > 1048576))))) else (some true)))
end
def pentaglotref26_Light.f (k : Nat) (l0_0 : List (S73)) (l0_1 : List Int) (a0_2 : Int) (l0_3 : List (S62)) (a1_0 : Int) (a1_1 : ByteArray) (l1_2 : List (S92)) (a1_3 : Int) (a1_4 : Int) (l1_5 : List (S32)) : Option (Bool) := pentaglotref26_Light.l0 k 0 0 l0_0 l0_1 a0_2 l0_3 a1_0 a1_1 l1_2 a1_3 a1_4 l1_5
theorem pentaglotref26_Light.calls (k : Nat) (A0_0 : Option Addr) (c0_0 : Nat) (l0_0 : List (S73)) (A0_1 : Option Addr) (c0_1 : Nat) (l0_1 : List Int) (a0_2 : Int) (A0_3 : Option Addr) (c0_3 : Nat) (l0_3 : List (S62)) (a1_0 : Int) (a1_1 : ByteArray) (A1_2 : Option Addr) (c1_2 : Nat) (l1_2 : List (S92)) (a1_3 : Int) (a1_4 : Int) (A1_5 : Option Addr) (c1_5 : Nat) (l1_5 : List (S32)) (r : Bool) (w : World) (hr0_0 : Kd.C k73 w A0_0 l0_0.length l0_0) (hc0_0 : l0_0.length ≤ c0_0) (hr0_1 : Kd.C (Kd.int .i64) w A0_1 l0_1.length l0_1) (hc0_1 : l0_1.length ≤ c0_1) (hr0_3 : Kd.C k62 w A0_3 l0_3.length l0_3) (hc0_3 : l0_3.length ≤ c0_3) (hr1_2 : Kd.C k92 w A1_2 l1_2.length l1_2) (hc1_2 : l1_2.length ≤ c1_2) (hr1_5 : Kd.C k32 w A1_5 l1_5.length l1_5) (hc1_5 : l1_5.length ≤ c1_5) (h : pentaglotref26_Light.f k l0_0 l0_1 a0_2 l0_3 a1_0 a1_1 l1_2 a1_3 a1_4 l1_5 = some r) :
  Calls Tryd.prog 13 #[.agg #[.slice A0_0 l0_0.length c0_0, .slice A0_1 l0_1.length c0_1, .int .i64 a0_2, .slice A0_3 l0_3.length c0_3], .agg #[.int .i64 a1_0, .string a1_1, .slice A1_2 l1_2.length c1_2, .int .i64 a1_3, .int .i64 a1_4, .slice A1_5 l1_5.length c1_5]] w fun e w' => e = .returned (.bool r) ∧ Below w.heap.size w w' := by
 have hu28 := Tryd.underlying28
 have hu32 := Tryd.underlying32
 have HR0_0 := mk_ hr0_0; have HC0_0 := mk_ hc0_0; clear hr0_0 hc0_0
 have HR0_1 := mk_ hr0_1; have HC0_1 := mk_ hc0_1; clear hr0_1 hc0_1
 have HR0_3 := mk_ hr0_3; have HC0_3 := mk_ hc0_3; clear hr0_3 hc0_3
 have HR1_2 := mk_ hr1_2; have HC1_2 := mk_ hc1_2; clear hr1_2 hc1_2
 have HR1_5 := mk_ hr1_5; have HC1_5 := mk_ hc1_5; clear hr1_5 hc1_5
 have HB := mk_ (Below.refl w.heap.size w)
 have H : (pentaglotref26_Light.l0 k 0 0 l0_0 l0_1 a0_2 l0_3 a1_0 a1_1 l1_2 a1_3 a1_4 l1_5) = some r := h
 clear h
 have H' := mk_ H
 clear H
 go_enter Tryd.func13, Tryd.ntmps13
 go_wp2_with (first | ((with_reducible refine gate_dst (N := 2) rfl ?_); (try (refine gate_guard (by rfl) ?_; dsimp only)); refine bx_ 2 #[.slice A0_0 l0_0.length c0_0, .slice A0_1 l0_1.length c0_1, .int .i64 a0_2, .slice A0_3 l0_3.length c0_3] 28 ?_; intro gb291 hg w3 hbox hb; have BK291 := mk_ (hbox); have GW291 := mk_ (gs_ hg (be_ HB)); have GE291 := mk_ (gs_ hg (be_ HB)); replace HB := mk_ (below_step (be_ HB) hb); clear hb hbox hg) | ((with_reducible refine gate_dst (N := 3) rfl ?_); (try (refine gate_guard (by rfl) ?_; dsimp only)); refine bx_ 3 #[.int .i64 a1_0, .string a1_1, .slice A1_2 l1_2.length c1_2, .int .i64 a1_3, .int .i64 a1_4, .slice A1_5 l1_5.length c1_5] 32 ?_; intro gb292 hg w4 hbox hb; have n0_ := mk_ (bb_ BK291 hb); have n1_ := mk_ (below_step (be1_ HB GE291) hb); have n2_ := mk_ (hbox); have n3_ := mk_ (gs_ hg (be1_ HB GE291)); have n4_ := mk_ (gs_ hg (be1_ HB GE291)); have n5_ := mk_ ((by rw [hg]; exact Nat.ne_of_lt (blk_lt (g := gb291) (o := .cells #[.slice A0_0 l0_0.length c0_0, .slice A0_1 l0_1.length c0_1, .int .i64 a0_2, .slice A0_3 l0_3.length c0_3] 28 (0, 0)) (bq_ BK291)) : gb291 ≠ gb292)); have n6_ := mk_ ((by rw [hg]; exact Nat.ne_of_gt (blk_lt (g := gb291) (o := .cells #[.slice A0_0 l0_0.length c0_0, .slice A0_1 l0_1.length c0_1, .int .i64 a0_2, .slice A0_3 l0_3.length c0_3] 28 (0, 0)) (bq_ BK291)) : gb292 ≠ gb291)); clear BK291; clear HB; have BK291 := n0_; have HB := n1_; have BK292 := n2_; have GW292 := n3_; have GE292 := n4_; have NB291_292 := n5_; have NB292_291 := n6_; clear n0_ n1_ n2_ n3_ n4_ n5_ n6_; clear hb hbox hg))
 go_loopg [5, 6] k (fun kq v5 v6 w' => ∃ (x5_1 : Int) (x6_1 : Int), v5 = .int .i64 x5_1 ∧ v6 = .int .i64 x6_1 ∧ Aside0 (pentaglotref26_Light.l0 kq x5_1 x6_1 l0_0 l0_1 a0_2 l0_3 a1_0 a1_1 l1_2 a1_3 a1_4 l1_5 = some r) ∧ Aside0 (kq ≤ k) ∧ Aside0 (w'.heap[gb291]? = some (.cells #[(.slice A0_0 l0_0.length c0_0), (.slice A0_1 l0_1.length c0_1), .int .i64 a0_2, (.slice A0_3 l0_3.length c0_3)] 28 (0, 0))) ∧ Aside0 (w'.heap[gb292]? = some (.cells #[.int .i64 a1_0, .string a1_1, (.slice A1_2 l1_2.length c1_2), .int .i64 a1_3, .int .i64 a1_4, (.slice A1_5 l1_5.length c1_5)] 32 (0, 0))) ∧ Aside0 (Below w.heap.size w w'))
 case atStart => exact ⟨(0), (0), fi_, fi_, H', ⟨Nat.le_refl _⟩, ⟨bq_ BK291⟩, ⟨bq_ BK292⟩, ⟨be2_ HB GE291 GE292⟩⟩
 case round =>
  clear H'
  obtain ⟨x5_1, x6_1, rfl, rfl, HA, HK1, BK291, BK292, HB⟩ := hrel
  cases gk with
  | zero => exact absurd HA.out (by simp [pentaglotref26_Light.l0])
  | succ k1 =>
   have H := HA.out
   clear HA
   simp only [pentaglotref26_Light.l0] at H
   by_cases c5 : x6_1 < (l0_0.length : Int)
   ·rw [if_pos c5] at H
    have c5b0 : decide (x6_1 < (l0_0.length : Int)) = true := decide_eq_true c5
    clear c5
    by_cases c6 : 0 ≤ x6_1
    ·rw [if_pos c6] at H
     have c6b0 : decide (0 ≤ x6_1) = true := decide_eq_true c6
     clear c6
     have H' := mk_ H
     clear H
     have hnb7 := NB291_292.out
     have hnc7 := NB292_291.out
     obtain ⟨_, _, _, _, _, _, _, _⟩ := hb4_ BK291
     have p293 : 0 ≤ (x6_1 : Int) := of_decide_eq_true (by first | (with_reducible assumption) | assumption)
     have q293 : x6_1 < (l0_0.length : Int) := of_decide_eq_true (by first | (with_reducible assumption) | assumption)
     obtain ⟨ad293, A293_1, c293_1, e293, hx293_0, hx293_1, hl293_1, hi293_1⟩ := at_T73 HR0_0.out x6_1 p293 q293
     cases e293
     replace hx293_0 := cb_ HB hx293_0
     replace hx293_1 := cb_ HB hx293_1
     have HR293_1 := mk_ hi293_1; have HC293_1 := mk_ hl293_1; clear hi293_1 hl293_1
     replace p293 := eq_true p293
     replace q293 := eq_true q293
     go_wp2
     go_roundg k1
     case measure => have := HK1.out; omega
     case rel => exact ⟨(wrap64 (x5_1 + (((rd_T73 l0_0 x6_1).f1).length : Int))), (wrap64 (x6_1 + 1)), fi_, fi_, H', ⟨by have := HK1.out; omega⟩, ⟨bq_ BK291⟩, ⟨bq_ BK292⟩, ⟨be2_ HB GE291 GE292⟩⟩
    ·rw [if_neg c6] at H
     exact absurd H (by simp)
   ·rw [if_neg c5] at H
    have c5b0 : decide (x6_1 < (l0_0.length : Int)) = false := decide_eq_false c5
    clear c5
    have HC9 := mk_ H
    clear H
    have hnb10 := NB291_292.out
    have hnc10 := NB292_291.out
    obtain ⟨_, _, _, _, _, _, _, _⟩ := hb4_ BK291
    go_upto_region 6 with (fail)
    go_cut [52] (fun v52 wc => ∃ (kq : Nat) (x52_8 : Bool), v52 = .bool x52_8 ∧ Aside0 (pentaglotref26_Light.j1 kq x52_8 l0_0 l0_1 a0_2 l0_3 a1_0 a1_1 l1_2 a1_3 a1_4 l1_5 = some r) ∧ Aside0 (kq ≤ k1) ∧ Aside0 (wc.heap[gb291]? = some (.cells #[(.slice A0_0 l0_0.length c0_0), (.slice A0_1 l0_1.length c0_1), .int .i64 a0_2, (.slice A0_3 l0_3.length c0_3)] 28 (0, 0))) ∧ Aside0 (wc.heap[gb292]? = some (.cells #[.int .i64 a1_0, .string a1_1, (.slice A1_2 l1_2.length c1_2), .int .i64 a1_3, .int .i64 a1_4, (.slice A1_5 l1_5.length c1_5)] 32 (0, 0))) ∧ Aside0 (Below w.heap.size w wc))
    case first =>
     have H := HC9.out
     clear HC9
     by_cases c12 : x5_1 > 12
     ·rw [if_pos c12] at H
      have c12b0 : decide (12 < x5_1) = true := decide_eq_true c12
      clear c12
      (first | rw [c12b0] | (simp only [i64_w, i32_w]; rw [c12b0]) | skip)
      have H' := mk_ H
      clear H
      go_wp2
      go_meet
      case rel => exact ⟨_, (true), fi_, H', ⟨by have := HK1.out; first | omega | exact Nat.le_refl _⟩, ⟨bq_ BK291⟩, ⟨bq_ BK292⟩, ⟨be2_ HB GE291 GE292⟩⟩
     ·rw [if_neg c12] at H
      have c12b0 : decide (12 < x5_1) = false := decide_eq_false c12
      clear c12
      (first | rw [c12b0] | (simp only [i64_w, i32_w]; rw [c12b0]) | skip)
      by_cases c13 : (l0_0.length : Int) > 12
      ·rw [if_pos c13] at H
       have c13b0 : decide (12 < (l0_0.length : Int)) = true := decide_eq_true c13
       have c13b1 : decide (12 < l0_0.length) = true := decide_eq_true (by omega)
       clear c13
       have H' := mk_ H
       clear H
       have hnb14 := NB291_292.out
       have hnc14 := NB292_291.out
       obtain ⟨_, _, _, _, _, _, _, _⟩ := hb4_ BK291
       go_wp2
       go_meet
       case rel => exact ⟨_, (true), fi_, H', ⟨by have := HK1.out; first | omega | exact Nat.le_refl _⟩, ⟨bq_ BK291⟩, ⟨bq_ BK292⟩, ⟨be2_ HB GE291 GE292⟩⟩
      ·rw [if_neg c13] at H
       have c13b0 : decide (12 < (l0_0.length : Int)) = false := decide_eq_false c13
       have c13b1 : decide (12 < l0_0.length) = false := decide_eq_false (by omega)
       clear c13
       by_cases c16 : (l0_1.length : Int) > 4
       ·rw [if_pos c16] at H
        have c16b0 : decide (4 < (l0_1.length : Int)) = true := decide_eq_true c16
        have c16b1 : decide (4 < l0_1.length) = true := decide_eq_true (by omega)
        clear c16
        have H' := mk_ H
        clear H
        have hnb17 := NB291_292.out
        have hnc17 := NB292_291.out
        obtain ⟨_, _, _, _, _, _, _, _⟩ := hb4_ BK291
        go_wp2
        go_meet
        case rel => exact ⟨_, (true), fi_, H', ⟨by have := HK1.out; first | omega | exact Nat.le_refl _⟩, ⟨bq_ BK291⟩, ⟨bq_ BK292⟩, ⟨be2_ HB GE291 GE292⟩⟩
       ·rw [if_neg c16] at H
        have c16b0 : decide (4 < (l0_1.length : Int)) = false := decide_eq_false c16
        have c16b1 : decide (4 < l0_1.length) = false := decide_eq_false (by omega)
        clear c16
        by_cases c19 : (l0_3.length : Int) > 60
        ·rw [if_pos c19] at H
         have c19b0 : decide (60 < (l0_3.length : Int)) = true := decide_eq_true c19
         have c19b1 : decide (60 < l0_3.length) = true := decide_eq_true (by omega)
         clear c19
         have H' := mk_ H
         clear H
         have hnb20 := NB291_292.out
         have hnc20 := NB292_291.out
         obtain ⟨_, _, _, _, _, _, _, _⟩ := hb4_ BK291
         go_wp2
         go_meet
         case rel => exact ⟨_, (true), fi_, H', ⟨by have := HK1.out; first | omega | exact Nat.le_refl _⟩, ⟨bq_ BK291⟩, ⟨bq_ BK292⟩, ⟨be2_ HB GE291 GE292⟩⟩
        ·rw [if_neg c19] at H
         have c19b0 : decide (60 < (l0_3.length : Int)) = false := decide_eq_false c19
         have c19b1 : decide (60 < l0_3.length) = false := decide_eq_false (by omega)
         clear c19
         replace H := Option.bind_eq_some_iff.mp H
         obtain ⟨t294, A220, H⟩ := H
         replace H : (pentaglotref26_Light.j1 k1 (decide (t294 > 300)) l0_0 l0_1 a0_2 l0_3 a1_0 a1_1 l1_2 a1_3 a1_4 l1_5) = some r := H
         have A22 := mk_ A220
         clear A220
         have H' := mk_ H
         clear H
         have hnb23 := NB291_292.out
         have hnc23 := NB292_291.out
         obtain ⟨_, _, _, _, _, _, _, _⟩ := hb4_ BK291
         obtain ⟨_, _, _, _, _, _, _, _, _, _, _, _⟩ := hb6_ BK292
         go_wp2_with (first | (go_at_call 35; (with_reducible refine (pentaglotref22_Size.calls k1 a1_0 a1_1 _ _ l1_2 a1_3 a1_4 _ _ l1_5 t294 _ ?side1 ?side2 ?side3 ?side4 A22.out).mono ?_); (case side1 => exact cs_ (Kd.C_below HR1_2.out HB.out)); (case side2 => exact HC1_2.out); (case side3 => exact cs_ (Kd.C_below HR1_5.out HB.out)); (case side4 => exact HC1_5.out); rintro e w26 ⟨rfl, hb⟩; replace BK291 := mk_ (bb_ BK291 hb); replace BK292 := mk_ (bb_ BK292 hb); replace HB := mk_ (below_step (be2_ HB GE291 GE292) hb)))
         go_meet
         case rel => exact ⟨_, (decide (t294 > 300)), fi_, H', ⟨by have := HK1.out; first | omega | exact Nat.le_refl _⟩, ⟨bq_ BK291⟩, ⟨bq_ BK292⟩, ⟨be2_ HB GE291 GE292⟩⟩
    case rest =>
     clear HC9
     obtain ⟨kq, x52_8, rfl, HA, HJ8, BK291, BK292, HB⟩ := hcut
     cases kq with
     | zero => exact absurd HA.out (by simp [pentaglotref26_Light.j1])
     | succ kj8 =>
      have H := HA.out
      clear HA
      simp only [pentaglotref26_Light.j1] at H
      by_cases c27 : x52_8 = true
      ·subst c27
       rw [if_pos rfl] at H
       obtain rfl := Option.some.inj H
       go_wp2
       go_ret
       exact ⟨er_, be2_ HB GE291 GE292⟩
      ·replace c27 := Bool.eq_false_iff.mpr c27
       subst c27
       rw [if_neg nf_] at H
       replace H := Option.bind_eq_some_iff.mp H
       obtain ⟨t295, A280, H⟩ := H
       replace H : (if t295 = true then ((pentaglotref26_Work.f kj8 l0_0 l0_1 a0_2 l0_3 a1_0 a1_1 l1_2 a1_3 a1_4 l1_5).bind fun t296 => (if t296 ≤ 5000 then (some true) else (some (decide (t296 > 1048576))))) else (some true)) = some r := H
       have A28 := mk_ A280
       clear A280
       by_cases c29 : t295 = true
       ·subst c29
        rw [if_pos rfl] at H
        replace H := Option.bind_eq_some_iff.mp H
        obtain ⟨t296, A300, H⟩ := H
        replace H : (if t296 ≤ 5000 then (some true) else (some (decide (t296 > 1048576)))) = some r := H
        have A30 := mk_ A300
        clear A300
        by_cases c31 : t296 ≤ 5000
        ·rw [if_pos c31] at H
         have c31b0 : decide (t296 ≤ 5000) = true := decide_eq_true c31
         clear c31
         obtain rfl := Option.some.inj H
         have hnb32 := NB291_292.out
         have hnc32 := NB292_291.out
         obtain ⟨_, _, _, _, _, _, _, _⟩ := hb4_ BK291
         obtain ⟨_, _, _, _, _, _, _, _, _, _, _, _⟩ := hb6_ BK292
         go_wp2_with (first | ((with_reducible refine gate_callee (f := 36) rfl ?_); refine gl_ (some 55) Tryd.func36 #[.agg #[.slice A0_0 l0_0.length c0_0, .slice A0_1 l0_1.length c0_1, .int .i64 a0_2, .slice A0_3 l0_3.length c0_3], .agg #[.int .i64 a1_0, .string a1_1, .slice A1_2 l1_2.length c1_2, .int .i64 a1_3, .int .i64 a1_4, .slice A1_5 l1_5.length c1_5]] ?_; (with_reducible refine (pentaglotref26_Fits.calls kj8 _ _ l0_0 _ _ l0_1 a0_2 _ _ l0_3 a1_0 a1_1 _ _ l1_2 a1_3 a1_4 _ _ l1_5 true _ ?side1 ?side2 ?side3 ?side4 ?side5 ?side6 ?side7 ?side8 ?side9 ?side10 A28.out).mono ?_); (case side1 => exact cs_ (Kd.C_below HR0_0.out HB.out)); (case side2 => exact HC0_0.out); (case side3 => exact cs_ (Kd.C_below HR0_1.out HB.out)); (case side4 => exact HC0_1.out); (case side5 => exact cs_ (Kd.C_below HR0_3.out HB.out)); (case side6 => exact HC0_3.out); (case side7 => exact cs_ (Kd.C_below HR1_2.out HB.out)); (case side8 => exact HC1_2.out); (case side9 => exact cs_ (Kd.C_below HR1_5.out HB.out)); (case side10 => exact HC1_5.out); rintro e w35 ⟨rfl, hb⟩; refine ⟨_, rfl, ?_⟩; replace BK291 := mk_ (bb_ BK291 hb); replace BK292 := mk_ (bb_ BK292 hb); replace HB := mk_ (below_step (be2_ HB GE291 GE292) hb); obtain ⟨_, _, _, _, _, _, _, _⟩ := hb4_ BK291; obtain ⟨_, _, _, _, _, _, _, _, _, _, _, _⟩ := hb6_ BK292) | ((with_reducible refine gate_callee (f := 37) rfl ?_); refine gl_ (some 59) Tryd.func37 #[.agg #[.slice A0_0 l0_0.length c0_0, .slice A0_1 l0_1.length c0_1, .int .i64 a0_2, .slice A0_3 l0_3.length c0_3], .agg #[.int .i64 a1_0, .string a1_1, .slice A1_2 l1_2.length c1_2, .int .i64 a1_3, .int .i64 a1_4, .slice A1_5 l1_5.length c1_5]] ?_; (with_reducible refine (pentaglotref26_Work.calls kj8 _ _ l0_0 _ _ l0_1 a0_2 _ _ l0_3 a1_0 a1_1 _ _ l1_2 a1_3 a1_4 _ _ l1_5 t296 _ ?side1 ?side2 ?side3 ?side4 ?side5 ?side6 ?side7 ?side8 ?side9 ?side10 A30.out).mono ?_); (case side1 => exact cs_ (Kd.C_below HR0_0.out HB.out)); (case side2 => exact HC0_0.out); (case side3 => exact cs_ (Kd.C_below HR0_1.out HB.out)); (case side4 => exact HC0_1.out); (case side5 => exact cs_ (Kd.C_below HR0_3.out HB.out)); (case side6 => exact HC0_3.out); (case side7 => exact cs_ (Kd.C_below HR1_2.out HB.out)); (case side8 => exact HC1_2.out); (case side9 => exact cs_ (Kd.C_below HR1_5.out HB.out)); (case side10 => exact HC1_5.out); rintro e w38 ⟨rfl, hb⟩; refine ⟨_, rfl, ?_⟩; replace BK291 := mk_ (bb_ BK291 hb); replace BK292 := mk_ (bb_ BK292 hb); replace HB := mk_ (below_step (be2_ HB GE291 GE292) hb)))
         go_ret
         exact ⟨er_, be2_ HB GE291 GE292⟩
        ·rw [if_neg c31] at H
         have c31b0 : decide (t296 ≤ 5000) = false := decide_eq_false c31
         clear c31
         obtain rfl := Option.some.inj H
         have hnb39 := NB291_292.out
         have hnc39 := NB292_291.out
         obtain ⟨_, _, _, _, _, _, _, _⟩ := hb4_ BK291
         obtain ⟨_, _, _, _, _, _, _, _, _, _, _, _⟩ := hb6_ BK292
         go_wp2_with (first | ((with_reducible refine gate_callee (f := 36) rfl ?_); refine gl_ (some 55) Tryd.func36 #[.agg #[.slice A0_0 l0_0.length c0_0, .slice A0_1 l0_1.length c0_1, .int .i64 a0_2, .slice A0_3 l0_3.length c0_3], .agg #[.int .i64 a1_0, .string a1_1, .slice A1_2 l1_2.length c1_2, .int .i64 a1_3, .int .i64 a1_4, .slice A1_5 l1_5.length c1_5]] ?_; (with_reducible refine (pentaglotref26_Fits.calls kj8 _ _ l0_0 _ _ l0_1 a0_2 _ _ l0_3 a1_0 a1_1 _ _ l1_2 a1_3 a1_4 _ _ l1_5 true _ ?side1 ?side2 ?side3 ?side4 ?side5 ?side6 ?side7 ?side8 ?side9 ?side10 A28.out).mono ?_); (case side1 => exact cs_ (Kd.C_below HR0_0.out HB.out)); (case side2 => exact HC0_0.out); (case side3 => exact cs_ (Kd.C_below HR0_1.out HB.out)); (case side4 => exact HC0_1.out); (case side5 => exact cs_ (Kd.C_below HR0_3.out HB.out)); (case side6 => exact HC0_3.out); (case side7 => exact cs_ (Kd.C_below HR1_2.out HB.out)); (case side8 => exact HC1_2.out); (case side9 => exact cs_ (Kd.C_below HR1_5.out HB.out)); (case side10 => exact HC1_5.out); rintro e w42 ⟨rfl, hb⟩; refine ⟨_, rfl, ?_⟩; replace BK291 := mk_ (bb_ BK291 hb); replace BK292 := mk_ (bb_ BK292 hb); replace HB := mk_ (below_step (be2_ HB GE291 GE292) hb); obtain ⟨_, _, _, _, _, _, _, _⟩ := hb4_ BK291; obtain ⟨_, _, _, _, _, _, _, _, _, _, _, _⟩ := hb6_ BK292) | ((with_reducible refine gate_callee (f := 37) rfl ?_); refine gl_ (some 59) Tryd.func37 #[.agg #[.slice A0_0 l0_0.length c0_0, .slice A0_1 l0_1.length c0_1, .int .i64 a0_2, .slice A0_3 l0_3.length c0_3], .agg #[.int .i64 a1_0, .string a1_1, .slice A1_2 l1_2.length c1_2, .int .i64 a1_3, .int .i64 a1_4, .slice A1_5 l1_5.length c1_5]] ?_; (with_reducible refine (pentaglotref26_Work.calls kj8 _ _ l0_0 _ _ l0_1 a0_2 _ _ l0_3 a1_0 a1_1 _ _ l1_2 a1_3 a1_4 _ _ l1_5 t296 _ ?side1 ?side2 ?side3 ?side4 ?side5 ?side6 ?side7 ?side8 ?side9 ?side10 A30.out).mono ?_); (case side1 => exact cs_ (Kd.C_below HR0_0.out HB.out)); (case side2 => exact HC0_0.out); (case side3 => exact cs_ (Kd.C_below HR0_1.out HB.out)); (case side4 => exact HC0_1.out); (case side5 => exact cs_ (Kd.C_below HR0_3.out HB.out)); (case side6 => exact HC0_3.out); (case side7 => exact cs_ (Kd.C_below HR1_2.out HB.out)); (case side8 => exact HC1_2.out); (case side9 => exact cs_ (Kd.C_below HR1_5.out HB.out)); (case side10 => exact HC1_5.out); rintro e w45 ⟨rfl, hb⟩; refine ⟨_, rfl, ?_⟩; replace BK291 := mk_ (bb_ BK291 hb); replace BK292 := mk_ (bb_ BK292 hb); replace HB := mk_ (below_step (be2_ HB GE291 GE292) hb)))
         go_ret
         exact ⟨er_, be2_ HB GE291 GE292⟩
       ·replace c29 := Bool.eq_false_iff.mpr c29
        subst c29
        rw [if_neg nf_] at H
        obtain rfl := Option.some.inj H
        have hnb46 := NB291_292.out
        have hnc46 := NB292_291.out
        obtain ⟨_, _, _, _, _, _, _, _⟩ := hb4_ BK291
        obtain ⟨_, _, _, _, _, _, _, _, _, _, _, _⟩ := hb6_ BK292
        go_wp2_with (first | ((with_reducible refine gate_callee (f := 36) rfl ?_); refine gl_ (some 55) Tryd.func36 #[.agg #[.slice A0_0 l0_0.length c0_0, .slice A0_1 l0_1.length c0_1, .int .i64 a0_2, .slice A0_3 l0_3.length c0_3], .agg #[.int .i64 a1_0, .string a1_1, .slice A1_2 l1_2.length c1_2, .int .i64 a1_3, .int .i64 a1_4, .slice A1_5 l1_5.length c1_5]] ?_; (with_reducible refine (pentaglotref26_Fits.calls kj8 _ _ l0_0 _ _ l0_1 a0_2 _ _ l0_3 a1_0 a1_1 _ _ l1_2 a1_3 a1_4 _ _ l1_5 false _ ?side1 ?side2 ?side3 ?side4 ?side5 ?side6 ?side7 ?side8 ?side9 ?side10 A28.out).mono ?_); (case side1 => exact cs_ (Kd.C_below HR0_0.out HB.out)); (case side2 => exact HC0_0.out); (case side3 => exact cs_ (Kd.C_below HR0_1.out HB.out)); (case side4 => exact HC0_1.out); (case side5 => exact cs_ (Kd.C_below HR0_3.out HB.out)); (case side6 => exact HC0_3.out); (case side7 => exact cs_ (Kd.C_below HR1_2.out HB.out)); (case side8 => exact HC1_2.out); (case side9 => exact cs_ (Kd.C_below HR1_5.out HB.out)); (case side10 => exact HC1_5.out); rintro e w49 ⟨rfl, hb⟩; refine ⟨_, rfl, ?_⟩; replace BK291 := mk_ (bb_ BK291 hb); replace BK292 := mk_ (bb_ BK292 hb); replace HB := mk_ (below_step (be2_ HB GE291 GE292) hb)))
        go_ret
        exact ⟨er_, be2_ HB GE291 GE292⟩
def pentaglotref26_Error.f (k : Nat) (l0_0 : List (S73)) (l0_1 : List Int) (a0_2 : Int) (l0_3 : List (S62)) (a1_0 : Int) (a1_1 : ByteArray) (l1_2 : List (S92)) (a1_3 : Int) (a1_4 : Int) (l1_5 : List (S32)) : Option (Int) := (pentaglotref26_Fits.f k l0_0 l0_1 a0_2 l0_3 a1_0 a1_1 l1_2 a1_3 a1_4 l1_5).bind fun t299 => (if t299 = true then ((pentaglotref26_Work.f k l0_0 l0_1 a0_2 l0_3 a1_0 a1_1 l1_2 a1_3 a1_4 l1_5).bind fun t300 => (if t300 > 1048576 then (some 2) else (some 0))) else (some 1))
theorem pentaglotref26_Error.calls (k : Nat) (A0_0 : Option Addr) (c0_0 : Nat) (l0_0 : List (S73)) (A0_1 : Option Addr) (c0_1 : Nat) (l0_1 : List Int) (a0_2 : Int) (A0_3 : Option Addr) (c0_3 : Nat) (l0_3 : List (S62)) (a1_0 : Int) (a1_1 : ByteArray) (A1_2 : Option Addr) (c1_2 : Nat) (l1_2 : List (S92)) (a1_3 : Int) (a1_4 : Int) (A1_5 : Option Addr) (c1_5 : Nat) (l1_5 : List (S32)) (r : Int) (w : World) (hr0_0 : Kd.C k73 w A0_0 l0_0.length l0_0) (hc0_0 : l0_0.length ≤ c0_0) (hr0_1 : Kd.C (Kd.int .i64) w A0_1 l0_1.length l0_1) (hc0_1 : l0_1.length ≤ c0_1) (hr0_3 : Kd.C k62 w A0_3 l0_3.length l0_3) (hc0_3 : l0_3.length ≤ c0_3) (hr1_2 : Kd.C k92 w A1_2 l1_2.length l1_2) (hc1_2 : l1_2.length ≤ c1_2) (hr1_5 : Kd.C k32 w A1_5 l1_5.length l1_5) (hc1_5 : l1_5.length ≤ c1_5) (h : pentaglotref26_Error.f k l0_0 l0_1 a0_2 l0_3 a1_0 a1_1 l1_2 a1_3 a1_4 l1_5 = some r) :
  Calls Tryd.prog 15 #[.agg #[.slice A0_0 l0_0.length c0_0, .slice A0_1 l0_1.length c0_1, .int .i64 a0_2, .slice A0_3 l0_3.length c0_3], .agg #[.int .i64 a1_0, .string a1_1, .slice A1_2 l1_2.length c1_2, .int .i64 a1_3, .int .i64 a1_4, .slice A1_5 l1_5.length c1_5]] w fun e w' => e = .returned (.int .i64 r) ∧ Below w.heap.size w w' := by
 have hu28 := Tryd.underlying28
 have hu32 := Tryd.underlying32
 have HR0_0 := mk_ hr0_0; have HC0_0 := mk_ hc0_0; clear hr0_0 hc0_0
 have HR0_1 := mk_ hr0_1; have HC0_1 := mk_ hc0_1; clear hr0_1 hc0_1
 have HR0_3 := mk_ hr0_3; have HC0_3 := mk_ hc0_3; clear hr0_3 hc0_3
 have HR1_2 := mk_ hr1_2; have HC1_2 := mk_ hc1_2; clear hr1_2 hc1_2
 have HR1_5 := mk_ hr1_5; have HC1_5 := mk_ hc1_5; clear hr1_5 hc1_5
 have HB := mk_ (Below.refl w.heap.size w)
 have H : ((pentaglotref26_Fits.f k l0_0 l0_1 a0_2 l0_3 a1_0 a1_1 l1_2 a1_3 a1_4 l1_5).bind fun t299 => (if t299 = true then ((pentaglotref26_Work.f k l0_0 l0_1 a0_2 l0_3 a1_0 a1_1 l1_2 a1_3 a1_4 l1_5).bind fun t300 => (if t300 > 1048576 then (some 2) else (some 0))) else (some 1))) = some r := h
 clear h
 replace H := Option.bind_eq_some_iff.mp H
 obtain ⟨t299, A30, H⟩ := H
 replace H : (if t299 = true then ((pentaglotref26_Work.f k l0_0 l0_1 a0_2 l0_3 a1_0 a1_1 l1_2 a1_3 a1_4 l1_5).bind fun t300 => (if t300 > 1048576 then (some 2) else (some 0))) else (some 1)) = some r := H
 have A3 := mk_ A30
 clear A30
 by_cases c4 : t299 = true
 ·subst c4
  rw [if_pos rfl] at H
  replace H := Option.bind_eq_some_iff.mp H
  obtain ⟨t300, A50, H⟩ := H
  replace H : (if t300 > 1048576 then (some 2) else (some 0)) = some r := H
  have A5 := mk_ A50
  clear A50
  by_cases c6 : t300 > 1048576
  ·rw [if_pos c6] at H
   have c6b0 : decide (1048576 < t300) = true := decide_eq_true c6
   clear c6
   obtain rfl := Option.some.inj H
   go_enter Tryd.func15, Tryd.ntmps15
   go_wp2_with (first | ((with_reducible refine gate_dst (N := 2) rfl ?_); refine bx_ 2 #[.slice A0_0 l0_0.length c0_0, .slice A0_1 l0_1.length c0_1, .int .i64 a0_2, .slice A0_3 l0_3.length c0_3] 28 ?_; intro gb297 hg w7 hbox hb; have BK297 := mk_ (hbox); have GW297 := mk_ (gs_ hg (be_ HB)); have GE297 := mk_ (gs_ hg (be_ HB)); replace HB := mk_ (below_step (be_ HB) hb); clear hb hbox hg) | ((with_reducible refine gate_dst (N := 3) rfl ?_); refine bx_ 3 #[.int .i64 a1_0, .string a1_1, .slice A1_2 l1_2.length c1_2, .int .i64 a1_3, .int .i64 a1_4, .slice A1_5 l1_5.length c1_5] 32 ?_; intro gb298 hg w8 hbox hb; have n0_ := mk_ (bb_ BK297 hb); have n1_ := mk_ (below_step (be1_ HB GE297) hb); have n2_ := mk_ (hbox); have n3_ := mk_ (gs_ hg (be1_ HB GE297)); have n4_ := mk_ (gs_ hg (be1_ HB GE297)); have n5_ := mk_ ((by rw [hg]; exact Nat.ne_of_lt (blk_lt (g := gb297) (o := .cells #[.slice A0_0 l0_0.length c0_0, .slice A0_1 l0_1.length c0_1, .int .i64 a0_2, .slice A0_3 l0_3.length c0_3] 28 (0, 0)) (bq_ BK297)) : gb297 ≠ gb298)); have n6_ := mk_ ((by rw [hg]; exact Nat.ne_of_gt (blk_lt (g := gb297) (o := .cells #[.slice A0_0 l0_0.length c0_0, .slice A0_1 l0_1.length c0_1, .int .i64 a0_2, .slice A0_3 l0_3.length c0_3] 28 (0, 0)) (bq_ BK297)) : gb298 ≠ gb297)); clear BK297; clear HB; have BK297 := n0_; have HB := n1_; have BK298 := n2_; have GW298 := n3_; have GE298 := n4_; have NB297_298 := n5_; have NB298_297 := n6_; clear n0_ n1_ n2_ n3_ n4_ n5_ n6_; clear hb hbox hg; have hnb9 := NB297_298.out; have hnc9 := NB298_297.out; obtain ⟨_, _, _, _, _, _, _, _⟩ := hb4_ BK297; obtain ⟨_, _, _, _, _, _, _, _, _, _, _, _⟩ := hb6_ BK298) | ((with_reducible refine gate_callee (f := 36) rfl ?_); refine gl_ (some 7) Tryd.func36 #[.agg #[.slice A0_0 l0_0.length c0_0, .slice A0_1 l0_1.length c0_1, .int .i64 a0_2, .slice A0_3 l0_3.length c0_3], .agg #[.int .i64 a1_0, .string a1_1, .slice A1_2 l1_2.length c1_2, .int .i64 a1_3, .int .i64 a1_4, .slice A1_5 l1_5.length c1_5]] ?_; (with_reducible refine (pentaglotref26_Fits.calls k _ _ l0_0 _ _ l0_1 a0_2 _ _ l0_3 a1_0 a1_1 _ _ l1_2 a1_3 a1_4 _ _ l1_5 true _ ?side1 ?side2 ?side3 ?side4 ?side5 ?side6 ?side7 ?side8 ?side9 ?side10 A3.out).mono ?_); (case side1 => exact cs_ (Kd.C_below HR0_0.out HB.out)); (case side2 => exact HC0_0.out); (case side3 => exact cs_ (Kd.C_below HR0_1.out HB.out)); (case side4 => exact HC0_1.out); (case side5 => exact cs_ (Kd.C_below HR0_3.out HB.out)); (case side6 => exact HC0_3.out); (case side7 => exact cs_ (Kd.C_below HR1_2.out HB.out)); (case side8 => exact HC1_2.out); (case side9 => exact cs_ (Kd.C_below HR1_5.out HB.out)); (case side10 => exact HC1_5.out); rintro e w12 ⟨rfl, hb⟩; refine ⟨_, rfl, ?_⟩; replace BK297 := mk_ (bb_ BK297 hb); replace BK298 := mk_ (bb_ BK298 hb); replace HB := mk_ (below_step (be2_ HB GE297 GE298) hb); obtain ⟨_, _, _, _, _, _, _, _⟩ := hb4_ BK297; obtain ⟨_, _, _, _, _, _, _, _, _, _, _, _⟩ := hb6_ BK298) | ((with_reducible refine gate_callee (f := 37) rfl ?_); refine gl_ (some 11) Tryd.func37 #[.agg #[.slice A0_0 l0_0.length c0_0, .slice A0_1 l0_1.length c0_1, .int .i64 a0_2, .slice A0_3 l0_3.length c0_3], .agg #[.int .i64 a1_0, .string a1_1, .slice A1_2 l1_2.length c1_2, .int .i64 a1_3, .int .i64 a1_4, .slice A1_5 l1_5.length c1_5]] ?_; (with_reducible refine (pentaglotref26_Work.calls k _ _ l0_0 _ _ l0_1 a0_2 _ _ l0_3 a1_0 a1_1 _ _ l1_2 a1_3 a1_4 _ _ l1_5 t300 _ ?side1 ?side2 ?side3 ?side4 ?side5 ?side6 ?side7 ?side8 ?side9 ?side10 A5.out).mono ?_); (case side1 => exact cs_ (Kd.C_below HR0_0.out HB.out)); (case side2 => exact HC0_0.out); (case side3 => exact cs_ (Kd.C_below HR0_1.out HB.out)); (case side4 => exact HC0_1.out); (case side5 => exact cs_ (Kd.C_below HR0_3.out HB.out)); (case side6 => exact HC0_3.out); (case side7 => exact cs_ (Kd.C_below HR1_2.out HB.out)); (case side8 => exact HC1_2.out); (case side9 => exact cs_ (Kd.C_below HR1_5.out HB.out)); (case side10 => exact HC1_5.out); rintro e w15 ⟨rfl, hb⟩; refine ⟨_, rfl, ?_⟩; replace BK297 := mk_ (bb_ BK297 hb); replace BK298 := mk_ (bb_ BK298 hb); replace HB := mk_ (below_step (be2_ HB GE297 GE298) hb)))
   go_ret
   exact ⟨er_, be2_ HB GE297 GE298⟩
  ·rw [if_neg c6] at H
   have c6b0 : decide (1048576 < t300) = false := decide_eq_false c6
   clear c6
   obtain rfl := Option.some.inj H
   go_enter Tryd.func15, Tryd.ntmps15
   go_wp2_with (first | ((with_reducible refine gate_dst (N := 2) rfl ?_); refine bx_ 2 #[.slice A0_0 l0_0.length c0_0, .slice A0_1 l0_1.length c0_1, .int .i64 a0_2, .slice A0_3 l0_3.length c0_3] 28 ?_; intro gb297 hg w16 hbox hb; have BK297 := mk_ (hbox); have GW297 := mk_ (gs_ hg (be_ HB)); have GE297 := mk_ (gs_ hg (be_ HB)); replace HB := mk_ (below_step (be_ HB) hb); clear hb hbox hg) | ((with_reducible refine gate_dst (N := 3) rfl ?_); refine bx_ 3 #[.int .i64 a1_0, .string a1_1, .slice A1_2 l1_2.length c1_2, .int .i64 a1_3, .int .i64 a1_4, .slice A1_5 l1_5.length c1_5] 32 ?_; intro gb298 hg w17 hbox hb; have n0_ := mk_ (bb_ BK297 hb); have n1_ := mk_ (below_step (be1_ HB GE297) hb); have n2_ := mk_ (hbox); have n3_ := mk_ (gs_ hg (be1_ HB GE297)); have n4_ := mk_ (gs_ hg (be1_ HB GE297)); have n5_ := mk_ ((by rw [hg]; exact Nat.ne_of_lt (blk_lt (g := gb297) (o := .cells #[.slice A0_0 l0_0.length c0_0, .slice A0_1 l0_1.length c0_1, .int .i64 a0_2, .slice A0_3 l0_3.length c0_3] 28 (0, 0)) (bq_ BK297)) : gb297 ≠ gb298)); have n6_ := mk_ ((by rw [hg]; exact Nat.ne_of_gt (blk_lt (g := gb297) (o := .cells #[.slice A0_0 l0_0.length c0_0, .slice A0_1 l0_1.length c0_1, .int .i64 a0_2, .slice A0_3 l0_3.length c0_3] 28 (0, 0)) (bq_ BK297)) : gb298 ≠ gb297)); clear BK297; clear HB; have BK297 := n0_; have HB := n1_; have BK298 := n2_; have GW298 := n3_; have GE298 := n4_; have NB297_298 := n5_; have NB298_297 := n6_; clear n0_ n1_ n2_ n3_ n4_ n5_ n6_; clear hb hbox hg; have hnb18 := NB297_298.out; have hnc18 := NB298_297.out; obtain ⟨_, _, _, _, _, _, _, _⟩ := hb4_ BK297; obtain ⟨_, _, _, _, _, _, _, _, _, _, _, _⟩ := hb6_ BK298) | ((with_reducible refine gate_callee (f := 36) rfl ?_); refine gl_ (some 7) Tryd.func36 #[.agg #[.slice A0_0 l0_0.length c0_0, .slice A0_1 l0_1.length c0_1, .int .i64 a0_2, .slice A0_3 l0_3.length c0_3], .agg #[.int .i64 a1_0, .string a1_1, .slice A1_2 l1_2.length c1_2, .int .i64 a1_3, .int .i64 a1_4, .slice A1_5 l1_5.length c1_5]] ?_; (with_reducible refine (pentaglotref26_Fits.calls k _ _ l0_0 _ _ l0_1 a0_2 _ _ l0_3 a1_0 a1_1 _ _ l1_2 a1_3 a1_4 _ _ l1_5 true _ ?side1 ?side2 ?side3 ?side4 ?side5 ?side6 ?side7 ?side8 ?side9 ?side10 A3.out).mono ?_); (case side1 => exact cs_ (Kd.C_below HR0_0.out HB.out)); (case side2 => exact HC0_0.out); (case side3 => exact cs_ (Kd.C_below HR0_1.out HB.out)); (case side4 => exact HC0_1.out); (case side5 => exact cs_ (Kd.C_below HR0_3.out HB.out)); (case side6 => exact HC0_3.out); (case side7 => exact cs_ (Kd.C_below HR1_2.out HB.out)); (case side8 => exact HC1_2.out); (case side9 => exact cs_ (Kd.C_below HR1_5.out HB.out)); (case side10 => exact HC1_5.out); rintro e w21 ⟨rfl, hb⟩; refine ⟨_, rfl, ?_⟩; replace BK297 := mk_ (bb_ BK297 hb); replace BK298 := mk_ (bb_ BK298 hb); replace HB := mk_ (below_step (be2_ HB GE297 GE298) hb); obtain ⟨_, _, _, _, _, _, _, _⟩ := hb4_ BK297; obtain ⟨_, _, _, _, _, _, _, _, _, _, _, _⟩ := hb6_ BK298) | ((with_reducible refine gate_callee (f := 37) rfl ?_); refine gl_ (some 11) Tryd.func37 #[.agg #[.slice A0_0 l0_0.length c0_0, .slice A0_1 l0_1.length c0_1, .int .i64 a0_2, .slice A0_3 l0_3.length c0_3], .agg #[.int .i64 a1_0, .string a1_1, .slice A1_2 l1_2.length c1_2, .int .i64 a1_3, .int .i64 a1_4, .slice A1_5 l1_5.length c1_5]] ?_; (with_reducible refine (pentaglotref26_Work.calls k _ _ l0_0 _ _ l0_1 a0_2 _ _ l0_3 a1_0 a1_1 _ _ l1_2 a1_3 a1_4 _ _ l1_5 t300 _ ?side1 ?side2 ?side3 ?side4 ?side5 ?side6 ?side7 ?side8 ?side9 ?side10 A5.out).mono ?_); (case side1 => exact cs_ (Kd.C_below HR0_0.out HB.out)); (case side2 => exact HC0_0.out); (case side3 => exact cs_ (Kd.C_below HR0_1.out HB.out)); (case side4 => exact HC0_1.out); (case side5 => exact cs_ (Kd.C_below HR0_3.out HB.out)); (case side6 => exact HC0_3.out); (case side7 => exact cs_ (Kd.C_below HR1_2.out HB.out)); (case side8 => exact HC1_2.out); (case side9 => exact cs_ (Kd.C_below HR1_5.out HB.out)); (case side10 => exact HC1_5.out); rintro e w24 ⟨rfl, hb⟩; refine ⟨_, rfl, ?_⟩; replace BK297 := mk_ (bb_ BK297 hb); replace BK298 := mk_ (bb_ BK298 hb); replace HB := mk_ (below_step (be2_ HB GE297 GE298) hb)))
   go_ret
   exact ⟨er_, be2_ HB GE297 GE298⟩
 ·replace c4 := Bool.eq_false_iff.mpr c4
  subst c4
  rw [if_neg nf_] at H
  obtain rfl := Option.some.inj H
  go_enter Tryd.func15, Tryd.ntmps15
  go_wp2_with (first | ((with_reducible refine gate_dst (N := 2) rfl ?_); refine bx_ 2 #[.slice A0_0 l0_0.length c0_0, .slice A0_1 l0_1.length c0_1, .int .i64 a0_2, .slice A0_3 l0_3.length c0_3] 28 ?_; intro gb297 hg w25 hbox hb; have BK297 := mk_ (hbox); have GW297 := mk_ (gs_ hg (be_ HB)); have GE297 := mk_ (gs_ hg (be_ HB)); replace HB := mk_ (below_step (be_ HB) hb); clear hb hbox hg) | ((with_reducible refine gate_dst (N := 3) rfl ?_); refine bx_ 3 #[.int .i64 a1_0, .string a1_1, .slice A1_2 l1_2.length c1_2, .int .i64 a1_3, .int .i64 a1_4, .slice A1_5 l1_5.length c1_5] 32 ?_; intro gb298 hg w26 hbox hb; have n0_ := mk_ (bb_ BK297 hb); have n1_ := mk_ (below_step (be1_ HB GE297) hb); have n2_ := mk_ (hbox); have n3_ := mk_ (gs_ hg (be1_ HB GE297)); have n4_ := mk_ (gs_ hg (be1_ HB GE297)); have n5_ := mk_ ((by rw [hg]; exact Nat.ne_of_lt (blk_lt (g := gb297) (o := .cells #[.slice A0_0 l0_0.length c0_0, .slice A0_1 l0_1.length c0_1, .int .i64 a0_2, .slice A0_3 l0_3.length c0_3] 28 (0, 0)) (bq_ BK297)) : gb297 ≠ gb298)); have n6_ := mk_ ((by rw [hg]; exact Nat.ne_of_gt (blk_lt (g := gb297) (o := .cells #[.slice A0_0 l0_0.length c0_0, .slice A0_1 l0_1.length c0_1, .int .i64 a0_2, .slice A0_3 l0_3.length c0_3] 28 (0, 0)) (bq_ BK297)) : gb298 ≠ gb297)); clear BK297; clear HB; have BK297 := n0_; have HB := n1_; have BK298 := n2_; have GW298 := n3_; have GE298 := n4_; have NB297_298 := n5_; have NB298_297 := n6_; clear n0_ n1_ n2_ n3_ n4_ n5_ n6_; clear hb hbox hg; have hnb27 := NB297_298.out; have hnc27 := NB298_297.out; obtain ⟨_, _, _, _, _, _, _, _⟩ := hb4_ BK297; obtain ⟨_, _, _, _, _, _, _, _, _, _, _, _⟩ := hb6_ BK298) | ((with_reducible refine gate_callee (f := 36) rfl ?_); refine gl_ (some 7) Tryd.func36 #[.agg #[.slice A0_0 l0_0.length c0_0, .slice A0_1 l0_1.length c0_1, .int .i64 a0_2, .slice A0_3 l0_3.length c0_3], .agg #[.int .i64 a1_0, .string a1_1, .slice A1_2 l1_2.length c1_2, .int .i64 a1_3, .int .i64 a1_4, .slice A1_5 l1_5.length c1_5]] ?_; (with_reducible refine (pentaglotref26_Fits.calls k _ _ l0_0 _ _ l0_1 a0_2 _ _ l0_3 a1_0 a1_1 _ _ l1_2 a1_3 a1_4 _ _ l1_5 false _ ?side1 ?side2 ?side3 ?side4 ?side5 ?side6 ?side7 ?side8 ?side9 ?side10 A3.out).mono ?_); (case side1 => exact cs_ (Kd.C_below HR0_0.out HB.out)); (case side2 => exact HC0_0.out); (case side3 => exact cs_ (Kd.C_below HR0_1.out HB.out)); (case side4 => exact HC0_1.out); (case side5 => exact cs_ (Kd.C_below HR0_3.out HB.out)); (case side6 => exact HC0_3.out); (case side7 => exact cs_ (Kd.C_below HR1_2.out HB.out)); (case side8 => exact HC1_2.out); (case side9 => exact cs_ (Kd.C_below HR1_5.out HB.out)); (case side10 => exact HC1_5.out); rintro e w30 ⟨rfl, hb⟩; refine ⟨_, rfl, ?_⟩; replace BK297 := mk_ (bb_ BK297 hb); replace BK298 := mk_ (bb_ BK298 hb); replace HB := mk_ (below_step (be2_ HB GE297 GE298) hb)))
  go_ret
  exact ⟨er_, be2_ HB GE297 GE298⟩
def pentaglotref26_Place.f (l0_0 : List (S73)) (l0_1 : List Int) (a0_2 : Int) (l0_3 : List (S62)) (a1 : Int) (a2 : Int) : Option (Bool) := if a1 ≥ 0 then (if a1 ≤ a0_2 then (if a2 ≥ 0 then ((pentaglotref26_Last.f l0_0 l0_1 a0_2).bind fun t302 => (some (decide (a2 ≤ t302)))) else (some false)) else (some false)) else (some false)
theorem pentaglotref26_Place.calls (A0_0 : Option Addr) (c0_0 : Nat) (l0_0 : List (S73)) (A0_1 : Option Addr) (c0_1 : Nat) (l0_1 : List Int) (a0_2 : Int) (A0_3 : Option Addr) (c0_3 : Nat) (l0_3 : List (S62)) (a1 : Int) (a2 : Int) (r : Bool) (w : World) (hr0_0 : Kd.C k73 w A0_0 l0_0.length l0_0) (hc0_0 : l0_0.length ≤ c0_0) (hr0_1 : Kd.C (Kd.int .i64) w A0_1 l0_1.length l0_1) (hc0_1 : l0_1.length ≤ c0_1) (hr0_3 : Kd.C k62 w A0_3 l0_3.length l0_3) (hc0_3 : l0_3.length ≤ c0_3) (h : pentaglotref26_Place.f l0_0 l0_1 a0_2 l0_3 a1 a2 = some r) :
  Calls Tryd.prog 16 #[.agg #[.slice A0_0 l0_0.length c0_0, .slice A0_1 l0_1.length c0_1, .int .i64 a0_2, .slice A0_3 l0_3.length c0_3], .int .i64 a1, .int .i64 a2] w fun e w' => e = .returned (.bool r) ∧ Below w.heap.size w w' := by
 have hu28 := Tryd.underlying28
 have hu25 := Tryd.underlying25
 have HR0_0 := mk_ hr0_0; have HC0_0 := mk_ hc0_0; clear hr0_0 hc0_0
 have HR0_1 := mk_ hr0_1; have HC0_1 := mk_ hc0_1; clear hr0_1 hc0_1
 have HR0_3 := mk_ hr0_3; have HC0_3 := mk_ hc0_3; clear hr0_3 hc0_3
 have HB := mk_ (Below.refl w.heap.size w)
 have H : (if a1 ≥ 0 then (if a1 ≤ a0_2 then (if a2 ≥ 0 then ((pentaglotref26_Last.f l0_0 l0_1 a0_2).bind fun t302 => (some (decide (a2 ≤ t302)))) else (some false)) else (some false)) else (some false)) = some r := h
 clear h
 by_cases c4 : a1 ≥ 0
 ·rw [if_pos c4] at H
  have c4b0 : decide (0 ≤ a1) = true := decide_eq_true c4
  clear c4
  by_cases c5 : a1 ≤ a0_2
  ·rw [if_pos c5] at H
   have c5b0 : decide (a1 ≤ a0_2) = true := decide_eq_true c5
   clear c5
   by_cases c6 : a2 ≥ 0
   ·rw [if_pos c6] at H
    have c6b0 : decide (0 ≤ a2) = true := decide_eq_true c6
    clear c6
    replace H := Option.bind_eq_some_iff.mp H
    obtain ⟨t302, A70, H⟩ := H
    replace H : (some (decide (a2 ≤ t302))) = some r := H
    have A7 := mk_ A70
    clear A70
    obtain rfl := Option.some.inj H
    go_enter Tryd.func16, Tryd.ntmps16
    go_wp2_with (first | ((with_reducible refine gate_dst (N := 3) rfl ?_); refine bx_ 3 #[.slice A0_0 l0_0.length c0_0, .slice A0_1 l0_1.length c0_1, .int .i64 a0_2, .slice A0_3 l0_3.length c0_3] 28 ?_; intro gb301 hg w8 hbox hb; have BK301 := mk_ (hbox); have GW301 := mk_ (gs_ hg (be_ HB)); have GE301 := mk_ (gs_ hg (be_ HB)); replace HB := mk_ (below_step (be_ HB) hb); clear hb hbox hg; obtain ⟨_, _, _, _, _, _, _, _⟩ := hb4_ BK301) | (go_at_call 19; (with_reducible refine (pentaglotref26_Last.calls _ _ l0_0 _ _ l0_1 a0_2 t302 _ ?side1 ?side2 ?side3 ?side4 A7.out).mono ?_); (case side1 => exact cs_ (Kd.C_below HR0_0.out HB.out)); (case side2 => exact HC0_0.out); (case side3 => exact cs_ (Kd.C_below HR0_1.out HB.out)); (case side4 => exact HC0_1.out); rintro e w10 ⟨rfl, hb⟩; replace BK301 := mk_ (bb_ BK301 hb); replace HB := mk_ (below_step (be1_ HB GE301) hb)))
    go_ret
    exact ⟨er_, be1_ HB GE301⟩
   ·rw [if_neg c6] at H
    have c6b0 : decide (0 ≤ a2) = false := decide_eq_false c6
    clear c6
    obtain rfl := Option.some.inj H
    go_enter Tryd.func16, Tryd.ntmps16
    go_wp2_with (first | ((with_reducible refine gate_dst (N := 3) rfl ?_); refine bx_ 3 #[.slice A0_0 l0_0.length c0_0, .slice A0_1 l0_1.length c0_1, .int .i64 a0_2, .slice A0_3 l0_3.length c0_3] 28 ?_; intro gb301 hg w11 hbox hb; have BK301 := mk_ (hbox); have GW301 := mk_ (gs_ hg (be_ HB)); have GE301 := mk_ (gs_ hg (be_ HB)); replace HB := mk_ (below_step (be_ HB) hb); clear hb hbox hg; obtain ⟨_, _, _, _, _, _, _, _⟩ := hb4_ BK301))
    go_ret
    exact ⟨er_, be1_ HB GE301⟩
  ·rw [if_neg c5] at H
   have c5b0 : decide (a1 ≤ a0_2) = false := decide_eq_false c5
   clear c5
   obtain rfl := Option.some.inj H
   go_enter Tryd.func16, Tryd.ntmps16
   go_wp2_with (first | ((with_reducible refine gate_dst (N := 3) rfl ?_); refine bx_ 3 #[.slice A0_0 l0_0.length c0_0, .slice A0_1 l0_1.length c0_1, .int .i64 a0_2, .slice A0_3 l0_3.length c0_3] 28 ?_; intro gb301 hg w13 hbox hb; have BK301 := mk_ (hbox); have GW301 := mk_ (gs_ hg (be_ HB)); have GE301 := mk_ (gs_ hg (be_ HB)); replace HB := mk_ (below_step (be_ HB) hb); clear hb hbox hg; obtain ⟨_, _, _, _, _, _, _, _⟩ := hb4_ BK301))
   go_ret
   exact ⟨er_, be1_ HB GE301⟩
 ·rw [if_neg c4] at H
  have c4b0 : decide (0 ≤ a1) = false := decide_eq_false c4
  clear c4
  obtain rfl := Option.some.inj H
  go_enter Tryd.func16, Tryd.ntmps16
  go_wp2_with (first | ((with_reducible refine gate_dst (N := 3) rfl ?_); refine bx_ 3 #[.slice A0_0 l0_0.length c0_0, .slice A0_1 l0_1.length c0_1, .int .i64 a0_2, .slice A0_3 l0_3.length c0_3] 28 ?_; intro gb301 hg w15 hbox hb; have BK301 := mk_ (hbox); have GW301 := mk_ (gs_ hg (be_ HB)); have GE301 := mk_ (gs_ hg (be_ HB)); replace HB := mk_ (below_step (be_ HB) hb); clear hb hbox hg))
  go_ret
  exact ⟨er_, be1_ HB GE301⟩
def pentaglotref22_Digits.f : Nat → Int → Option (ByteArray)
 | 0, _ => none
 | k + 1, a0 => if a0 < 0 then ((pentaglotref22_Digits.f k (wrap64 (-a0))).bind fun t303 => (if 1 + t303.size ≤ 9223372036854775807 then (some ((⟨#[45]⟩ : ByteArray) ++ t303)) else (none))) else (if a0 < 10 then (if 0 ≤ a0 then (if a0 ≤ (wrap64 (a0 + 1)) then (if (wrap64 (a0 + 1)) ≤ 10 then (some ((⟨#[48, 49, 50, 51, 52, 53, 54, 55, 56, 57]⟩ : ByteArray).extract (a0 : Int).toNat ((wrap64 (a0 + 1)) : Int).toNat)) else (none)) else (none)) else (none)) else ((pentaglotref22_Digits.f k (wrap64 (Int.tdiv a0 10))).bind fun t304 => ((pentaglotref22_Digits.f k (Int.tmod a0 10)).bind fun t305 => (if t304.size + t305.size ≤ 9223372036854775807 then (some (t304 ++ t305)) else (none)))))
theorem pentaglotref22_Digits.calls (k : Nat) : ∀ (a0 : Int) (r : ByteArray) (w : World) (h : pentaglotref22_Digits.f k a0 = some r),
  Calls Tryd.prog 67 #[.int .i64 a0] w fun e w' => e = .returned (.string r) ∧ Drawn0 w w' := by
 induction k using Nat.strongRecOn with
 | _ k ih =>
 intro a0 r w h
 cases k with
 | zero => exact absurd h (by simp [pentaglotref22_Digits.f])
 | succ k =>
 simp only [pentaglotref22_Digits.f] at h
 have H : (if a0 < 0 then ((pentaglotref22_Digits.f k (wrap64 (-a0))).bind fun t303 => (if 1 + t303.size ≤ 9223372036854775807 then (some ((⟨#[45]⟩ : ByteArray) ++ t303)) else (none))) else (if a0 < 10 then (if 0 ≤ a0 then (if a0 ≤ (wrap64 (a0 + 1)) then (if (wrap64 (a0 + 1)) ≤ 10 then (some ((⟨#[48, 49, 50, 51, 52, 53, 54, 55, 56, 57]⟩ : ByteArray).extract (a0 : Int).toNat ((wrap64 (a0 + 1)) : Int).toNat)) else (none)) else (none)) else (none)) else ((pentaglotref22_Digits.f k (wrap64 (Int.tdiv a0 10))).bind fun t304 => ((pentaglotref22_Digits.f k (Int.tmod a0 10)).bind fun t305 => (if t304.size + t305.size ≤ 9223372036854775807 then (some (t304 ++ t305)) else (none)))))) = some r := h
 clear h
 by_cases c2 : a0 < 0
 ·rw [if_pos c2] at H
  have c2b0 : decide (a0 < 0) = true := decide_eq_true c2
  clear c2
  replace H := Option.bind_eq_some_iff.mp H
  obtain ⟨t303, A30, H⟩ := H
  replace H : (if 1 + t303.size ≤ 9223372036854775807 then (some ((⟨#[45]⟩ : ByteArray) ++ t303)) else (none)) = some r := H
  have A3 := mk_ A30
  clear A30
  by_cases c4 : 1 + t303.size ≤ 9223372036854775807
  ·rw [if_pos c4] at H
   have c4b0 := eq_true c4
   have c4b1 : decide (1 + t303.size ≤ 9223372036854775807) = true := decide_eq_true c4
   try have c4b2 : (9223372036854775807 < 1 + t303.size) = False := eq_false (Nat.not_lt.2 c4)
   obtain rfl := Option.some.inj H
   go_enter Tryd.func67, Tryd.ntmps67
   go_wp2_with (first | ((with_reducible refine gate_callee (f := 67) rfl ?_); refine gl_ (some 7) Tryd.func67 #[.int .i64 (wrap64 (-a0))] ?_; (with_reducible refine (ih k (by omega) (wrap64 (-a0)) t303 _ A3.out).mono ?_); rintro e w' ⟨rfl, ⟨nd, rfl⟩⟩; refine ⟨_, rfl, ?_⟩))
   go_ret
   exact ⟨by first | rfl | (simp [pw_isEmpty]; done) | (simp; done) | (simp [*]; done), by repeat (first | exact Drawn0.refl _ | apply Drawn0.step)⟩
  ·rw [if_neg c4] at H
   exact absurd H (by simp)
 ·rw [if_neg c2] at H
  have c2b0 : decide (a0 < 0) = false := decide_eq_false c2
  clear c2
  by_cases c5 : a0 < 10
  ·rw [if_pos c5] at H
   have c5b0 : decide (a0 < 10) = true := decide_eq_true c5
   clear c5
   by_cases c6 : 0 ≤ a0
   ·rw [if_pos c6] at H
    have c6b0 := eq_true c6
    have c6b1 : decide (0 ≤ a0) = true := decide_eq_true c6
    clear c6
    by_cases c7 : a0 ≤ (wrap64 (a0 + 1))
    ·rw [if_pos c7] at H
     have c7b0 := eq_true c7
     have c7b1 : decide (a0 ≤ (wrap64 (a0 + 1))) = true := decide_eq_true c7
     by_cases c8 : (wrap64 (a0 + 1)) ≤ 10
     ·rw [if_pos c8] at H
      have c8b0 := eq_true c8
      have c8b1 : decide ((wrap64 (a0 + 1)) ≤ 10) = true := decide_eq_true c8
      obtain rfl := Option.some.inj H
      go_enter Tryd.func67, Tryd.ntmps67
      go_wp2
      go_ret
      exact ⟨by first | rfl | (simp [pw_isEmpty]; done) | (simp; done) | (simp [*]; done), by repeat (first | exact Drawn0.refl _ | apply Drawn0.step)⟩
     ·rw [if_neg c8] at H
      exact absurd H (by simp)
    ·rw [if_neg c7] at H
     exact absurd H (by simp)
   ·rw [if_neg c6] at H
    exact absurd H (by simp)
  ·rw [if_neg c5] at H
   have c5b0 : decide (a0 < 10) = false := decide_eq_false c5
   clear c5
   replace H := Option.bind_eq_some_iff.mp H
   obtain ⟨t304, A90, H⟩ := H
   replace H : ((pentaglotref22_Digits.f k (Int.tmod a0 10)).bind fun t305 => (if t304.size + t305.size ≤ 9223372036854775807 then (some (t304 ++ t305)) else (none))) = some r := H
   have A9 := mk_ A90
   clear A90
   replace H := Option.bind_eq_some_iff.mp H
   obtain ⟨t305, A100, H⟩ := H
   replace H : (if t304.size + t305.size ≤ 9223372036854775807 then (some (t304 ++ t305)) else (none)) = some r := H
   have A10 := mk_ A100
   clear A100
   by_cases c11 : t304.size + t305.size ≤ 9223372036854775807
   ·rw [if_pos c11] at H
    have c11b0 := eq_true c11
    have c11b1 : decide (t304.size + t305.size ≤ 9223372036854775807) = true := decide_eq_true c11
    try have c11b2 : (9223372036854775807 < t304.size + t305.size) = False := eq_false (Nat.not_lt.2 c11)
    obtain rfl := Option.some.inj H
    go_enter Tryd.func67, Tryd.ntmps67
    go_wp2_with (first | ((with_reducible refine gate_callee (f := 67) rfl ?_); refine gl_ (some 17) Tryd.func67 #[.int .i64 (wrap64 (Int.tdiv a0 10))] ?_; (with_reducible refine (ih k (by omega) (wrap64 (Int.tdiv a0 10)) t304 _ A9.out).mono ?_); rintro e w' ⟨rfl, ⟨nd, rfl⟩⟩; refine ⟨_, rfl, ?_⟩) | ((with_reducible refine gate_callee (f := 67) rfl ?_); refine gl_ (some 20) Tryd.func67 #[.int .i64 (Int.tmod a0 10)] ?_; (with_reducible refine (ih k (by omega) (Int.tmod a0 10) t305 _ A10.out).mono ?_); rintro e w' ⟨rfl, ⟨nd, rfl⟩⟩; refine ⟨_, rfl, ?_⟩))
    go_ret
    exact ⟨by first | rfl | (simp [pw_isEmpty]; done) | (simp; done) | (simp [*]; done), by repeat (first | exact Drawn0.refl _ | apply Drawn0.step)⟩
   ·rw [if_neg c11] at H
    exact absurd H (by simp)
def pentaglotref26_Name.f (k : Nat) (a0_0 : Int) (a0_1 : Int) (a0_2 : ByteArray) (l1 : List ByteArray) : Option (ByteArray) := if a0_0 = 1 then (if 0 ≤ (wrap64 ((wrap64 ((l1.length : Int) - 1)) - a0_1)) then (if (wrap64 ((wrap64 ((l1.length : Int) - 1)) - a0_1)) < (l1.length : Int) then (some (rdOf ByteArray.empty l1 (wrap64 ((wrap64 ((l1.length : Int) - 1)) - a0_1)))) else (none)) else (none)) else (if a0_0 = 2 then (some a0_2) else (if a0_0 = 3 then ((pentaglotref22_Digits.f k a0_1).bind fun t308 => (if 1 + t308.size ≤ 9223372036854775807 then (some ((⟨#[64]⟩ : ByteArray) ++ t308)) else (none))) else ((pentaglotref22_Digits.f k a0_1).bind fun t309 => (some t309))))
theorem pentaglotref26_Name.calls (k : Nat) (a0_0 : Int) (a0_1 : Int) (a0_2 : ByteArray) (A1 : Option Addr) (c1 : Nat) (l1 : List ByteArray) (r : ByteArray) (w : World) (hr1 : Kd.C Kd.string w A1 l1.length l1) (hc1 : l1.length ≤ c1) (h : pentaglotref26_Name.f k a0_0 a0_1 a0_2 l1 = some r) :
  Calls Tryd.prog 59 #[.agg #[.int .i64 a0_0, .int .i64 a0_1, .string a0_2], .slice A1 l1.length c1] w fun e w' => e = .returned (.string r) ∧ Below w.heap.size w w' := by
 have hu92 := Tryd.underlying92
 have HR1 := mk_ hr1; have HC1 := mk_ hc1; clear hr1 hc1
 have HB := mk_ (Below.refl w.heap.size w)
 have H : (if a0_0 = 1 then (if 0 ≤ (wrap64 ((wrap64 ((l1.length : Int) - 1)) - a0_1)) then (if (wrap64 ((wrap64 ((l1.length : Int) - 1)) - a0_1)) < (l1.length : Int) then (some (rdOf ByteArray.empty l1 (wrap64 ((wrap64 ((l1.length : Int) - 1)) - a0_1)))) else (none)) else (none)) else (if a0_0 = 2 then (some a0_2) else (if a0_0 = 3 then ((pentaglotref22_Digits.f k a0_1).bind fun t308 => (if 1 + t308.size ≤ 9223372036854775807 then (some ((⟨#[64]⟩ : ByteArray) ++ t308)) else (none))) else ((pentaglotref22_Digits.f k a0_1).bind fun t309 => (some t309))))) = some r := h
 clear h
 by_cases c3 : a0_0 = 1
 ·rw [if_pos c3] at H
  obtain ⟨c3b0, c3b1⟩ := eb_ c3
  clear c3
  obtain ⟨ji4, hji4⟩ : ∃ j_ : Int, (wrap64 ((wrap64 ((l1.length : Int) - 1)) - a0_1)) = j_ := ⟨_, rfl⟩
  replace H : (if 0 ≤ (ji4) then (if (ji4) < (l1.length : Int) then (some (rdOf ByteArray.empty l1 (ji4))) else (none)) else (none)) = some r := by first | (rw [hji4] at H; exact H) | (simp only [hji4] at H ⊢; exact H)
  have hji4w : (IntKind.i64.wrap ((wrap64 ((l1.length : Int) - 1)) - a0_1)) = ji4 := (i64_w _).trans hji4
  by_cases c5 : 0 ≤ (ji4)
  ·rw [if_pos c5] at H
   have c5b0 : decide (0 ≤ (ji4)) = true := decide_eq_true c5
   clear c5
   by_cases c6 : (ji4) < (l1.length : Int)
   ·rw [if_pos c6] at H
    have c6b0 : decide ((ji4) < (l1.length : Int)) = true := decide_eq_true c6
    clear c6
    obtain rfl := Option.some.inj H
    go_enter Tryd.func59, Tryd.ntmps59
    go_wp2_with (first | ((with_reducible refine gate_dst (N := 2) rfl ?_); refine bx_ 2 #[.int .i64 a0_0, .int .i64 a0_1, .string a0_2] 92 ?_; intro gb306 hg w7 hbox hb; have BK306 := mk_ (hbox); have GW306 := mk_ (gs_ hg (be_ HB)); have GE306 := mk_ (gs_ hg (be_ HB)); replace HB := mk_ (below_step (be_ HB) hb); clear hb hbox hg; obtain ⟨_, _, _, _, _, _⟩ := hb3_ BK306; have p307 : 0 ≤ ((ji4) : Int) := of_decide_eq_true (by first | (with_reducible assumption) | assumption); have q307 : (ji4) < (l1.length : Int) := of_decide_eq_true (by first | (with_reducible assumption) | assumption); obtain ⟨ad307, e307, hx307_0⟩ := Kd.at_string HR1.out (ji4) p307 q307; cases e307; replace hx307_0 := (HB.out.cell (World.block_lt_of_cell? w _ hx307_0)).trans hx307_0; replace p307 := eq_true p307; replace q307 := eq_true q307))
    go_ret
    exact ⟨by first | rfl | (simp [errW_none, errW_some] <;> rfl) | (simp only [← hji4]; first | rfl | (simp [errW_none, errW_some] <;> rfl)) | (simp [*, errW_none, errW_some] <;> rfl), be1_ HB GE306⟩
   ·rw [if_neg c6] at H
    exact absurd H (by simp)
  ·rw [if_neg c5] at H
   exact absurd H (by simp)
 ·rw [if_neg c3] at H
  obtain ⟨c3b0, c3b1⟩ := en_ c3
  by_cases c9 : a0_0 = 2
  ·rw [if_pos c9] at H
   obtain ⟨c9b0, c9b1⟩ := eb_ c9
   clear c9
   obtain rfl := Option.some.inj H
   go_enter Tryd.func59, Tryd.ntmps59
   go_wp2_with (first | ((with_reducible refine gate_dst (N := 2) rfl ?_); refine bx_ 2 #[.int .i64 a0_0, .int .i64 a0_1, .string a0_2] 92 ?_; intro gb306 hg w10 hbox hb; have BK306 := mk_ (hbox); have GW306 := mk_ (gs_ hg (be_ HB)); have GE306 := mk_ (gs_ hg (be_ HB)); replace HB := mk_ (below_step (be_ HB) hb); clear hb hbox hg; obtain ⟨_, _, _, _, _, _⟩ := hb3_ BK306))
   go_ret
   exact ⟨er_, be1_ HB GE306⟩
  ·rw [if_neg c9] at H
   obtain ⟨c9b0, c9b1⟩ := en_ c9
   by_cases c12 : a0_0 = 3
   ·rw [if_pos c12] at H
    obtain ⟨c12b0, c12b1⟩ := eb_ c12
    clear c12
    replace H := Option.bind_eq_some_iff.mp H
    obtain ⟨t308, A130, H⟩ := H
    replace H : (if 1 + t308.size ≤ 9223372036854775807 then (some ((⟨#[64]⟩ : ByteArray) ++ t308)) else (none)) = some r := H
    have A13 := mk_ A130
    clear A130
    by_cases c14 : 1 + t308.size ≤ 9223372036854775807
    ·rw [if_pos c14] at H
     have c14b0 := eq_true c14
     have c14b1 : decide (1 + t308.size ≤ 9223372036854775807) = true := decide_eq_true c14
     try have c14b2 : (9223372036854775807 < 1 + t308.size) = False := eq_false (Nat.not_lt.2 c14)
     obtain rfl := Option.some.inj H
     go_enter Tryd.func59, Tryd.ntmps59
     go_wp2_with (first | ((with_reducible refine gate_dst (N := 2) rfl ?_); refine bx_ 2 #[.int .i64 a0_0, .int .i64 a0_1, .string a0_2] 92 ?_; intro gb306 hg w15 hbox hb; have BK306 := mk_ (hbox); have GW306 := mk_ (gs_ hg (be_ HB)); have GE306 := mk_ (gs_ hg (be_ HB)); replace HB := mk_ (below_step (be_ HB) hb); clear hb hbox hg; obtain ⟨_, _, _, _, _, _⟩ := hb3_ BK306) | ((with_reducible refine gate_callee (f := 67) rfl ?_); refine gl_ (some 26) Tryd.func67 #[.int .i64 a0_1] ?_; (with_reducible refine (pentaglotref22_Digits.calls k a0_1 t308 _ A13.out).mono ?_); rintro e w' ⟨rfl, ⟨nd, rfl⟩⟩; refine ⟨_, rfl, ?_⟩))
     go_ret
     exact ⟨er_, be1_ HB GE306⟩
    ·rw [if_neg c14] at H
     exact absurd H (by simp)
   ·rw [if_neg c12] at H
    obtain ⟨c12b0, c12b1⟩ := en_ c12
    replace H := Option.bind_eq_some_iff.mp H
    obtain ⟨t309, A170, H⟩ := H
    replace H : (some t309) = some r := H
    have A17 := mk_ A170
    clear A170
    obtain rfl := Option.some.inj H
    go_enter Tryd.func59, Tryd.ntmps59
    go_wp2_with (first | ((with_reducible refine gate_dst (N := 2) rfl ?_); refine bx_ 2 #[.int .i64 a0_0, .int .i64 a0_1, .string a0_2] 92 ?_; intro gb306 hg w18 hbox hb; have BK306 := mk_ (hbox); have GW306 := mk_ (gs_ hg (be_ HB)); have GE306 := mk_ (gs_ hg (be_ HB)); replace HB := mk_ (below_step (be_ HB) hb); clear hb hbox hg; obtain ⟨_, _, _, _, _, _⟩ := hb3_ BK306) | ((with_reducible refine gate_callee (f := 67) rfl ?_); refine gl_ (some 30) Tryd.func67 #[.int .i64 a0_1] ?_; (with_reducible refine (pentaglotref22_Digits.calls k a0_1 t309 _ A17.out).mono ?_); rintro e w' ⟨rfl, ⟨nd, rfl⟩⟩; refine ⟨_, rfl, ?_⟩))
    go_ret
    exact ⟨er_, be1_ HB GE306⟩
end Go.Proofs.YtolpckflofjfhaaDoor.P
