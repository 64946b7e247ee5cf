import Derived.Test.YtolpckflofjfhaaDoorPx0
import Derived.Test.YtolpckflofjfhaaDoorPx11
import Derived.Test.YtolpckflofjfhaaDoorPx12
import Derived.Test.YtolpckflofjfhaaDoorPx22
import Derived.Test.YtolpckflofjfhaaDoorPx27
import Derived.Test.YtolpckflofjfhaaDoorPx28
namespace Go.Proofs.YtolpckflofjfhaaDoor.P
open Go.RowKit Go.Proofs.YtolpckflofjfhaaDoorW.PrintWords Go.Proofs.YtolpckflofjfhaaDoorW.PrintLast Go.Proofs.YtolpckflofjfhaaDoorW.PrintMore
attribute [local go_sem] max2_int min2_int max_two min_two max_three min_three max_four min_four
set_option linter.unusedVariables false
set_option maxHeartbeats 8000000
set_option maxRecDepth 100000
set_option linter.unusedSimpArgs false
mutual
def pentaglotlaw26_EvaluateWitness.j0 : Nat → Int → Int → ByteArray → Bool → Int → Int → Bool → List (S73) → List Int → Int → List (S62) → Int → ByteArray → List (S92) → Int → Int → List (S32) → Option (Bool)
 | 0, _, _, _, _, _, _, _, _, _, _, _, _, _, _, _, _, _ => none
 | k + 1, x2, x3, x9, x10, x11, x12, x49, x472000, x472001, x472002, x472003, x473000, x473001, x473002, x473003, x473004, x473005 => if x49 = true then (pentaglotlaw26_EvaluateWitness.j1 k x2 x3 x9 x10 x11 1 x472000 x472001 x472002 x472003 x473000 x473001 x473002 x473003 x473004 x473005) else (pentaglotlaw26_EvaluateWitness.j1 k x2 x3 x9 x10 x11 x12 x472000 x472001 x472002 x472003 x473000 x473001 x473002 x473003 x473004 x473005)
def pentaglotlaw26_EvaluateWitness.j1 : Nat → Int → Int → ByteArray → Bool → Int → Int → List (S73) → List Int → Int → List (S62) → Int → ByteArray → List (S92) → Int → Int → List (S32) → Option (Bool)
 | 0, _, _, _, _, _, _, _, _, _, _, _, _, _, _, _, _ => none
 | k + 1, x2, x3, x9, x10, x11, x12, x472000, x472001, x472002, x472003, x473000, x473001, x473002, x473003, x473004, x473005 => if x12 = 0 then ((pentaglotref26_Witness.f k x472000 x472001 x472002 x472003 x473000 x473001 x473002 x473003 x473004 x473005 ([] : List ByteArray) x2 x3).bind fun bt481 => ((pentaglotlaw26_at.f k x472000 x472001 x472002 x472003 x473000 x473001 x473002 x473003 x473004 x473005 x2 x3).bind fun bt483 => (if x11 = 0 then (if x9.toList = bt481.1.toList then (if (x10 == bt481.2) = true then (if bt483.2 = true then (some (bt483.1 == (x10 == (x473000 == 9)))) else (some false)) else (some false)) else (some false)) else (some false)))) else (if x9.toList = ([] : List UInt8) then (if x10 = true then (some false) else (some (x11 == x12))) else (some false))
end
def pentaglotlaw26_EvaluateWitness.f (k : Nat) (l0_0 : List (S73)) (l0_1 : List Int) (a0_2 : Int) (l0_3 : List (S62)) (a1_0 : Int) (a1_1 : ByteArray) (l1_2 : List (S92)) (a1_3 : Int) (a1_4 : Int) (l1_5 : List (S32)) (a2 : Int) (a3 : Int) : Option (Bool) := (pentaglotlaw26_awake.f k).bind fun t473 => (if t473 = true then ((pentaglotref26_Light.f k l0_0 l0_1 a0_2 l0_3 a1_0 a1_1 l1_2 a1_3 a1_4 l1_5).bind fun t474 => (if t474 = true then ((evaluate_Witness.f k l0_0 l0_1 a0_2 l0_3 a1_0 a1_1 l1_2 a1_3 a1_4 l1_5 a2 a3).bind fun bt475 => ((pentaglotref26_Error.f k l0_0 l0_1 a0_2 l0_3 a1_0 a1_1 l1_2 a1_3 a1_4 l1_5).bind fun t478 => (if t478 = 1 then (pentaglotlaw26_EvaluateWitness.j0 k a2 a3 bt475.1 bt475.2.1 bt475.2.2 t478 false l0_0 l0_1 a0_2 l0_3 a1_0 a1_1 l1_2 a1_3 a1_4 l1_5) else ((pentaglotref26_Place.f l0_0 l0_1 a0_2 l0_3 a2 a3).bind fun t479 => (if t479 = true then ((pentaglotref22_Binds.f a1_0).bind fun t480 => (pentaglotlaw26_EvaluateWitness.j0 k a2 a3 bt475.1 bt475.2.1 bt475.2.2 t478 (!t480) l0_0 l0_1 a0_2 l0_3 a1_0 a1_1 l1_2 a1_3 a1_4 l1_5)) else (pentaglotlaw26_EvaluateWitness.j0 k a2 a3 bt475.1 bt475.2.1 bt475.2.2 t478 true l0_0 l0_1 a0_2 l0_3 a1_0 a1_1 l1_2 a1_3 a1_4 l1_5)))))) else (some true))) else (some false))
theorem pentaglotlaw26_EvaluateWitness.calls (k : Nat) (A0_0 : Option Addr) (c0_0 : Nat) (l0_0 : List (S73)) (A0_1 : Option Addr) (c0_1 : Nat) (l0_1 : List Int) (a0_2 : Int) (A0_3 : Option Addr) (c0_3 : Nat) (l0_3 : List (S62)) (a1_0 : Int) (a1_1 : ByteArray) (A1_2 : Option Addr) (c1_2 : Nat) (l1_2 : List (S92)) (a1_3 : Int) (a1_4 : Int) (A1_5 : Option Addr) (c1_5 : Nat) (l1_5 : List (S32)) (a2 : Int) (a3 : Int) (r : Bool) (w : World) (hr0_0 : Kd.C k73 w A0_0 l0_0.length l0_0) (hc0_0 : l0_0.length ≤ c0_0) (hr0_1 : Kd.C (Kd.int .i64) w A0_1 l0_1.length l0_1) (hc0_1 : l0_1.length ≤ c0_1) (hr0_3 : Kd.C k62 w A0_3 l0_3.length l0_3) (hc0_3 : l0_3.length ≤ c0_3) (hr1_2 : Kd.C k92 w A1_2 l1_2.length l1_2) (hc1_2 : l1_2.length ≤ c1_2) (hr1_5 : Kd.C k32 w A1_5 l1_5.length l1_5) (hc1_5 : l1_5.length ≤ c1_5) (h : pentaglotlaw26_EvaluateWitness.f k l0_0 l0_1 a0_2 l0_3 a1_0 a1_1 l1_2 a1_3 a1_4 l1_5 a2 a3 = some r) (htb : Tb w) :
  Calls Tryd.prog 9 #[.agg #[.slice A0_0 l0_0.length c0_0, .slice A0_1 l0_1.length c0_1, .int .i64 a0_2, .slice A0_3 l0_3.length c0_3], .agg #[.int .i64 a1_0, .string a1_1, .slice A1_2 l1_2.length c1_2, .int .i64 a1_3, .int .i64 a1_4, .slice A1_5 l1_5.length c1_5], .int .i64 a2, .int .i64 a3] w fun e w' => e = .returned (.bool r) ∧ Below w.heap.size w w' := by
 have HTB := mk_ htb
 clear htb
 have hu28 := Tryd.underlying28
 have hu32 := Tryd.underlying32
 have HR0_0 := mk_ hr0_0; have HC0_0 := mk_ hc0_0; clear hr0_0 hc0_0
 have HR0_1 := mk_ hr0_1; have HC0_1 := mk_ hc0_1; clear hr0_1 hc0_1
 have HR0_3 := mk_ hr0_3; have HC0_3 := mk_ hc0_3; clear hr0_3 hc0_3
 have HR1_2 := mk_ hr1_2; have HC1_2 := mk_ hc1_2; clear hr1_2 hc1_2
 have HR1_5 := mk_ hr1_5; have HC1_5 := mk_ hc1_5; clear hr1_5 hc1_5
 have HB := mk_ (Below.refl w.heap.size w)
 have H : ((pentaglotlaw26_awake.f k).bind fun t473 => (if t473 = true then ((pentaglotref26_Light.f k l0_0 l0_1 a0_2 l0_3 a1_0 a1_1 l1_2 a1_3 a1_4 l1_5).bind fun t474 => (if t474 = true then ((evaluate_Witness.f k l0_0 l0_1 a0_2 l0_3 a1_0 a1_1 l1_2 a1_3 a1_4 l1_5 a2 a3).bind fun bt475 => ((pentaglotref26_Error.f k l0_0 l0_1 a0_2 l0_3 a1_0 a1_1 l1_2 a1_3 a1_4 l1_5).bind fun t478 => (if t478 = 1 then (pentaglotlaw26_EvaluateWitness.j0 k a2 a3 bt475.1 bt475.2.1 bt475.2.2 t478 false l0_0 l0_1 a0_2 l0_3 a1_0 a1_1 l1_2 a1_3 a1_4 l1_5) else ((pentaglotref26_Place.f l0_0 l0_1 a0_2 l0_3 a2 a3).bind fun t479 => (if t479 = true then ((pentaglotref22_Binds.f a1_0).bind fun t480 => (pentaglotlaw26_EvaluateWitness.j0 k a2 a3 bt475.1 bt475.2.1 bt475.2.2 t478 (!t480) l0_0 l0_1 a0_2 l0_3 a1_0 a1_1 l1_2 a1_3 a1_4 l1_5)) else (pentaglotlaw26_EvaluateWitness.j0 k a2 a3 bt475.1 bt475.2.1 bt475.2.2 t478 true l0_0 l0_1 a0_2 l0_3 a1_0 a1_1 l1_2 a1_3 a1_4 l1_5)))))) else (some true))) else (some false))) = some r := h
 clear h
 replace H := Option.bind_eq_some_iff.mp H
 obtain ⟨t473, A50, H⟩ := H
 replace H : (if t473 = true then ((pentaglotref26_Light.f k l0_0 l0_1 a0_2 l0_3 a1_0 a1_1 l1_2 a1_3 a1_4 l1_5).bind fun t474 => (if t474 = true then ((evaluate_Witness.f k l0_0 l0_1 a0_2 l0_3 a1_0 a1_1 l1_2 a1_3 a1_4 l1_5 a2 a3).bind fun bt475 => ((pentaglotref26_Error.f k l0_0 l0_1 a0_2 l0_3 a1_0 a1_1 l1_2 a1_3 a1_4 l1_5).bind fun t478 => (if t478 = 1 then (pentaglotlaw26_EvaluateWitness.j0 k a2 a3 bt475.1 bt475.2.1 bt475.2.2 t478 false l0_0 l0_1 a0_2 l0_3 a1_0 a1_1 l1_2 a1_3 a1_4 l1_5) else ((pentaglotref26_Place.f l0_0 l0_1 a0_2 l0_3 a2 a3).bind fun t479 => (if t479 = true then ((pentaglotref22_Binds.f a1_0).bind fun t480 => (pentaglotlaw26_EvaluateWitness.j0 k a2 a3 bt475.1 bt475.2.1 bt475.2.2 t478 (!t480) l0_0 l0_1 a0_2 l0_3 a1_0 a1_1 l1_2 a1_3 a1_4 l1_5)) else (pentaglotlaw26_EvaluateWitness.j0 k a2 a3 bt475.1 bt475.2.1 bt475.2.2 t478 true l0_0 l0_1 a0_2 l0_3 a1_0 a1_1 l1_2 a1_3 a1_4 l1_5)))))) else (some true))) else (some false)) = some r := H
 have A5 := mk_ A50
 clear A50
 by_cases c6 : t473 = true
 ·subst c6
  rw [if_pos rfl] at H
  replace H := Option.bind_eq_some_iff.mp H
  obtain ⟨t474, A70, H⟩ := H
  replace H : (if t474 = true then ((evaluate_Witness.f k l0_0 l0_1 a0_2 l0_3 a1_0 a1_1 l1_2 a1_3 a1_4 l1_5 a2 a3).bind fun bt475 => ((pentaglotref26_Error.f k l0_0 l0_1 a0_2 l0_3 a1_0 a1_1 l1_2 a1_3 a1_4 l1_5).bind fun t478 => (if t478 = 1 then (pentaglotlaw26_EvaluateWitness.j0 k a2 a3 bt475.1 bt475.2.1 bt475.2.2 t478 false l0_0 l0_1 a0_2 l0_3 a1_0 a1_1 l1_2 a1_3 a1_4 l1_5) else ((pentaglotref26_Place.f l0_0 l0_1 a0_2 l0_3 a2 a3).bind fun t479 => (if t479 = true then ((pentaglotref22_Binds.f a1_0).bind fun t480 => (pentaglotlaw26_EvaluateWitness.j0 k a2 a3 bt475.1 bt475.2.1 bt475.2.2 t478 (!t480) l0_0 l0_1 a0_2 l0_3 a1_0 a1_1 l1_2 a1_3 a1_4 l1_5)) else (pentaglotlaw26_EvaluateWitness.j0 k a2 a3 bt475.1 bt475.2.1 bt475.2.2 t478 true l0_0 l0_1 a0_2 l0_3 a1_0 a1_1 l1_2 a1_3 a1_4 l1_5)))))) else (some true)) = some r := H
  have A7 := mk_ A70
  clear A70
  by_cases c8 : t474 = true
  ·subst c8
   rw [if_pos rfl] at H
   replace H := Option.bind_eq_some_iff.mp H
   obtain ⟨⟨t475, t476, t477⟩, A90, H⟩ := H
   replace H : ((pentaglotref26_Error.f k l0_0 l0_1 a0_2 l0_3 a1_0 a1_1 l1_2 a1_3 a1_4 l1_5).bind fun t478 => (if t478 = 1 then (pentaglotlaw26_EvaluateWitness.j0 k a2 a3 t475 t476 t477 t478 false l0_0 l0_1 a0_2 l0_3 a1_0 a1_1 l1_2 a1_3 a1_4 l1_5) else ((pentaglotref26_Place.f l0_0 l0_1 a0_2 l0_3 a2 a3).bind fun t479 => (if t479 = true then ((pentaglotref22_Binds.f a1_0).bind fun t480 => (pentaglotlaw26_EvaluateWitness.j0 k a2 a3 t475 t476 t477 t478 (!t480) l0_0 l0_1 a0_2 l0_3 a1_0 a1_1 l1_2 a1_3 a1_4 l1_5)) else (pentaglotlaw26_EvaluateWitness.j0 k a2 a3 t475 t476 t477 t478 true l0_0 l0_1 a0_2 l0_3 a1_0 a1_1 l1_2 a1_3 a1_4 l1_5))))) = some r := H
   have A9 := mk_ A90
   clear A90
   replace H := Option.bind_eq_some_iff.mp H
   obtain ⟨t478, A100, H⟩ := H
   replace H : (if t478 = 1 then (pentaglotlaw26_EvaluateWitness.j0 k a2 a3 t475 t476 t477 t478 false l0_0 l0_1 a0_2 l0_3 a1_0 a1_1 l1_2 a1_3 a1_4 l1_5) else ((pentaglotref26_Place.f l0_0 l0_1 a0_2 l0_3 a2 a3).bind fun t479 => (if t479 = true then ((pentaglotref22_Binds.f a1_0).bind fun t480 => (pentaglotlaw26_EvaluateWitness.j0 k a2 a3 t475 t476 t477 t478 (!t480) l0_0 l0_1 a0_2 l0_3 a1_0 a1_1 l1_2 a1_3 a1_4 l1_5)) else (pentaglotlaw26_EvaluateWitness.j0 k a2 a3 t475 t476 t477 t478 true l0_0 l0_1 a0_2 l0_3 a1_0 a1_1 l1_2 a1_3 a1_4 l1_5)))) = some r := H
   have A10 := mk_ A100
   clear A100
   have HC11 := mk_ H
   clear H
   go_enter Tryd.func9, Tryd.ntmps9
   go_upto_region 7 with (first | ((with_reducible refine gate_dst (N := 4) rfl ?_); refine bx_ 4 #[.slice A0_0 l0_0.length c0_0, .slice A0_1 l0_1.length c0_1, .int .i64 a0_2, .slice A0_3 l0_3.length c0_3] 28 ?_; intro gb471 hg w12 hbox hb; have BK471 := mk_ (hbox); have GW471 := mk_ (gs_ hg (be_ HB)); have GE471 := mk_ (gs_ hg (be_ HB)); replace HB := mk_ (below_step (be_ HB) hb); clear hb hbox hg) | ((with_reducible refine gate_dst (N := 5) rfl ?_); refine bx_ 5 #[.int .i64 a1_0, .string a1_1, .slice A1_2 l1_2.length c1_2, .int .i64 a1_3, .int .i64 a1_4, .slice A1_5 l1_5.length c1_5] 32 ?_; intro gb472 hg w13 hbox hb; have n0_ := mk_ (bb_ BK471 hb); have n1_ := mk_ (below_step (be1_ HB GE471) hb); have n2_ := mk_ (hbox); have n3_ := mk_ (gs_ hg (be1_ HB GE471)); have n4_ := mk_ (gs_ hg (be1_ HB GE471)); have n5_ := mk_ ((by rw [hg]; exact Nat.ne_of_lt (blk_lt (g := gb471) (o := .cells #[.slice A0_0 l0_0.length c0_0, .slice A0_1 l0_1.length c0_1, .int .i64 a0_2, .slice A0_3 l0_3.length c0_3] 28 (0, 0)) (bq_ BK471)) : gb471 ≠ gb472)); have n6_ := mk_ ((by rw [hg]; exact Nat.ne_of_gt (blk_lt (g := gb471) (o := .cells #[.slice A0_0 l0_0.length c0_0, .slice A0_1 l0_1.length c0_1, .int .i64 a0_2, .slice A0_3 l0_3.length c0_3] 28 (0, 0)) (bq_ BK471)) : gb472 ≠ gb471)); clear BK471; clear HB; have BK471 := n0_; have HB := n1_; have BK472 := n2_; have GW472 := n3_; have GE472 := n4_; have NB471_472 := n5_; have NB472_471 := n6_; clear n0_ n1_ n2_ n3_ n4_ n5_ n6_; clear hb hbox hg) | ((with_reducible refine gate_callee (f := 12) rfl ?_); refine gl_ (some 17) Tryd.func12 #[] ?_; (with_reducible refine (pentaglotlaw26_awake.calls k  true _ A5.out (tb_on HTB.out (be2_ HB GE471 GE472))).mono ?_); rintro e w14 ⟨rfl, hb⟩; refine ⟨_, rfl, ?_⟩; replace BK471 := mk_ (bb_ BK471 hb); replace BK472 := mk_ (bb_ BK472 hb); replace HB := mk_ (below_step (be2_ HB GE471 GE472) hb); have hnb15 := NB471_472.out; have hnc15 := NB472_471.out; obtain ⟨_, _, _, _, _, _, _, _⟩ := hb4_ BK471; obtain ⟨_, _, _, _, _, _, _, _, _, _, _, _⟩ := hb6_ BK472) | ((with_reducible refine gate_callee (f := 13) rfl ?_); refine gl_ (some 21) Tryd.func13 #[.agg #[.slice A0_0 l0_0.length c0_0, .slice A0_1 l0_1.length c0_1, .int .i64 a0_2, .slice A0_3 l0_3.length c0_3], .agg #[.int .i64 a1_0, .string a1_1, .slice A1_2 l1_2.length c1_2, .int .i64 a1_3, .int .i64 a1_4, .slice A1_5 l1_5.length c1_5]] ?_; (with_reducible refine (pentaglotref26_Light.calls k _ _ l0_0 _ _ l0_1 a0_2 _ _ l0_3 a1_0 a1_1 _ _ l1_2 a1_3 a1_4 _ _ l1_5 true _ ?side1 ?side2 ?side3 ?side4 ?side5 ?side6 ?side7 ?side8 ?side9 ?side10 A7.out).mono ?_); (case side1 => exact cs_ (Kd.C_below HR0_0.out HB.out)); (case side2 => exact HC0_0.out); (case side3 => exact cs_ (Kd.C_below HR0_1.out HB.out)); (case side4 => exact HC0_1.out); (case side5 => exact cs_ (Kd.C_below HR0_3.out HB.out)); (case side6 => exact HC0_3.out); (case side7 => exact cs_ (Kd.C_below HR1_2.out HB.out)); (case side8 => exact HC1_2.out); (case side9 => exact cs_ (Kd.C_below HR1_5.out HB.out)); (case side10 => exact HC1_5.out); rintro e w18 ⟨rfl, hb⟩; refine ⟨_, rfl, ?_⟩; replace BK471 := mk_ (bb_ BK471 hb); replace BK472 := mk_ (bb_ BK472 hb); replace HB := mk_ (below_step (be2_ HB GE471 GE472) hb); obtain ⟨_, _, _, _, _, _, _, _⟩ := hb4_ BK471; obtain ⟨_, _, _, _, _, _, _, _, _, _, _, _⟩ := hb6_ BK472) | ((with_reducible refine gate_callee (f := 27) rfl ?_); refine gl_ (some 28) Tryd.func27 #[.agg #[.slice A0_0 l0_0.length c0_0, .slice A0_1 l0_1.length c0_1, .int .i64 a0_2, .slice A0_3 l0_3.length c0_3], .agg #[.int .i64 a1_0, .string a1_1, .slice A1_2 l1_2.length c1_2, .int .i64 a1_3, .int .i64 a1_4, .slice A1_5 l1_5.length c1_5], .int .i64 a2, .int .i64 a3] ?_; (with_reducible refine (evaluate_Witness.calls k _ _ l0_0 _ _ l0_1 a0_2 _ _ l0_3 a1_0 a1_1 _ _ l1_2 a1_3 a1_4 _ _ l1_5 a2 a3 t475 t476 t477 _ ?side1 ?side2 ?side3 ?side4 ?side5 ?side6 ?side7 ?side8 ?side9 ?side10 A9.out (tb_on HTB.out (be2_ HB GE471 GE472))).mono ?_); (case side1 => exact cs_ (Kd.C_below HR0_0.out HB.out)); (case side2 => exact HC0_0.out); (case side3 => exact cs_ (Kd.C_below HR0_1.out HB.out)); (case side4 => exact HC0_1.out); (case side5 => exact cs_ (Kd.C_below HR0_3.out HB.out)); (case side6 => exact HC0_3.out); (case side7 => exact cs_ (Kd.C_below HR1_2.out HB.out)); (case side8 => exact HC1_2.out); (case side9 => exact cs_ (Kd.C_below HR1_5.out HB.out)); (case side10 => exact HC1_5.out); rintro e w21 ⟨rfl, hb⟩; refine ⟨_, rfl, ?_⟩; replace BK471 := mk_ (bb_ BK471 hb); replace BK472 := mk_ (bb_ BK472 hb); replace HB := mk_ (below_step (be2_ HB GE471 GE472) hb); obtain ⟨_, _, _, _, _, _, _, _⟩ := hb4_ BK471; obtain ⟨_, _, _, _, _, _, _, _, _, _, _, _⟩ := hb6_ BK472) | ((with_reducible refine gate_callee (f := 15) rfl ?_); refine gl_ (some 34) Tryd.func15 #[.agg #[.slice A0_0 l0_0.length c0_0, .slice A0_1 l0_1.length c0_1, .int .i64 a0_2, .slice A0_3 l0_3.length c0_3], .agg #[.int .i64 a1_0, .string a1_1, .slice A1_2 l1_2.length c1_2, .int .i64 a1_3, .int .i64 a1_4, .slice A1_5 l1_5.length c1_5]] ?_; (with_reducible refine (pentaglotref26_Error.calls k _ _ l0_0 _ _ l0_1 a0_2 _ _ l0_3 a1_0 a1_1 _ _ l1_2 a1_3 a1_4 _ _ l1_5 t478 _ ?side1 ?side2 ?side3 ?side4 ?side5 ?side6 ?side7 ?side8 ?side9 ?side10 A10.out).mono ?_); (case side1 => exact cs_ (Kd.C_below HR0_0.out HB.out)); (case side2 => exact HC0_0.out); (case side3 => exact cs_ (Kd.C_below HR0_1.out HB.out)); (case side4 => exact HC0_1.out); (case side5 => exact cs_ (Kd.C_below HR0_3.out HB.out)); (case side6 => exact HC0_3.out); (case side7 => exact cs_ (Kd.C_below HR1_2.out HB.out)); (case side8 => exact HC1_2.out); (case side9 => exact cs_ (Kd.C_below HR1_5.out HB.out)); (case side10 => exact HC1_5.out); rintro e w24 ⟨rfl, hb⟩; refine ⟨_, rfl, ?_⟩; replace BK471 := mk_ (bb_ BK471 hb); replace BK472 := mk_ (bb_ BK472 hb); replace HB := mk_ (below_step (be2_ HB GE471 GE472) hb)))
   (try simp only [Act.put, List.setIfInBounds_toArray, List.set_cons_zero, List.set_cons_succ])
   go_cut [49] (fun v49 wc => ∃ (kq : Nat) (x49_10 : Bool), v49 = .bool x49_10 ∧ Aside0 (pentaglotlaw26_EvaluateWitness.j0 kq a2 a3 t475 t476 t477 t478 x49_10 l0_0 l0_1 a0_2 l0_3 a1_0 a1_1 l1_2 a1_3 a1_4 l1_5 = some r) ∧ Aside0 (kq ≤ k) ∧ Aside0 (wc.heap[gb471]? = some (.cells #[(.slice A0_0 l0_0.length c0_0), (.slice A0_1 l0_1.length c0_1), .int .i64 a0_2, (.slice A0_3 l0_3.length c0_3)] 28 (0, 0))) ∧ Aside0 (wc.heap[gb472]? = some (.cells #[.int .i64 a1_0, .string a1_1, (.slice A1_2 l1_2.length c1_2), .int .i64 a1_3, .int .i64 a1_4, (.slice A1_5 l1_5.length c1_5)] 32 (0, 0))) ∧ Aside0 (Below w.heap.size w wc))
   case first =>
    have H := HC11.out
    clear HC11
    by_cases c25 : t478 = 1
    ·rw [if_pos c25] at H
     obtain ⟨c25b0, c25b1⟩ := eb_ c25
     clear c25
     (first | rw [c25b0] | (simp only [i64_w, i32_w]; rw [c25b0]) | skip)
     have H' := mk_ H
     clear H
     go_wp2
     go_meet
     case rel => exact ⟨_, (false), (by first | rfl | (simp; done) | (simp [*]; done) | (simp [pw_isEmpty]; done)), H', ⟨by first | omega | exact Nat.le_refl _⟩, ⟨bq_ BK471⟩, ⟨bq_ BK472⟩, ⟨be2_ HB GE471 GE472⟩⟩
    ·rw [if_neg c25] at H
     obtain ⟨c25b0, c25b1⟩ := en_ c25
     (first | rw [c25b0] | (simp only [i64_w, i32_w]; rw [c25b0]) | skip)
     replace H := Option.bind_eq_some_iff.mp H
     obtain ⟨t479, A260, H⟩ := H
     replace H : (if t479 = true then ((pentaglotref22_Binds.f a1_0).bind fun t480 => (pentaglotlaw26_EvaluateWitness.j0 k a2 a3 t475 t476 t477 t478 (!t480) l0_0 l0_1 a0_2 l0_3 a1_0 a1_1 l1_2 a1_3 a1_4 l1_5)) else (pentaglotlaw26_EvaluateWitness.j0 k a2 a3 t475 t476 t477 t478 true l0_0 l0_1 a0_2 l0_3 a1_0 a1_1 l1_2 a1_3 a1_4 l1_5)) = some r := H
     have A26 := mk_ A260
     clear A260
     by_cases c27 : t479 = true
     ·subst c27
      rw [if_pos rfl] at H
      replace H := Option.bind_eq_some_iff.mp H
      obtain ⟨t480, A280, H⟩ := H
      replace H : (pentaglotlaw26_EvaluateWitness.j0 k a2 a3 t475 t476 t477 t478 (!t480) l0_0 l0_1 a0_2 l0_3 a1_0 a1_1 l1_2 a1_3 a1_4 l1_5) = some r := H
      have A28 := mk_ A280
      clear A280
      have H' := mk_ H
      clear H
      have hnb29 := NB471_472.out
      have hnc29 := NB472_471.out
      obtain ⟨_, _, _, _, _, _, _, _⟩ := hb4_ BK471
      go_wp2_with (first | (go_at_call 16; (with_reducible refine (pentaglotref26_Place.calls _ _ l0_0 _ _ l0_1 a0_2 _ _ l0_3 a2 a3 true _ ?side1 ?side2 ?side3 ?side4 ?side5 ?side6 A26.out).mono ?_); (case side1 => exact cs_ (Kd.C_below HR0_0.out HB.out)); (case side2 => exact HC0_0.out); (case side3 => exact cs_ (Kd.C_below HR0_1.out HB.out)); (case side4 => exact HC0_1.out); (case side5 => exact cs_ (Kd.C_below HR0_3.out HB.out)); (case side6 => exact HC0_3.out); rintro e w31 ⟨rfl, hb⟩; replace BK471 := mk_ (bb_ BK471 hb); replace BK472 := mk_ (bb_ BK472 hb); replace HB := mk_ (below_step (be2_ HB GE471 GE472) hb); obtain ⟨_, _, _, _, _, _, _, _, _, _, _, _⟩ := hb6_ BK472) | (go_at_call 28; (with_reducible refine (pentaglotref22_Binds.calls a1_0 t480 _ A28.out).mono ?_); rintro e w' ⟨rfl, ⟨nd, rfl⟩⟩))
      go_meet
      case rel => exact ⟨_, (!t480), (by first | rfl | (simp; done) | (simp [*]; done) | (simp [pw_isEmpty]; done)), H', ⟨by first | omega | exact Nat.le_refl _⟩, ⟨bq_ BK471⟩, ⟨bq_ BK472⟩, ⟨be2_ HB GE471 GE472⟩⟩
     ·replace c27 := Bool.eq_false_iff.mpr c27
      subst c27
      rw [if_neg nf_] at H
      have H' := mk_ H
      clear H
      have hnb33 := NB471_472.out
      have hnc33 := NB472_471.out
      obtain ⟨_, _, _, _, _, _, _, _⟩ := hb4_ BK471
      go_wp2_with (first | (go_at_call 16; (with_reducible refine (pentaglotref26_Place.calls _ _ l0_0 _ _ l0_1 a0_2 _ _ l0_3 a2 a3 false _ ?side1 ?side2 ?side3 ?side4 ?side5 ?side6 A26.out).mono ?_); (case side1 => exact cs_ (Kd.C_below HR0_0.out HB.out)); (case side2 => exact HC0_0.out); (case side3 => exact cs_ (Kd.C_below HR0_1.out HB.out)); (case side4 => exact HC0_1.out); (case side5 => exact cs_ (Kd.C_below HR0_3.out HB.out)); (case side6 => exact HC0_3.out); rintro e w35 ⟨rfl, hb⟩; replace BK471 := mk_ (bb_ BK471 hb); replace BK472 := mk_ (bb_ BK472 hb); replace HB := mk_ (below_step (be2_ HB GE471 GE472) hb)))
      go_meet
      case rel => exact ⟨_, (true), (by first | rfl | (simp; done) | (simp [*]; done) | (simp [pw_isEmpty]; done)), H', ⟨by first | omega | exact Nat.le_refl _⟩, ⟨bq_ BK471⟩, ⟨bq_ BK472⟩, ⟨be2_ HB GE471 GE472⟩⟩
   case rest =>
    clear HC11
    obtain ⟨kq, x49_10, rfl, HA, HJ10, BK471, BK472, HB⟩ := hcut
    cases kq with
    | zero => exact absurd HA.out (by simp [pentaglotlaw26_EvaluateWitness.j0])
    | succ kj10 =>
     have H := HA.out
     clear HA
     simp only [pentaglotlaw26_EvaluateWitness.j0] at H
     have HC36 := mk_ H
     clear H
     go_upto_if 49 with (fail)
     go_cut [12] (fun v12 wc => ∃ (kq : Nat) (x12_35 : Int), v12 = .int .i64 x12_35 ∧ Aside0 (pentaglotlaw26_EvaluateWitness.j1 kq a2 a3 t475 t476 t477 x12_35 l0_0 l0_1 a0_2 l0_3 a1_0 a1_1 l1_2 a1_3 a1_4 l1_5 = some r) ∧ Aside0 (kq ≤ kj10) ∧ Aside0 (wc.heap[gb471]? = some (.cells #[(.slice A0_0 l0_0.length c0_0), (.slice A0_1 l0_1.length c0_1), .int .i64 a0_2, (.slice A0_3 l0_3.length c0_3)] 28 (0, 0))) ∧ Aside0 (wc.heap[gb472]? = some (.cells #[.int .i64 a1_0, .string a1_1, (.slice A1_2 l1_2.length c1_2), .int .i64 a1_3, .int .i64 a1_4, (.slice A1_5 l1_5.length c1_5)] 32 (0, 0))) ∧ Aside0 (Below w.heap.size w wc))
     case first =>
      have H := HC36.out
      clear HC36
      by_cases c37 : x49_10 = true
      ·subst c37
       rw [if_pos rfl] at H
       have H' := mk_ H
       clear H
       go_wp2
       go_meet
       case rel => exact ⟨_, (1), (by first | rfl | (simp; done) | (simp [*]; done) | (simp [pw_isEmpty]; done)), H', ⟨by have := HJ10.out; first | omega | exact Nat.le_refl _⟩, ⟨bq_ BK471⟩, ⟨bq_ BK472⟩, ⟨be2_ HB GE471 GE472⟩⟩
      ·replace c37 := Bool.eq_false_iff.mpr c37
       subst c37
       rw [if_neg nf_] at H
       have H' := mk_ H
       clear H
       go_wp2
       go_meet
       case rel => exact ⟨_, (t478), (by first | rfl | (simp; done) | (simp [*]; done) | (simp [pw_isEmpty]; done)), H', ⟨by have := HJ10.out; first | omega | exact Nat.le_refl _⟩, ⟨bq_ BK471⟩, ⟨bq_ BK472⟩, ⟨be2_ HB GE471 GE472⟩⟩
     case rest =>
      clear HC36
      obtain ⟨kq, x12_35, rfl, HA, HJ35, BK471, BK472, HB⟩ := hcut
      cases kq with
      | zero => exact absurd HA.out (by simp [pentaglotlaw26_EvaluateWitness.j1])
      | succ kj35 =>
       have H := HA.out
       clear HA
       simp only [pentaglotlaw26_EvaluateWitness.j1] at H
       by_cases c38 : x12_35 = 0
       ·rw [if_pos c38] at H
        obtain ⟨c38b0, c38b1⟩ := eb_ c38
        clear c38
        replace H := Option.bind_eq_some_iff.mp H
        obtain ⟨⟨t481, t482⟩, A390, H⟩ := H
        replace H : ((pentaglotlaw26_at.f kj35 l0_0 l0_1 a0_2 l0_3 a1_0 a1_1 l1_2 a1_3 a1_4 l1_5 a2 a3).bind fun bt483 => (if t477 = 0 then (if t475.toList = t481.toList then (if (t476 == t482) = true then (if bt483.2 = true then (some (bt483.1 == (t476 == (a1_0 == 9)))) else (some false)) else (some false)) else (some false)) else (some false))) = some r := H
        have A39 := mk_ A390
        clear A390
        replace H := Option.bind_eq_some_iff.mp H
        obtain ⟨⟨t483, t484⟩, A400, H⟩ := H
        replace H : (if t477 = 0 then (if t475.toList = t481.toList then (if (t476 == t482) = true then (if t484 = true then (some (t483 == (t476 == (a1_0 == 9)))) else (some false)) else (some false)) else (some false)) else (some false)) = some r := H
        have A40 := mk_ A400
        clear A400
        by_cases c41 : t477 = 0
        ·rw [if_pos c41] at H
         obtain ⟨c41b0, c41b1⟩ := eb_ c41
         clear c41
         by_cases c42 : t475.toList = t481.toList
         ·rw [if_pos c42] at H
          obtain ⟨c42b0, c42b1⟩ := eb_ c42
          clear c42
          by_cases c43 : (t476 == t482) = true
          ·rw [if_pos c43] at H
           have c43b0 : (t476 == t482) = true := c43
           (try (have c43b1 : decide (t476 = t482) = true := by simpa using c43))
           (try (have c43b2 : (t476 == t482) = true := by simpa using c43))
           clear c43
           by_cases c44 : t484 = true
           ·subst c44
            rw [if_pos rfl] at H
            obtain rfl := Option.some.inj H
            have hnb45 := NB471_472.out
            have hnc45 := NB472_471.out
            obtain ⟨_, _, _, _, _, _, _, _⟩ := hb4_ BK471
            obtain ⟨_, _, _, _, _, _, _, _, _, _, _, _⟩ := hb6_ BK472
            go_wp2_with (first | ((with_reducible refine gate_callee (f := 29) rfl ?_); refine gl_ (some 68) Tryd.func29 #[.agg #[.slice A0_0 l0_0.length c0_0, .slice A0_1 l0_1.length c0_1, .int .i64 a0_2, .slice A0_3 l0_3.length c0_3], .agg #[.int .i64 a1_0, .string a1_1, .slice A1_2 l1_2.length c1_2, .int .i64 a1_3, .int .i64 a1_4, .slice A1_5 l1_5.length c1_5], .slice none 0 0, .int .i64 a2, .int .i64 a3] ?_; (refine (pentaglotref26_Witness.calls kj35 _ _ l0_0 _ _ l0_1 a0_2 _ _ l0_3 a1_0 a1_1 _ _ l1_2 a1_3 a1_4 _ _ l1_5 _ _ ([] : List ByteArray) a2 a3 t481 t482 _ ?side1 ?side2 ?side3 ?side4 ?side5 ?side6 ?side7 ?side8 ?side9 ?side10 ?side11 ?side12 A39.out).mono ?_); (case side1 => exact cs_ (Kd.C_below HR0_0.out HB.out)); (case side2 => exact HC0_0.out); (case side3 => exact cs_ (Kd.C_below HR0_1.out HB.out)); (case side4 => exact HC0_1.out); (case side5 => exact cs_ (Kd.C_below HR0_3.out HB.out)); (case side6 => exact HC0_3.out); (case side7 => exact cs_ (Kd.C_below HR1_2.out HB.out)); (case side8 => exact HC1_2.out); (case side9 => exact cs_ (Kd.C_below HR1_5.out HB.out)); (case side10 => exact HC1_5.out); (case side11 => exact Kd.C_nil _ _); (case side12 => exact Nat.le_refl _); rintro e w48 ⟨rfl, hb⟩; refine ⟨_, rfl, ?_⟩; replace BK471 := mk_ (bb_ BK471 hb); replace BK472 := mk_ (bb_ BK472 hb); replace HB := mk_ (below_step (be2_ HB GE471 GE472) hb); obtain ⟨_, _, _, _, _, _, _, _⟩ := hb4_ BK471; obtain ⟨_, _, _, _, _, _, _, _, _, _, _, _⟩ := hb6_ BK472) | ((with_reducible refine gate_callee (f := 20) rfl ?_); refine gl_ (some 76) Tryd.func20 #[.agg #[.slice A0_0 l0_0.length c0_0, .slice A0_1 l0_1.length c0_1, .int .i64 a0_2, .slice A0_3 l0_3.length c0_3], .agg #[.int .i64 a1_0, .string a1_1, .slice A1_2 l1_2.length c1_2, .int .i64 a1_3, .int .i64 a1_4, .slice A1_5 l1_5.length c1_5], .int .i64 a2, .int .i64 a3] ?_; (with_reducible refine (pentaglotlaw26_at.calls kj35 _ _ l0_0 _ _ l0_1 a0_2 _ _ l0_3 a1_0 a1_1 _ _ l1_2 a1_3 a1_4 _ _ l1_5 a2 a3 t483 true _ ?side1 ?side2 ?side3 ?side4 ?side5 ?side6 ?side7 ?side8 ?side9 ?side10 A40.out (tb_on HTB.out (be2_ HB GE471 GE472))).mono ?_); (case side1 => exact cs_ (Kd.C_below HR0_0.out HB.out)); (case side2 => exact HC0_0.out); (case side3 => exact cs_ (Kd.C_below HR0_1.out HB.out)); (case side4 => exact HC0_1.out); (case side5 => exact cs_ (Kd.C_below HR0_3.out HB.out)); (case side6 => exact HC0_3.out); (case side7 => exact cs_ (Kd.C_below HR1_2.out HB.out)); (case side8 => exact HC1_2.out); (case side9 => exact cs_ (Kd.C_below HR1_5.out HB.out)); (case side10 => exact HC1_5.out); rintro e w51 ⟨rfl, hb⟩; refine ⟨_, rfl, ?_⟩; replace BK471 := mk_ (bb_ BK471 hb); replace BK472 := mk_ (bb_ BK472 hb); replace HB := mk_ (below_step (be2_ HB GE471 GE472) hb); obtain ⟨_, _, _, _, _, _, _, _, _, _, _, _⟩ := hb6_ BK472))
            go_ret
            exact ⟨er_, be2_ HB GE471 GE472⟩
           ·replace c44 := Bool.eq_false_iff.mpr c44
            subst c44
            rw [if_neg nf_] at H
            obtain rfl := Option.some.inj H
            have hnb53 := NB471_472.out
            have hnc53 := NB472_471.out
            obtain ⟨_, _, _, _, _, _, _, _⟩ := hb4_ BK471
            obtain ⟨_, _, _, _, _, _, _, _, _, _, _, _⟩ := hb6_ BK472
            go_wp2_with (first | ((with_reducible refine gate_callee (f := 29) rfl ?_); refine gl_ (some 68) Tryd.func29 #[.agg #[.slice A0_0 l0_0.length c0_0, .slice A0_1 l0_1.length c0_1, .int .i64 a0_2, .slice A0_3 l0_3.length c0_3], .agg #[.int .i64 a1_0, .string a1_1, .slice A1_2 l1_2.length c1_2, .int .i64 a1_3, .int .i64 a1_4, .slice A1_5 l1_5.length c1_5], .slice none 0 0, .int .i64 a2, .int .i64 a3] ?_; (refine (pentaglotref26_Witness.calls kj35 _ _ l0_0 _ _ l0_1 a0_2 _ _ l0_3 a1_0 a1_1 _ _ l1_2 a1_3 a1_4 _ _ l1_5 _ _ ([] : List ByteArray) a2 a3 t481 t482 _ ?side1 ?side2 ?side3 ?side4 ?side5 ?side6 ?side7 ?side8 ?side9 ?side10 ?side11 ?side12 A39.out).mono ?_); (case side1 => exact cs_ (Kd.C_below HR0_0.out HB.out)); (case side2 => exact HC0_0.out); (case side3 => exact cs_ (Kd.C_below HR0_1.out HB.out)); (case side4 => exact HC0_1.out); (case side5 => exact cs_ (Kd.C_below HR0_3.out HB.out)); (case side6 => exact HC0_3.out); (case side7 => exact cs_ (Kd.C_below HR1_2.out HB.out)); (case side8 => exact HC1_2.out); (case side9 => exact cs_ (Kd.C_below HR1_5.out HB.out)); (case side10 => exact HC1_5.out); (case side11 => exact Kd.C_nil _ _); (case side12 => exact Nat.le_refl _); rintro e w56 ⟨rfl, hb⟩; refine ⟨_, rfl, ?_⟩; replace BK471 := mk_ (bb_ BK471 hb); replace BK472 := mk_ (bb_ BK472 hb); replace HB := mk_ (below_step (be2_ HB GE471 GE472) hb); obtain ⟨_, _, _, _, _, _, _, _⟩ := hb4_ BK471; obtain ⟨_, _, _, _, _, _, _, _, _, _, _, _⟩ := hb6_ BK472) | ((with_reducible refine gate_callee (f := 20) rfl ?_); refine gl_ (some 76) Tryd.func20 #[.agg #[.slice A0_0 l0_0.length c0_0, .slice A0_1 l0_1.length c0_1, .int .i64 a0_2, .slice A0_3 l0_3.length c0_3], .agg #[.int .i64 a1_0, .string a1_1, .slice A1_2 l1_2.length c1_2, .int .i64 a1_3, .int .i64 a1_4, .slice A1_5 l1_5.length c1_5], .int .i64 a2, .int .i64 a3] ?_; (with_reducible refine (pentaglotlaw26_at.calls kj35 _ _ l0_0 _ _ l0_1 a0_2 _ _ l0_3 a1_0 a1_1 _ _ l1_2 a1_3 a1_4 _ _ l1_5 a2 a3 t483 false _ ?side1 ?side2 ?side3 ?side4 ?side5 ?side6 ?side7 ?side8 ?side9 ?side10 A40.out (tb_on HTB.out (be2_ HB GE471 GE472))).mono ?_); (case side1 => exact cs_ (Kd.C_below HR0_0.out HB.out)); (case side2 => exact HC0_0.out); (case side3 => exact cs_ (Kd.C_below HR0_1.out HB.out)); (case side4 => exact HC0_1.out); (case side5 => exact cs_ (Kd.C_below HR0_3.out HB.out)); (case side6 => exact HC0_3.out); (case side7 => exact cs_ (Kd.C_below HR1_2.out HB.out)); (case side8 => exact HC1_2.out); (case side9 => exact cs_ (Kd.C_below HR1_5.out HB.out)); (case side10 => exact HC1_5.out); rintro e w59 ⟨rfl, hb⟩; refine ⟨_, rfl, ?_⟩; replace BK471 := mk_ (bb_ BK471 hb); replace BK472 := mk_ (bb_ BK472 hb); replace HB := mk_ (below_step (be2_ HB GE471 GE472) hb)))
            go_ret
            exact ⟨er_, be2_ HB GE471 GE472⟩
          ·rw [if_neg c43] at H
           have c43b0 : (t476 == t482) = false := by simpa using c43
           (try (have c43b1 : decide (t476 = t482) = false := by simpa using c43))
           (try (have c43b2 : (t476 == t482) = false := by simpa using c43))
           (try (have c43b3 : ¬ (t476 = t482) := by simpa using c43))
           clear c43
           obtain rfl := Option.some.inj H
           have hnb60 := NB471_472.out
           have hnc60 := NB472_471.out
           obtain ⟨_, _, _, _, _, _, _, _⟩ := hb4_ BK471
           obtain ⟨_, _, _, _, _, _, _, _, _, _, _, _⟩ := hb6_ BK472
           go_wp2_with (first | ((with_reducible refine gate_callee (f := 29) rfl ?_); refine gl_ (some 68) Tryd.func29 #[.agg #[.slice A0_0 l0_0.length c0_0, .slice A0_1 l0_1.length c0_1, .int .i64 a0_2, .slice A0_3 l0_3.length c0_3], .agg #[.int .i64 a1_0, .string a1_1, .slice A1_2 l1_2.length c1_2, .int .i64 a1_3, .int .i64 a1_4, .slice A1_5 l1_5.length c1_5], .slice none 0 0, .int .i64 a2, .int .i64 a3] ?_; (refine (pentaglotref26_Witness.calls kj35 _ _ l0_0 _ _ l0_1 a0_2 _ _ l0_3 a1_0 a1_1 _ _ l1_2 a1_3 a1_4 _ _ l1_5 _ _ ([] : List ByteArray) a2 a3 t481 t482 _ ?side1 ?side2 ?side3 ?side4 ?side5 ?side6 ?side7 ?side8 ?side9 ?side10 ?side11 ?side12 A39.out).mono ?_); (case side1 => exact cs_ (Kd.C_below HR0_0.out HB.out)); (case side2 => exact HC0_0.out); (case side3 => exact cs_ (Kd.C_below HR0_1.out HB.out)); (case side4 => exact HC0_1.out); (case side5 => exact cs_ (Kd.C_below HR0_3.out HB.out)); (case side6 => exact HC0_3.out); (case side7 => exact cs_ (Kd.C_below HR1_2.out HB.out)); (case side8 => exact HC1_2.out); (case side9 => exact cs_ (Kd.C_below HR1_5.out HB.out)); (case side10 => exact HC1_5.out); (case side11 => exact Kd.C_nil _ _); (case side12 => exact Nat.le_refl _); rintro e w63 ⟨rfl, hb⟩; refine ⟨_, rfl, ?_⟩; replace BK471 := mk_ (bb_ BK471 hb); replace BK472 := mk_ (bb_ BK472 hb); replace HB := mk_ (below_step (be2_ HB GE471 GE472) hb); obtain ⟨_, _, _, _, _, _, _, _⟩ := hb4_ BK471; obtain ⟨_, _, _, _, _, _, _, _, _, _, _, _⟩ := hb6_ BK472) | ((with_reducible refine gate_callee (f := 20) rfl ?_); refine gl_ (some 76) Tryd.func20 #[.agg #[.slice A0_0 l0_0.length c0_0, .slice A0_1 l0_1.length c0_1, .int .i64 a0_2, .slice A0_3 l0_3.length c0_3], .agg #[.int .i64 a1_0, .string a1_1, .slice A1_2 l1_2.length c1_2, .int .i64 a1_3, .int .i64 a1_4, .slice A1_5 l1_5.length c1_5], .int .i64 a2, .int .i64 a3] ?_; (with_reducible refine (pentaglotlaw26_at.calls kj35 _ _ l0_0 _ _ l0_1 a0_2 _ _ l0_3 a1_0 a1_1 _ _ l1_2 a1_3 a1_4 _ _ l1_5 a2 a3 t483 t484 _ ?side1 ?side2 ?side3 ?side4 ?side5 ?side6 ?side7 ?side8 ?side9 ?side10 A40.out (tb_on HTB.out (be2_ HB GE471 GE472))).mono ?_); (case side1 => exact cs_ (Kd.C_below HR0_0.out HB.out)); (case side2 => exact HC0_0.out); (case side3 => exact cs_ (Kd.C_below HR0_1.out HB.out)); (case side4 => exact HC0_1.out); (case side5 => exact cs_ (Kd.C_below HR0_3.out HB.out)); (case side6 => exact HC0_3.out); (case side7 => exact cs_ (Kd.C_below HR1_2.out HB.out)); (case side8 => exact HC1_2.out); (case side9 => exact cs_ (Kd.C_below HR1_5.out HB.out)); (case side10 => exact HC1_5.out); rintro e w66 ⟨rfl, hb⟩; refine ⟨_, rfl, ?_⟩; replace BK471 := mk_ (bb_ BK471 hb); replace BK472 := mk_ (bb_ BK472 hb); replace HB := mk_ (below_step (be2_ HB GE471 GE472) hb)))
           go_ret
           exact ⟨er_, be2_ HB GE471 GE472⟩
         ·rw [if_neg c42] at H
          obtain ⟨c42b0, c42b1⟩ := en_ c42
          obtain rfl := Option.some.inj H
          have hnb67 := NB471_472.out
          have hnc67 := NB472_471.out
          obtain ⟨_, _, _, _, _, _, _, _⟩ := hb4_ BK471
          obtain ⟨_, _, _, _, _, _, _, _, _, _, _, _⟩ := hb6_ BK472
          go_wp2_with (first | ((with_reducible refine gate_callee (f := 29) rfl ?_); refine gl_ (some 68) Tryd.func29 #[.agg #[.slice A0_0 l0_0.length c0_0, .slice A0_1 l0_1.length c0_1, .int .i64 a0_2, .slice A0_3 l0_3.length c0_3], .agg #[.int .i64 a1_0, .string a1_1, .slice A1_2 l1_2.length c1_2, .int .i64 a1_3, .int .i64 a1_4, .slice A1_5 l1_5.length c1_5], .slice none 0 0, .int .i64 a2, .int .i64 a3] ?_; (refine (pentaglotref26_Witness.calls kj35 _ _ l0_0 _ _ l0_1 a0_2 _ _ l0_3 a1_0 a1_1 _ _ l1_2 a1_3 a1_4 _ _ l1_5 _ _ ([] : List ByteArray) a2 a3 t481 t482 _ ?side1 ?side2 ?side3 ?side4 ?side5 ?side6 ?side7 ?side8 ?side9 ?side10 ?side11 ?side12 A39.out).mono ?_); (case side1 => exact cs_ (Kd.C_below HR0_0.out HB.out)); (case side2 => exact HC0_0.out); (case side3 => exact cs_ (Kd.C_below HR0_1.out HB.out)); (case side4 => exact HC0_1.out); (case side5 => exact cs_ (Kd.C_below HR0_3.out HB.out)); (case side6 => exact HC0_3.out); (case side7 => exact cs_ (Kd.C_below HR1_2.out HB.out)); (case side8 => exact HC1_2.out); (case side9 => exact cs_ (Kd.C_below HR1_5.out HB.out)); (case side10 => exact HC1_5.out); (case side11 => exact Kd.C_nil _ _); (case side12 => exact Nat.le_refl _); rintro e w70 ⟨rfl, hb⟩; refine ⟨_, rfl, ?_⟩; replace BK471 := mk_ (bb_ BK471 hb); replace BK472 := mk_ (bb_ BK472 hb); replace HB := mk_ (below_step (be2_ HB GE471 GE472) hb); obtain ⟨_, _, _, _, _, _, _, _⟩ := hb4_ BK471; obtain ⟨_, _, _, _, _, _, _, _, _, _, _, _⟩ := hb6_ BK472) | ((with_reducible refine gate_callee (f := 20) rfl ?_); refine gl_ (some 76) Tryd.func20 #[.agg #[.slice A0_0 l0_0.length c0_0, .slice A0_1 l0_1.length c0_1, .int .i64 a0_2, .slice A0_3 l0_3.length c0_3], .agg #[.int .i64 a1_0, .string a1_1, .slice A1_2 l1_2.length c1_2, .int .i64 a1_3, .int .i64 a1_4, .slice A1_5 l1_5.length c1_5], .int .i64 a2, .int .i64 a3] ?_; (with_reducible refine (pentaglotlaw26_at.calls kj35 _ _ l0_0 _ _ l0_1 a0_2 _ _ l0_3 a1_0 a1_1 _ _ l1_2 a1_3 a1_4 _ _ l1_5 a2 a3 t483 t484 _ ?side1 ?side2 ?side3 ?side4 ?side5 ?side6 ?side7 ?side8 ?side9 ?side10 A40.out (tb_on HTB.out (be2_ HB GE471 GE472))).mono ?_); (case side1 => exact cs_ (Kd.C_below HR0_0.out HB.out)); (case side2 => exact HC0_0.out); (case side3 => exact cs_ (Kd.C_below HR0_1.out HB.out)); (case side4 => exact HC0_1.out); (case side5 => exact cs_ (Kd.C_below HR0_3.out HB.out)); (case side6 => exact HC0_3.out); (case side7 => exact cs_ (Kd.C_below HR1_2.out HB.out)); (case side8 => exact HC1_2.out); (case side9 => exact cs_ (Kd.C_below HR1_5.out HB.out)); (case side10 => exact HC1_5.out); rintro e w73 ⟨rfl, hb⟩; refine ⟨_, rfl, ?_⟩; replace BK471 := mk_ (bb_ BK471 hb); replace BK472 := mk_ (bb_ BK472 hb); replace HB := mk_ (below_step (be2_ HB GE471 GE472) hb)))
          go_ret
          exact ⟨er_, be2_ HB GE471 GE472⟩
        ·rw [if_neg c41] at H
         obtain ⟨c41b0, c41b1⟩ := en_ c41
         obtain rfl := Option.some.inj H
         have hnb74 := NB471_472.out
         have hnc74 := NB472_471.out
         obtain ⟨_, _, _, _, _, _, _, _⟩ := hb4_ BK471
         obtain ⟨_, _, _, _, _, _, _, _, _, _, _, _⟩ := hb6_ BK472
         go_wp2_with (first | ((with_reducible refine gate_callee (f := 29) rfl ?_); refine gl_ (some 68) Tryd.func29 #[.agg #[.slice A0_0 l0_0.length c0_0, .slice A0_1 l0_1.length c0_1, .int .i64 a0_2, .slice A0_3 l0_3.length c0_3], .agg #[.int .i64 a1_0, .string a1_1, .slice A1_2 l1_2.length c1_2, .int .i64 a1_3, .int .i64 a1_4, .slice A1_5 l1_5.length c1_5], .slice none 0 0, .int .i64 a2, .int .i64 a3] ?_; (refine (pentaglotref26_Witness.calls kj35 _ _ l0_0 _ _ l0_1 a0_2 _ _ l0_3 a1_0 a1_1 _ _ l1_2 a1_3 a1_4 _ _ l1_5 _ _ ([] : List ByteArray) a2 a3 t481 t482 _ ?side1 ?side2 ?side3 ?side4 ?side5 ?side6 ?side7 ?side8 ?side9 ?side10 ?side11 ?side12 A39.out).mono ?_); (case side1 => exact cs_ (Kd.C_below HR0_0.out HB.out)); (case side2 => exact HC0_0.out); (case side3 => exact cs_ (Kd.C_below HR0_1.out HB.out)); (case side4 => exact HC0_1.out); (case side5 => exact cs_ (Kd.C_below HR0_3.out HB.out)); (case side6 => exact HC0_3.out); (case side7 => exact cs_ (Kd.C_below HR1_2.out HB.out)); (case side8 => exact HC1_2.out); (case side9 => exact cs_ (Kd.C_below HR1_5.out HB.out)); (case side10 => exact HC1_5.out); (case side11 => exact Kd.C_nil _ _); (case side12 => exact Nat.le_refl _); rintro e w77 ⟨rfl, hb⟩; refine ⟨_, rfl, ?_⟩; replace BK471 := mk_ (bb_ BK471 hb); replace BK472 := mk_ (bb_ BK472 hb); replace HB := mk_ (below_step (be2_ HB GE471 GE472) hb); obtain ⟨_, _, _, _, _, _, _, _⟩ := hb4_ BK471; obtain ⟨_, _, _, _, _, _, _, _, _, _, _, _⟩ := hb6_ BK472) | ((with_reducible refine gate_callee (f := 20) rfl ?_); refine gl_ (some 76) Tryd.func20 #[.agg #[.slice A0_0 l0_0.length c0_0, .slice A0_1 l0_1.length c0_1, .int .i64 a0_2, .slice A0_3 l0_3.length c0_3], .agg #[.int .i64 a1_0, .string a1_1, .slice A1_2 l1_2.length c1_2, .int .i64 a1_3, .int .i64 a1_4, .slice A1_5 l1_5.length c1_5], .int .i64 a2, .int .i64 a3] ?_; (with_reducible refine (pentaglotlaw26_at.calls kj35 _ _ l0_0 _ _ l0_1 a0_2 _ _ l0_3 a1_0 a1_1 _ _ l1_2 a1_3 a1_4 _ _ l1_5 a2 a3 t483 t484 _ ?side1 ?side2 ?side3 ?side4 ?side5 ?side6 ?side7 ?side8 ?side9 ?side10 A40.out (tb_on HTB.out (be2_ HB GE471 GE472))).mono ?_); (case side1 => exact cs_ (Kd.C_below HR0_0.out HB.out)); (case side2 => exact HC0_0.out); (case side3 => exact cs_ (Kd.C_below HR0_1.out HB.out)); (case side4 => exact HC0_1.out); (case side5 => exact cs_ (Kd.C_below HR0_3.out HB.out)); (case side6 => exact HC0_3.out); (case side7 => exact cs_ (Kd.C_below HR1_2.out HB.out)); (case side8 => exact HC1_2.out); (case side9 => exact cs_ (Kd.C_below HR1_5.out HB.out)); (case side10 => exact HC1_5.out); rintro e w80 ⟨rfl, hb⟩; refine ⟨_, rfl, ?_⟩; replace BK471 := mk_ (bb_ BK471 hb); replace BK472 := mk_ (bb_ BK472 hb); replace HB := mk_ (below_step (be2_ HB GE471 GE472) hb)))
         go_ret
         exact ⟨er_, be2_ HB GE471 GE472⟩
       ·rw [if_neg c38] at H
        obtain ⟨c38b0, c38b1⟩ := en_ c38
        by_cases c81 : t475.toList = ([] : List UInt8)
        ·rw [if_pos c81] at H
         obtain ⟨c81b0, c81b1⟩ := eb_ c81
         clear c81
         by_cases c82 : t476 = true
         ·subst c82
          rw [if_pos rfl] at H
          obtain rfl := Option.some.inj H
          go_wp2
          go_ret
          exact ⟨er_, be2_ HB GE471 GE472⟩
         ·replace c82 := Bool.eq_false_iff.mpr c82
          subst c82
          rw [if_neg nf_] at H
          obtain rfl := Option.some.inj H
          go_wp2
          go_ret
          exact ⟨er_, be2_ HB GE471 GE472⟩
        ·rw [if_neg c81] at H
         obtain ⟨c81b0, c81b1⟩ := en_ c81
         obtain rfl := Option.some.inj H
         go_wp2
         go_ret
         exact ⟨er_, be2_ HB GE471 GE472⟩
  ·replace c8 := Bool.eq_false_iff.mpr c8
   subst c8
   rw [if_neg nf_] at H
   obtain rfl := Option.some.inj H
   go_enter Tryd.func9, Tryd.ntmps9
   go_wp2_with (first | ((with_reducible refine gate_dst (N := 4) rfl ?_); refine bx_ 4 #[.slice A0_0 l0_0.length c0_0, .slice A0_1 l0_1.length c0_1, .int .i64 a0_2, .slice A0_3 l0_3.length c0_3] 28 ?_; intro gb471 hg w83 hbox hb; have BK471 := mk_ (hbox); have GW471 := mk_ (gs_ hg (be_ HB)); have GE471 := mk_ (gs_ hg (be_ HB)); replace HB := mk_ (below_step (be_ HB) hb); clear hb hbox hg) | ((with_reducible refine gate_dst (N := 5) rfl ?_); refine bx_ 5 #[.int .i64 a1_0, .string a1_1, .slice A1_2 l1_2.length c1_2, .int .i64 a1_3, .int .i64 a1_4, .slice A1_5 l1_5.length c1_5] 32 ?_; intro gb472 hg w84 hbox hb; have n0_ := mk_ (bb_ BK471 hb); have n1_ := mk_ (below_step (be1_ HB GE471) hb); have n2_ := mk_ (hbox); have n3_ := mk_ (gs_ hg (be1_ HB GE471)); have n4_ := mk_ (gs_ hg (be1_ HB GE471)); have n5_ := mk_ ((by rw [hg]; exact Nat.ne_of_lt (blk_lt (g := gb471) (o := .cells #[.slice A0_0 l0_0.length c0_0, .slice A0_1 l0_1.length c0_1, .int .i64 a0_2, .slice A0_3 l0_3.length c0_3] 28 (0, 0)) (bq_ BK471)) : gb471 ≠ gb472)); have n6_ := mk_ ((by rw [hg]; exact Nat.ne_of_gt (blk_lt (g := gb471) (o := .cells #[.slice A0_0 l0_0.length c0_0, .slice A0_1 l0_1.length c0_1, .int .i64 a0_2, .slice A0_3 l0_3.length c0_3] 28 (0, 0)) (bq_ BK471)) : gb472 ≠ gb471)); clear BK471; clear HB; have BK471 := n0_; have HB := n1_; have BK472 := n2_; have GW472 := n3_; have GE472 := n4_; have NB471_472 := n5_; have NB472_471 := n6_; clear n0_ n1_ n2_ n3_ n4_ n5_ n6_; clear hb hbox hg) | ((with_reducible refine gate_callee (f := 12) rfl ?_); refine gl_ (some 17) Tryd.func12 #[] ?_; (with_reducible refine (pentaglotlaw26_awake.calls k  true _ A5.out (tb_on HTB.out (be2_ HB GE471 GE472))).mono ?_); rintro e w85 ⟨rfl, hb⟩; refine ⟨_, rfl, ?_⟩; replace BK471 := mk_ (bb_ BK471 hb); replace BK472 := mk_ (bb_ BK472 hb); replace HB := mk_ (below_step (be2_ HB GE471 GE472) hb); have hnb86 := NB471_472.out; have hnc86 := NB472_471.out; obtain ⟨_, _, _, _, _, _, _, _⟩ := hb4_ BK471; obtain ⟨_, _, _, _, _, _, _, _, _, _, _, _⟩ := hb6_ BK472) | ((with_reducible refine gate_callee (f := 13) rfl ?_); refine gl_ (some 21) Tryd.func13 #[.agg #[.slice A0_0 l0_0.length c0_0, .slice A0_1 l0_1.length c0_1, .int .i64 a0_2, .slice A0_3 l0_3.length c0_3], .agg #[.int .i64 a1_0, .string a1_1, .slice A1_2 l1_2.length c1_2, .int .i64 a1_3, .int .i64 a1_4, .slice A1_5 l1_5.length c1_5]] ?_; (with_reducible refine (pentaglotref26_Light.calls k _ _ l0_0 _ _ l0_1 a0_2 _ _ l0_3 a1_0 a1_1 _ _ l1_2 a1_3 a1_4 _ _ l1_5 false _ ?side1 ?side2 ?side3 ?side4 ?side5 ?side6 ?side7 ?side8 ?side9 ?side10 A7.out).mono ?_); (case side1 => exact cs_ (Kd.C_below HR0_0.out HB.out)); (case side2 => exact HC0_0.out); (case side3 => exact cs_ (Kd.C_below HR0_1.out HB.out)); (case side4 => exact HC0_1.out); (case side5 => exact cs_ (Kd.C_below HR0_3.out HB.out)); (case side6 => exact HC0_3.out); (case side7 => exact cs_ (Kd.C_below HR1_2.out HB.out)); (case side8 => exact HC1_2.out); (case side9 => exact cs_ (Kd.C_below HR1_5.out HB.out)); (case side10 => exact HC1_5.out); rintro e w89 ⟨rfl, hb⟩; refine ⟨_, rfl, ?_⟩; replace BK471 := mk_ (bb_ BK471 hb); replace BK472 := mk_ (bb_ BK472 hb); replace HB := mk_ (below_step (be2_ HB GE471 GE472) hb)))
   go_ret
   exact ⟨er_, be2_ HB GE471 GE472⟩
 ·replace c6 := Bool.eq_false_iff.mpr c6
  subst c6
  rw [if_neg nf_] at H
  obtain rfl := Option.some.inj H
  go_enter Tryd.func9, Tryd.ntmps9
  go_wp2_with (first | ((with_reducible refine gate_dst (N := 4) rfl ?_); refine bx_ 4 #[.slice A0_0 l0_0.length c0_0, .slice A0_1 l0_1.length c0_1, .int .i64 a0_2, .slice A0_3 l0_3.length c0_3] 28 ?_; intro gb471 hg w90 hbox hb; have BK471 := mk_ (hbox); have GW471 := mk_ (gs_ hg (be_ HB)); have GE471 := mk_ (gs_ hg (be_ HB)); replace HB := mk_ (below_step (be_ HB) hb); clear hb hbox hg) | ((with_reducible refine gate_dst (N := 5) rfl ?_); refine bx_ 5 #[.int .i64 a1_0, .string a1_1, .slice A1_2 l1_2.length c1_2, .int .i64 a1_3, .int .i64 a1_4, .slice A1_5 l1_5.length c1_5] 32 ?_; intro gb472 hg w91 hbox hb; have n0_ := mk_ (bb_ BK471 hb); have n1_ := mk_ (below_step (be1_ HB GE471) hb); have n2_ := mk_ (hbox); have n3_ := mk_ (gs_ hg (be1_ HB GE471)); have n4_ := mk_ (gs_ hg (be1_ HB GE471)); have n5_ := mk_ ((by rw [hg]; exact Nat.ne_of_lt (blk_lt (g := gb471) (o := .cells #[.slice A0_0 l0_0.length c0_0, .slice A0_1 l0_1.length c0_1, .int .i64 a0_2, .slice A0_3 l0_3.length c0_3] 28 (0, 0)) (bq_ BK471)) : gb471 ≠ gb472)); have n6_ := mk_ ((by rw [hg]; exact Nat.ne_of_gt (blk_lt (g := gb471) (o := .cells #[.slice A0_0 l0_0.length c0_0, .slice A0_1 l0_1.length c0_1, .int .i64 a0_2, .slice A0_3 l0_3.length c0_3] 28 (0, 0)) (bq_ BK471)) : gb472 ≠ gb471)); clear BK471; clear HB; have BK471 := n0_; have HB := n1_; have BK472 := n2_; have GW472 := n3_; have GE472 := n4_; have NB471_472 := n5_; have NB472_471 := n6_; clear n0_ n1_ n2_ n3_ n4_ n5_ n6_; clear hb hbox hg) | ((with_reducible refine gate_callee (f := 12) rfl ?_); refine gl_ (some 17) Tryd.func12 #[] ?_; (with_reducible refine (pentaglotlaw26_awake.calls k  false _ A5.out (tb_on HTB.out (be2_ HB GE471 GE472))).mono ?_); rintro e w92 ⟨rfl, hb⟩; refine ⟨_, rfl, ?_⟩; replace BK471 := mk_ (bb_ BK471 hb); replace BK472 := mk_ (bb_ BK472 hb); replace HB := mk_ (below_step (be2_ HB GE471 GE472) hb)))
  go_ret
  exact ⟨er_, be2_ HB GE471 GE472⟩
def pentaglotlaw26_EvaluateWitness.Pure : Prop := ∀ (p0 : S28) (p1 : S32) (p2 : Int) (p3 : Int), wf28 p0 → wf32 p1 → (Lit.int .i64 p2).wf = true → (Lit.int .i64 p3).wf = true → bulk28 p0 + bulk32 p1 + 1 + 1 ≤ 1048576 → ∃ k, pentaglotlaw26_EvaluateWitness.f k p0.f0.f0 p0.f0.f1 p0.f0.f2 p0.f1 p1.f0 p1.f1 p1.f2 p1.f3 p1.f4 p1.f5 p2 p3 = some true
end Go.Proofs.YtolpckflofjfhaaDoor.P
