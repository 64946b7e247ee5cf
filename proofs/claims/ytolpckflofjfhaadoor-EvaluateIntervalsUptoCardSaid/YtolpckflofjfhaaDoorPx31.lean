-- printed by wip/tools/xprint.py
import Derived.Test.YtolpckflofjfhaaDoorPx0
import Derived.Test.YtolpckflofjfhaaDoorPx10
import Derived.Test.YtolpckflofjfhaaDoorPx12
import Derived.Test.YtolpckflofjfhaaDoorPx24
import Derived.Test.YtolpckflofjfhaaDoorPx27
namespace Go.Proofs.YtolpckflofjfhaaDoor.P
open Go.RowKit Go.Proofs.YtolpckflofjfhaaDoorW.PrintWords Go.Proofs.YtolpckflofjfhaaDoorW.PrintLast Go.Proofs.YtolpckflofjfhaaDoorW.PrintMore
attribute [local go_sem] max2_int min2_int max_two min_two max_three min_three max_four min_four
set_option linter.unusedVariables false
set_option maxHeartbeats 8000000
set_option maxRecDepth 100000
set_option linter.unusedSimpArgs false

def pentaglotlaw26_EvaluateIntervals.l0 : Nat → Int → Bool → List Int → Int → Bool → Int → List (S73) → List Int → Int → List (S62) → Int → ByteArray → List (S92) → Int → Int → List (S32) → Option (Bool)
 | 0, _, _, _, _, _, _, _, _, _, _, _, _, _, _, _, _ => none
 | k + 1, x4, x14, x16, x17, x18, x19, x484000, x484001, x484002, x484003, x485000, x485001, x485002, x485003, x485004, x485005 => if x19 < (x16.length : Int) then (if 0 ≤ x19 then ((pentaglotlaw26_at.f k x484000 x484001 x484002 x484003 x485000 x485001 x485002 x485003 x485004 x485005 x4 (rd x16 x19)).bind fun bt505 => (if x18 = true then (if bt505.1 = true then (pentaglotlaw26_EvaluateIntervals.l0 k x4 x14 x16 x17 bt505.2 (wrap64 (x19 + 1)) x484000 x484001 x484002 x484003 x485000 x485001 x485002 x485003 x485004 x485005) else (pentaglotlaw26_EvaluateIntervals.l0 k x4 x14 x16 x17 false (wrap64 (x19 + 1)) x484000 x484001 x484002 x484003 x485000 x485001 x485002 x485003 x485004 x485005)) else (pentaglotlaw26_EvaluateIntervals.l0 k x4 x14 x16 x17 false (wrap64 (x19 + 1)) x484000 x484001 x484002 x484003 x485000 x485001 x485002 x485003 x485004 x485005))) else (none)) else (if x17 = 0 then (some (x14 == x18)) else (some false))
def pentaglotlaw26_EvaluateIntervals.f (k : Nat) (l0_0 : List (S73)) (l0_1 : List Int) (a0_2 : Int) (l0_3 : List (S62)) (a1_0 : Int) (a1_1 : ByteArray) (l1_2 : List (S92)) (a1_3 : Int) (a1_4 : Int) (l1_5 : List (S32)) (a2 : Int) (a3 : Int) (a4 : Int) (a5 : Int) : Option (Bool) := (pentaglotlaw26_awake.f k).bind fun t485 => (if t485 = true then ((pentaglotref26_Light.f k l0_0 l0_1 a0_2 l0_3 a1_0 a1_1 l1_2 a1_3 a1_4 l1_5).bind fun t486 => (if t486 = true then ((pentaglotlaw26_kid.f 10 a1_0 a1_1 l1_2 a1_3 a1_4 l1_5).bind fun bt487 => ((pentaglotlaw26_at.f k l0_0 l0_1 a0_2 l0_3 bt487.1 bt487.2.1 bt487.2.2.1 a2 a3 bt487.2.2.2.2.2 a4 a5).bind fun bt498 => ((evaluate_Moments.f k l0_0 l0_1 a0_2 l0_3 a2 a3).bind fun bt500 => (if bt498.2 = true then (pentaglotlaw26_EvaluateIntervals.l0 k a4 bt498.1 bt500.1 bt500.2 (bt500.2 == 0) 0 l0_0 l0_1 a0_2 l0_3 a1_0 a1_1 l1_2 a1_3 a1_4 l1_5) else (some true))))) else (some true))) else (some false))
def pentaglotlaw26_EvaluateIntervals.T15 : Bool × List (List Nat × List Nat) := (true, [([], []), ([], []), ([], []), ([], []), ([], []), ([3, 4], [3, 4]), ([5], [5]), ([0, 1, 2, 6], [0, 1, 2, 6]), ([7], [7]), ([8], [8]), ([8], [8]), ([9, 7, 0, 1, 2, 3, 4, 5, 6, 7, 8, 9], [9]), ([10, 11, 0, 1, 2, 3, 4, 5, 6, 7, 8, 9, 10, 11], [10])])
def pentaglotlaw26_EvaluateIntervals.B15 : List Nat := [0, 0, 0, 0, 0, 24, 56, 127, 255, 511, 511, 1023, 4095]
theorem pentaglotlaw26_EvaluateIntervals.tab15 : rtab .any (opsOf Tryd.f8 15) = pentaglotlaw26_EvaluateIntervals.T15 := by kernel_rfl
theorem pentaglotlaw26_EvaluateIntervals.bits15 : waitsOk pentaglotlaw26_EvaluateIntervals.T15.2 pentaglotlaw26_EvaluateIntervals.B15 = true := by kernel_rfl
theorem pentaglotlaw26_EvaluateIntervals.calls (k : Nat) (A0_0 : Option Addr) (c0_0 : Nat) (l0_0 : List (S73)) (A0_1 : Option Addr) (c0_1 : Nat) (l0_1 : List Int) (a0_2 : Int) (A0_3 : Option Addr) (c0_3 : Nat) (l0_3 : List (S62)) (a1_0 : Int) (a1_1 : ByteArray) (A1_2 : Option Addr) (c1_2 : Nat) (l1_2 : List (S92)) (a1_3 : Int) (a1_4 : Int) (A1_5 : Option Addr) (c1_5 : Nat) (l1_5 : List (S32)) (a2 : Int) (a3 : Int) (a4 : Int) (a5 : Int) (r : Bool) (w : World) (hr0_0 : Kd.C k73 w A0_0 l0_0.length l0_0) (hc0_0 : l0_0.length ≤ c0_0) (hr0_1 : Kd.C (Kd.int .i64) w A0_1 l0_1.length l0_1) (hc0_1 : l0_1.length ≤ c0_1) (hr0_3 : Kd.C k62 w A0_3 l0_3.length l0_3) (hc0_3 : l0_3.length ≤ c0_3) (hr1_2 : Kd.C k92 w A1_2 l1_2.length l1_2) (hc1_2 : l1_2.length ≤ c1_2) (hr1_5 : Kd.C k32 w A1_5 l1_5.length l1_5) (hc1_5 : l1_5.length ≤ c1_5) (h : pentaglotlaw26_EvaluateIntervals.f k l0_0 l0_1 a0_2 l0_3 a1_0 a1_1 l1_2 a1_3 a1_4 l1_5 a2 a3 a4 a5 = some r) (htb : Tb w) :
  Calls Tryd.prog 8 #[.agg #[.slice A0_0 l0_0.length c0_0, .slice A0_1 l0_1.length c0_1, .int .i64 a0_2, .slice A0_3 l0_3.length c0_3], .agg #[.int .i64 a1_0, .string a1_1, .slice A1_2 l1_2.length c1_2, .int .i64 a1_3, .int .i64 a1_4, .slice A1_5 l1_5.length c1_5], .int .i64 a2, .int .i64 a3, .int .i64 a4, .int .i64 a5] w fun e w' => e = .returned (.bool r) ∧ Below w.heap.size w w' := by
 have HTB := mk_ htb
 clear htb
 have hu28 := Tryd.underlying28
 have hu32 := Tryd.underlying32
 have HR0_0 := mk_ hr0_0
 have HC0_0 := mk_ hc0_0
 clear hr0_0 hc0_0
 have HR0_1 := mk_ hr0_1
 have HC0_1 := mk_ hc0_1
 clear hr0_1 hc0_1
 have HR0_3 := mk_ hr0_3
 have HC0_3 := mk_ hc0_3
 clear hr0_3 hc0_3
 have HR1_2 := mk_ hr1_2
 have HC1_2 := mk_ hc1_2
 clear hr1_2 hc1_2
 have HR1_5 := mk_ hr1_5
 have HC1_5 := mk_ hc1_5
 clear hr1_5 hc1_5
 have HB := mk_ (Below.refl w.heap.size w)
 have H : ((pentaglotlaw26_awake.f k).bind fun t485 => (if t485 = true then ((pentaglotref26_Light.f k l0_0 l0_1 a0_2 l0_3 a1_0 a1_1 l1_2 a1_3 a1_4 l1_5).bind fun t486 => (if t486 = true then ((pentaglotlaw26_kid.f 10 a1_0 a1_1 l1_2 a1_3 a1_4 l1_5).bind fun bt487 => ((pentaglotlaw26_at.f k l0_0 l0_1 a0_2 l0_3 bt487.1 bt487.2.1 bt487.2.2.1 a2 a3 bt487.2.2.2.2.2 a4 a5).bind fun bt498 => ((evaluate_Moments.f k l0_0 l0_1 a0_2 l0_3 a2 a3).bind fun bt500 => (if bt498.2 = true then (pentaglotlaw26_EvaluateIntervals.l0 k a4 bt498.1 bt500.1 bt500.2 (bt500.2 == 0) 0 l0_0 l0_1 a0_2 l0_3 a1_0 a1_1 l1_2 a1_3 a1_4 l1_5) else (some true))))) else (some true))) else (some false))) = some r := h
 clear h
 replace H := Option.bind_eq_some_iff.mp H
 obtain ⟨t485, A70, H⟩ := H
 replace H : (if t485 = true then ((pentaglotref26_Light.f k l0_0 l0_1 a0_2 l0_3 a1_0 a1_1 l1_2 a1_3 a1_4 l1_5).bind fun t486 => (if t486 = true then ((pentaglotlaw26_kid.f 10 a1_0 a1_1 l1_2 a1_3 a1_4 l1_5).bind fun bt487 => ((pentaglotlaw26_at.f k l0_0 l0_1 a0_2 l0_3 bt487.1 bt487.2.1 bt487.2.2.1 a2 a3 bt487.2.2.2.2.2 a4 a5).bind fun bt498 => ((evaluate_Moments.f k l0_0 l0_1 a0_2 l0_3 a2 a3).bind fun bt500 => (if bt498.2 = true then (pentaglotlaw26_EvaluateIntervals.l0 k a4 bt498.1 bt500.1 bt500.2 (bt500.2 == 0) 0 l0_0 l0_1 a0_2 l0_3 a1_0 a1_1 l1_2 a1_3 a1_4 l1_5) else (some true))))) else (some true))) else (some false)) = some r := H
 have A7 := mk_ A70
 clear A70
 by_cases c8 : t485 = true
 ·subst c8
  rw [if_pos rfl] at H
  replace H := Option.bind_eq_some_iff.mp H
  obtain ⟨t486, A90, H⟩ := H
  replace H : (if t486 = true then ((pentaglotlaw26_kid.f 10 a1_0 a1_1 l1_2 a1_3 a1_4 l1_5).bind fun bt487 => ((pentaglotlaw26_at.f k l0_0 l0_1 a0_2 l0_3 bt487.1 bt487.2.1 bt487.2.2.1 a2 a3 bt487.2.2.2.2.2 a4 a5).bind fun bt498 => ((evaluate_Moments.f k l0_0 l0_1 a0_2 l0_3 a2 a3).bind fun bt500 => (if bt498.2 = true then (pentaglotlaw26_EvaluateIntervals.l0 k a4 bt498.1 bt500.1 bt500.2 (bt500.2 == 0) 0 l0_0 l0_1 a0_2 l0_3 a1_0 a1_1 l1_2 a1_3 a1_4 l1_5) else (some true))))) else (some true)) = some r := H
  have A9 := mk_ A90
  clear A90
  by_cases c10 : t486 = true
  ·subst c10
   rw [if_pos rfl] at H
   replace H := Option.bind_eq_some_iff.mp H
   obtain ⟨⟨t487, t488, t489, t492, t493, t494⟩, A110, H⟩ := H
   replace H : ((pentaglotlaw26_at.f k l0_0 l0_1 a0_2 l0_3 t487 t488 t489 a2 a3 t494 a4 a5).bind fun bt498 => ((evaluate_Moments.f k l0_0 l0_1 a0_2 l0_3 a2 a3).bind fun bt500 => (if bt498.2 = true then (pentaglotlaw26_EvaluateIntervals.l0 k a4 bt498.1 bt500.1 bt500.2 (bt500.2 == 0) 0 l0_0 l0_1 a0_2 l0_3 a1_0 a1_1 l1_2 a1_3 a1_4 l1_5) else (some true)))) = some r := H
   have A11 := mk_ A110
   clear A110
   replace H := Option.bind_eq_some_iff.mp H
   obtain ⟨⟨t498, t499⟩, A120, H⟩ := H
   replace H : ((evaluate_Moments.f k l0_0 l0_1 a0_2 l0_3 a2 a3).bind fun bt500 => (if t499 = true then (pentaglotlaw26_EvaluateIntervals.l0 k a4 t498 bt500.1 bt500.2 (bt500.2 == 0) 0 l0_0 l0_1 a0_2 l0_3 a1_0 a1_1 l1_2 a1_3 a1_4 l1_5) else (some true))) = some r := H
   have A12 := mk_ A120
   clear A120
   replace H := Option.bind_eq_some_iff.mp H
   obtain ⟨⟨t500, t503⟩, A130, H⟩ := H
   replace H : (if t499 = true then (pentaglotlaw26_EvaluateIntervals.l0 k a4 t498 t500 t503 (t503 == 0) 0 l0_0 l0_1 a0_2 l0_3 a1_0 a1_1 l1_2 a1_3 a1_4 l1_5) else (some true)) = some r := H
   have A13 := mk_ A130
   clear A130
   by_cases c14 : t499 = true
   ·subst c14
    rw [if_pos rfl] at H
    have H' := mk_ H
    clear H
    go_enter Tryd.func8, Tryd.ntmps8
    go_upto_region 6 with (first | ((with_reducible refine gate_dst (N := 6) rfl ?_); refine bx_ 6 #[.slice A0_0 l0_0.length c0_0, .slice A0_1 l0_1.length c0_1, .int .i64 a0_2, .slice A0_3 l0_3.length c0_3] 28 ?_; intro gb483 hg w15 hbox hb; have BK483 := mk_ (hbox); have GW483 := mk_ (gs_ hg (be_ HB)); have GE483 := mk_ (gs_ hg (be_ HB)); replace HB := mk_ (below_step (be_ HB) hb); clear hb hbox hg) | ((with_reducible refine gate_dst (N := 7) rfl ?_); refine bx_ 7 #[.int .i64 a1_0, .string a1_1, .slice A1_2 l1_2.length c1_2, .int .i64 a1_3, .int .i64 a1_4, .slice A1_5 l1_5.length c1_5] 32 ?_; intro gb484 hg w16 hbox hb; have n0_ := mk_ (bb_ BK483 hb); have n1_ := mk_ (below_step (be1_ HB GE483) hb); have n2_ := mk_ (hbox); have n3_ := mk_ (gs_ hg (be1_ HB GE483)); have n4_ := mk_ (gs_ hg (be1_ HB GE483)); have n5_ := mk_ ((by rw [hg]; exact Nat.ne_of_lt (blk_lt (g := gb483) (o := .cells #[.slice A0_0 l0_0.length c0_0, .slice A0_1 l0_1.length c0_1, .int .i64 a0_2, .slice A0_3 l0_3.length c0_3] 28 (0, 0)) (bq_ BK483)) : gb483 ≠ gb484)); have n6_ := mk_ ((by rw [hg]; exact Nat.ne_of_gt (blk_lt (g := gb483) (o := .cells #[.slice A0_0 l0_0.length c0_0, .slice A0_1 l0_1.length c0_1, .int .i64 a0_2, .slice A0_3 l0_3.length c0_3] 28 (0, 0)) (bq_ BK483)) : gb484 ≠ gb483)); clear BK483; clear HB; have BK483 := n0_; have HB := n1_; have BK484 := n2_; have GW484 := n3_; have GE484 := n4_; have NB483_484 := n5_; have NB484_483 := n6_; clear n0_ n1_ n2_ n3_ n4_ n5_ n6_; clear hb hbox hg) | ((with_reducible refine gate_callee (f := 12) rfl ?_); refine gl_ (some 22) Tryd.func12 #[] ?_; (with_reducible refine (pentaglotlaw26_awake.calls k  true _ A7.out (tb_on HTB.out (be2_ HB GE483 GE484))).mono ?_); rintro e w17 ⟨rfl, hb⟩; refine ⟨_, rfl, ?_⟩; replace BK483 := mk_ (bb_ BK483 hb); replace BK484 := mk_ (bb_ BK484 hb); replace HB := mk_ (below_step (be2_ HB GE483 GE484) hb); (try clear hb); (try clear hb2); (try clear hk); (try clear hi); have hnb18 := NB483_484.out; have hnc18 := NB484_483.out; obtain ⟨_, _, _, _, _, _, _, _⟩ := hb4_ BK483; obtain ⟨_, _, _, _, _, _, _, _, _, _, _, _⟩ := hb6_ BK484) | ((with_reducible refine gate_callee (f := 13) rfl ?_); refine gl_ (some 26) Tryd.func13 #[.agg #[.slice A0_0 l0_0.length c0_0, .slice A0_1 l0_1.length c0_1, .int .i64 a0_2, .slice A0_3 l0_3.length c0_3], .agg #[.int .i64 a1_0, .string a1_1, .slice A1_2 l1_2.length c1_2, .int .i64 a1_3, .int .i64 a1_4, .slice A1_5 l1_5.length c1_5]] ?_; (with_reducible refine (pentaglotref26_Light.calls k _ _ l0_0 _ _ l0_1 a0_2 _ _ l0_3 a1_0 a1_1 _ _ l1_2 a1_3 a1_4 _ _ l1_5 true _ ?side1 ?side2 ?side3 ?side4 ?side5 ?side6 ?side7 ?side8 ?side9 ?side10 A9.out).mono ?_); (case side1 => exact cs_ (Kd.C_below HR0_0.out HB.out)); (case side2 => exact HC0_0.out); (case side3 => exact cs_ (Kd.C_below HR0_1.out HB.out)); (case side4 => exact HC0_1.out); (case side5 => exact cs_ (Kd.C_below HR0_3.out HB.out)); (case side6 => exact HC0_3.out); (case side7 => exact cs_ (Kd.C_below HR1_2.out HB.out)); (case side8 => exact HC1_2.out); (case side9 => exact cs_ (Kd.C_below HR1_5.out HB.out)); (case side10 => exact HC1_5.out); rintro e w21 ⟨rfl, hb⟩; refine ⟨_, rfl, ?_⟩; replace BK483 := mk_ (bb_ BK483 hb); replace BK484 := mk_ (bb_ BK484 hb); replace HB := mk_ (below_step (be2_ HB GE483 GE484) hb); (try clear hb); (try clear hb2); (try clear hk); (try clear hi); obtain ⟨_, _, _, _, _, _, _, _, _, _, _, _⟩ := hb6_ BK484) | ((with_reducible refine gate_callee (f := 26) rfl ?_); refine gl_ (some 29) Tryd.func26 #[.int .i64 10, .agg #[.int .i64 a1_0, .string a1_1, .slice A1_2 l1_2.length c1_2, .int .i64 a1_3, .int .i64 a1_4, .slice A1_5 l1_5.length c1_5]] ?_; (with_reducible refine (pentaglotlaw26_kid.calls 10 a1_0 a1_1 (fun k_ => k_ < w.heap.size) _ _ l1_2 a1_3 a1_4 (fun k_ => k_ < w.heap.size) _ _ l1_5 t487 t488 t489 t492 t493 t494 _ ?side1 ?side2 A11.out).mono ?_); (case side1 => exact Kd.V_mk HC1_2.out (Kd.F_below (Kd.C_F k92_heap HR1_2.out) (be2_ HB GE483 GE484))); (case side2 => exact Kd.V_mk HC1_5.out (Kd.F_below (Kd.C_F k32_heap HR1_5.out) (be2_ HB GE483 GE484))); rintro e w23 ⟨v490, v495, rfl, ho0, ho1, hb⟩; refine ⟨_, rfl, ?_⟩; have n0_ := mk_ (Kd.R_lower (Kd.R_mono (ok' := fun k_ => True) ho0 (fun _ hk_ => trivial)) (below_size (be2_ HB GE483 GE484))); have n1_ := mk_ (Kd.N_lower (Kd.N_mono (ok' := fun k_ => some k_ ≠ (v490 : Value).ownBlock ∧ k_ ≠ gb483 ∧ k_ ≠ gb484) ho1 (fun k_ hk_ => ⟨hk_.2, Or.elim hk_.1 (fun hs_ => Or.elim hs_ (fun hs_ => fun e_ => Nat.not_le.2 hs_ (by rw [e_]; exact GW483.out)) (fun hs_ => fun e_ => Nat.not_le.2 hs_ (by rw [e_]; exact GW483.out))) (fun hn_ => (Kd.freshB (g := gb483) (o := .cells #[.slice A0_0 l0_0.length c0_0, .slice A0_1 l0_1.length c0_1, .int .i64 a0_2, .slice A0_3 l0_3.length c0_3] 28 (0, 0)) (bq_ BK483) k_ hn_)), Or.elim hk_.1 (fun hs_ => Or.elim hs_ (fun hs_ => fun e_ => Nat.not_le.2 hs_ (by rw [e_]; exact GW484.out)) (fun hs_ => fun e_ => Nat.not_le.2 hs_ (by rw [e_]; exact GW484.out))) (fun hn_ => (Kd.freshB (g := gb484) (o := .cells #[.int .i64 a1_0, .string a1_1, .slice A1_2 l1_2.length c1_2, .int .i64 a1_3, .int .i64 a1_4, .slice A1_5 l1_5.length c1_5] 32 (0, 0)) (bq_ BK484) k_ hn_))⟩)) (below_size (be2_ HB GE483 GE484))); have n2_ := mk_ (bb_ BK483 hb); have n3_ := mk_ (bb_ BK484 hb); have n4_ := mk_ (below_step (be2_ HB GE483 GE484) hb); clear BK483; clear BK484; clear HB; have HO491 := n0_; have HO496 := n1_; have BK483 := n2_; have BK484 := n3_; have HB := n4_; clear n0_ n1_ n2_ n3_ n4_; (try clear hb); (try clear hb2); (try clear hk); (try clear hi); (try clear ho0); (try clear ho1)) | ((with_reducible refine gate_dst (N := 13) rfl ?_); refine bx_ 13 #[.int .i64 0, .string (⟨#[]⟩ : ByteArray), .slice none 0 0, .int .i64 0, .int .i64 0, .slice none 0 0] 32 ?_; intro gb497 hg w24 hbox hb; have n0_ := mk_ (Kd.R_below (rq_ HO491) hb); have n1_ := mk_ (Kd.N_below (Kd.N_elderB (nq_ HO496) gb497 (Nat.le_of_eq hg.symm)) hb); have n2_ := mk_ (bb_ BK483 hb); have n3_ := mk_ (bb_ BK484 hb); have n4_ := mk_ (below_step (be2_ HB GE483 GE484) hb); have n5_ := mk_ (hbox); have n6_ := mk_ (gs_ hg (be2_ HB GE483 GE484)); have n7_ := mk_ (gs_ hg (be2_ HB GE483 GE484)); have n8_ := mk_ ((by rw [hg]; exact Nat.ne_of_lt (blk_lt (g := gb483) (o := .cells #[.slice A0_0 l0_0.length c0_0, .slice A0_1 l0_1.length c0_1, .int .i64 a0_2, .slice A0_3 l0_3.length c0_3] 28 (0, 0)) (bq_ BK483)) : gb483 ≠ gb497)); have n9_ := mk_ ((by rw [hg]; exact Nat.ne_of_gt (blk_lt (g := gb483) (o := .cells #[.slice A0_0 l0_0.length c0_0, .slice A0_1 l0_1.length c0_1, .int .i64 a0_2, .slice A0_3 l0_3.length c0_3] 28 (0, 0)) (bq_ BK483)) : gb497 ≠ gb483)); have n10_ := mk_ ((by rw [hg]; exact Nat.ne_of_lt (blk_lt (g := gb484) (o := .cells #[.int .i64 a1_0, .string a1_1, .slice A1_2 l1_2.length c1_2, .int .i64 a1_3, .int .i64 a1_4, .slice A1_5 l1_5.length c1_5] 32 (0, 0)) (bq_ BK484)) : gb484 ≠ gb497)); have n11_ := mk_ ((by rw [hg]; exact Nat.ne_of_gt (blk_lt (g := gb484) (o := .cells #[.int .i64 a1_0, .string a1_1, .slice A1_2 l1_2.length c1_2, .int .i64 a1_3, .int .i64 a1_4, .slice A1_5 l1_5.length c1_5] 32 (0, 0)) (bq_ BK484)) : gb497 ≠ gb484)); clear HO491; clear HO496; clear BK483; clear BK484; clear HB; have HO491 := n0_; have HO496 := n1_; have BK483 := n2_; have BK484 := n3_; have HB := n4_; have BK497 := n5_; have GW497 := n6_; have GE497 := n7_; have NB483_497 := n8_; have NB497_483 := n9_; have NB484_497 := n10_; have NB497_484 := n11_; clear n0_ n1_ n2_ n3_ n4_ n5_ n6_ n7_ n8_ n9_ n10_ n11_; clear hb hbox hg; have hnb25 := NB497_483.out; have hnc25 := NB483_497.out; have hnb26 := NB497_484.out; have hnc26 := NB484_497.out; obtain ⟨_, _, _, _, _, _, _, _, _, _, _, _⟩ := hb6_ BK497; obtain ⟨Ao28, co28, eo28⟩ := Kd.R_slice HO491.out; subst eo28; obtain ⟨Ao29, co29, eo29⟩ := Kd.N_slice HO496.out; subst eo29; obtain ⟨_, _, _, _, _, _, _, _⟩ := hb4_ BK483))
    have n0_ := mk_ (Kd.R_mono (Kd.R_far (p := ⟨gb497, 5, none⟩) (Kd.R_far (p := ⟨gb497, 4, none⟩) (Kd.R_far (p := ⟨gb497, 3, none⟩) (Kd.R_far (p := ⟨gb497, 2, none⟩) (Kd.R_far (p := ⟨gb497, 1, none⟩) (Kd.R_far (p := ⟨gb497, 0, none⟩) (Kd.R_types HO491.out BK497.out (by decide)) (fun _ hk => hk.2) (.int .i64 t487)) (fun _ hk => hk.2) (.string t488)) (fun _ hk => hk.2) (.slice Ao28 t489.length co28)) (fun _ hk => hk.2) (.int .i64 t492)) (fun _ hk => hk.2) (.int .i64 t493)) (fun _ hk => hk.2) (.slice Ao29 t494.length co29)) (fun _ h_ => h_.1))
    have n1_ := mk_ (Kd.N_mono (Kd.N_far (p := ⟨gb497, 5, none⟩) (Kd.N_far (p := ⟨gb497, 4, none⟩) (Kd.N_far (p := ⟨gb497, 3, none⟩) (Kd.N_far (p := ⟨gb497, 2, none⟩) (Kd.N_far (p := ⟨gb497, 1, none⟩) (Kd.N_far (p := ⟨gb497, 0, none⟩) (Kd.N_mono HO496.out (fun k_ hk => (⟨hk, hk.2⟩ : _ ∧ k_ ≠ gb497))) (fun _ hk => hk.2) (.int .i64 t487)) (fun _ hk => hk.2) (.string t488)) (fun _ hk => hk.2) (.slice Ao28 t489.length co28)) (fun _ hk => hk.2) (.int .i64 t492)) (fun _ hk => hk.2) (.int .i64 t493)) (fun _ hk => hk.2) (.slice Ao29 t494.length co29)) (fun _ h_ => h_.1))
    have n2_ := mk_ (blk_far (p := ⟨gb497, 5, none⟩) (blk_far (p := ⟨gb497, 4, none⟩) (blk_far (p := ⟨gb497, 3, none⟩) (blk_far (p := ⟨gb497, 2, none⟩) (blk_far (p := ⟨gb497, 1, none⟩) (blk_far (p := ⟨gb497, 0, none⟩) BK483.out NB483_497.out (.int .i64 t487)) NB483_497.out (.string t488)) NB483_497.out (.slice Ao28 t489.length co28)) NB483_497.out (.int .i64 t492)) NB483_497.out (.int .i64 t493)) NB483_497.out (.slice Ao29 t494.length co29))
    have n3_ := mk_ (blk_far (p := ⟨gb497, 5, none⟩) (blk_far (p := ⟨gb497, 4, none⟩) (blk_far (p := ⟨gb497, 3, none⟩) (blk_far (p := ⟨gb497, 2, none⟩) (blk_far (p := ⟨gb497, 1, none⟩) (blk_far (p := ⟨gb497, 0, none⟩) BK484.out NB484_497.out (.int .i64 t487)) NB484_497.out (.string t488)) NB484_497.out (.slice Ao28 t489.length co28)) NB484_497.out (.int .i64 t492)) NB484_497.out (.int .i64 t493)) NB484_497.out (.slice Ao29 t494.length co29))
    have n4_ := mk_ (blk_put (cs := #[.int .i64 t487, .string t488, .slice Ao28 t489.length co28, .int .i64 t492, .int .i64 t493, .slice none 0 0]) (blk_put (cs := #[.int .i64 t487, .string t488, .slice Ao28 t489.length co28, .int .i64 t492, .int .i64 0, .slice none 0 0]) (blk_put (cs := #[.int .i64 t487, .string t488, .slice Ao28 t489.length co28, .int .i64 0, .int .i64 0, .slice none 0 0]) (blk_put (cs := #[.int .i64 t487, .string t488, .slice none 0 0, .int .i64 0, .int .i64 0, .slice none 0 0]) (blk_put (cs := #[.int .i64 t487, .string (⟨#[]⟩ : ByteArray), .slice none 0 0, .int .i64 0, .int .i64 0, .slice none 0 0]) (blk_put (cs := #[.int .i64 0, .string (⟨#[]⟩ : ByteArray), .slice none 0 0, .int .i64 0, .int .i64 0, .slice none 0 0]) BK497.out 0 (.int .i64 t487) rfl) 1 (.string t488) rfl) 2 (.slice Ao28 t489.length co28) rfl) 3 (.int .i64 t492) rfl) 4 (.int .i64 t493) rfl) 5 (.slice Ao29 t494.length co29) rfl)
    have n5_ := mk_ (show Below w.heap.size w ((((((w24.setCell ⟨gb497, 0, none⟩ (.int .i64 t487)).setCell ⟨gb497, 1, none⟩ (.string t488)).setCell ⟨gb497, 2, none⟩ (.slice Ao28 t489.length co28)).setCell ⟨gb497, 3, none⟩ (.int .i64 t492)).setCell ⟨gb497, 4, none⟩ (.int .i64 t493)).setCell ⟨gb497, 5, none⟩ (.slice Ao29 t494.length co29)) from be3_ HB GE483 GE484 GE497)
    generalize ((((((w24.setCell ⟨gb497, 0, none⟩ (.int .i64 t487)).setCell ⟨gb497, 1, none⟩ (.string t488)).setCell ⟨gb497, 2, none⟩ (.slice Ao28 t489.length co28)).setCell ⟨gb497, 3, none⟩ (.int .i64 t492)).setCell ⟨gb497, 4, none⟩ (.int .i64 t493)).setCell ⟨gb497, 5, none⟩ (.slice Ao29 t494.length co29)) = wA1 at n0_ n1_ n2_ n3_ n4_ n5_ ⊢
    replace HO491 := n0_
    replace HO496 := n1_
    replace BK483 := n2_
    replace BK484 := n3_
    replace BK497 := n4_
    replace HB := n5_
    clear n0_ n1_ n2_ n3_ n4_ n5_
    obtain ⟨_, _, _, _, _, _, _, _, _, _, _, _⟩ := hb6_ BK497
    go_upto_region 7 with (fail)
    have n0_ := mk_ (Kd.R_mono (Kd.R_far (p := ⟨gb497, 4, none⟩) (Kd.R_far (p := ⟨gb497, 3, none⟩) (Kd.R_types HO491.out BK497.out (by decide)) (fun _ hk => hk.2) (.int .i64 a2)) (fun _ hk => hk.2) (.int .i64 a3)) (fun _ h_ => h_.1))
    have n1_ := mk_ (Kd.N_mono (Kd.N_far (p := ⟨gb497, 4, none⟩) (Kd.N_far (p := ⟨gb497, 3, none⟩) (Kd.N_mono HO496.out (fun k_ hk => (⟨hk, hk.2⟩ : _ ∧ k_ ≠ gb497))) (fun _ hk => hk.2) (.int .i64 a2)) (fun _ hk => hk.2) (.int .i64 a3)) (fun _ h_ => h_.1))
    have n2_ := mk_ (blk_far (p := ⟨gb497, 4, none⟩) (blk_far (p := ⟨gb497, 3, none⟩) BK483.out NB483_497.out (.int .i64 a2)) NB483_497.out (.int .i64 a3))
    have n3_ := mk_ (blk_far (p := ⟨gb497, 4, none⟩) (blk_far (p := ⟨gb497, 3, none⟩) BK484.out NB484_497.out (.int .i64 a2)) NB484_497.out (.int .i64 a3))
    have n4_ := mk_ (blk_put (cs := #[.int .i64 t487, .string t488, .slice Ao28 t489.length co28, .int .i64 a2, .int .i64 t493, .slice Ao29 t494.length co29]) (blk_put (cs := #[.int .i64 t487, .string t488, .slice Ao28 t489.length co28, .int .i64 t492, .int .i64 t493, .slice Ao29 t494.length co29]) BK497.out 3 (.int .i64 a2) rfl) 4 (.int .i64 a3) rfl)
    have n5_ := mk_ (show Below w.heap.size w ((wA1.setCell ⟨gb497, 3, none⟩ (.int .i64 a2)).setCell ⟨gb497, 4, none⟩ (.int .i64 a3)) from be3_ HB GE483 GE484 GE497)
    generalize ((wA1.setCell ⟨gb497, 3, none⟩ (.int .i64 a2)).setCell ⟨gb497, 4, none⟩ (.int .i64 a3)) = wA2 at n0_ n1_ n2_ n3_ n4_ n5_ ⊢
    replace HO491 := n0_
    replace HO496 := n1_
    replace BK483 := n2_
    replace BK484 := n3_
    replace BK497 := n4_
    replace HB := n5_
    clear n0_ n1_ n2_ n3_ n4_ n5_
    obtain ⟨_, _, _, _, _, _, _, _, _, _, _, _⟩ := hb6_ BK497
    obtain ⟨_, _, _, _, _, _, _, _⟩ := hb4_ BK483
    go_wp2_with (first | ((with_reducible refine gate_callee (f := 20) rfl ?_); refine gl_ (some 39) Tryd.func20 #[.agg #[.slice A0_0 l0_0.length c0_0, .slice A0_1 l0_1.length c0_1, .int .i64 a0_2, .slice A0_3 l0_3.length c0_3], .agg #[.int .i64 t487, .string t488, .slice Ao28 t489.length co28, .int .i64 a2, .int .i64 a3, .slice Ao29 t494.length co29], .int .i64 a4, .int .i64 a5] ?_; (with_reducible refine (pentaglotlaw26_at.calls k _ _ l0_0 _ _ l0_1 a0_2 _ _ l0_3 t487 t488 _ _ t489 a2 a3 _ _ t494 a4 a5 t498 true _ ?side1 ?side2 ?side3 ?side4 ?side5 ?side6 ?side7 ?side8 ?side9 ?side10 A12.out (tb_on HTB.out (be3_ HB GE483 GE484 GE497))).mono ?_); (case side1 => exact Kd.C_below HR0_0.out (be3_ HB GE483 GE484 GE497)); (case side2 => exact HC0_0.out); (case side3 => exact Kd.C_below HR0_1.out (be3_ HB GE483 GE484 GE497)); (case side4 => exact HC0_1.out); (case side5 => exact Kd.C_below HR0_3.out (be3_ HB GE483 GE484 GE497)); (case side6 => exact HC0_3.out); (case side7 => exact (Kd.R_reads' HO491.out).2.2); (case side8 => exact (Kd.R_reads' HO491.out).2.1); (case side9 => exact (Kd.N_reads' HO496.out).2.2); (case side10 => exact (Kd.N_reads' HO496.out).2.1); rintro e wA3 ⟨rfl, hb⟩; refine ⟨_, rfl, ?_⟩; replace HO491 := mk_ (Kd.R_below (rq_ HO491) hb); replace HO496 := mk_ (Kd.N_below (nq_ HO496) hb); replace BK483 := mk_ (bb_ BK483 hb); replace BK484 := mk_ (bb_ BK484 hb); replace BK497 := mk_ (bb_ BK497 hb); replace HB := mk_ (below_step (be3_ HB GE483 GE484 GE497) hb); clear hb; obtain ⟨_, _, _, _, _, _, _, _⟩ := hb4_ BK483) | ((with_reducible refine gate_callee (f := 22) rfl ?_); refine gl_ (some 46) Tryd.func22 #[.agg #[.slice A0_0 l0_0.length c0_0, .slice A0_1 l0_1.length c0_1, .int .i64 a0_2, .slice A0_3 l0_3.length c0_3], .int .i64 a2, .int .i64 a3] ?_; (with_reducible refine (evaluate_Moments.calls k _ _ l0_0 _ _ l0_1 a0_2 _ _ l0_3 a2 a3 t500 t503 _ ?side1 ?side2 ?side3 ?side4 ?side5 ?side6 A13.out).mono ?_); (case side1 => exact cs_ (Kd.C_below HR0_0.out HB.out)); (case side2 => exact HC0_0.out); (case side3 => exact cs_ (Kd.C_below HR0_1.out HB.out)); (case side4 => exact HC0_1.out); (case side5 => exact cs_ (Kd.C_below HR0_3.out HB.out)); (case side6 => exact HC0_3.out); rintro e w33 ⟨v501, rfl, ho0, hb⟩; refine ⟨_, rfl, ?_⟩; have HO502 := mk_ (Kd.R_lower ho0 (below_size (be3_ HB GE483 GE484 GE497))); replace HO491 := mk_ (Kd.R_below (rq_ HO491) hb); replace HO496 := mk_ (Kd.N_elder' (nq_ HO496) (Kd.R_base ho0) hb); replace BK483 := mk_ (bb_ BK483 hb); replace BK484 := mk_ (bb_ BK484 hb); replace BK497 := mk_ (bb_ BK497 hb); replace HB := mk_ (below_step (be3_ HB GE483 GE484 GE497) hb); (try clear hb); (try clear hb2); (try clear hk); (try clear hi); (try clear ho0)))
    go_loopg [18, 19] k (fun kq v18 v19 w' => ∃ (x18_1 : Bool) (x19_1 : Int), v18 = .bool x18_1 ∧ v19 = .int .i64 x19_1 ∧ Aside0 (pentaglotlaw26_EvaluateIntervals.l0 kq a4 t498 t500 t503 x18_1 x19_1 l0_0 l0_1 a0_2 l0_3 a1_0 a1_1 l1_2 a1_3 a1_4 l1_5 = some r) ∧ Aside0 (kq ≤ k) ∧ Aside0 (Kd.R (Kd.int .i64) 3 w' w.heap.size (fun _ => True) v501 t500) ∧ Aside0 (Kd.R k92 92 w' w.heap.size (fun _ => True) (.slice Ao28 t489.length co28) t489) ∧ Aside0 (Kd.N k32 32 w' w.heap.size (fun k_ => some k_ ≠ (v501 : Value).ownBlock ∧ some k_ ≠ ((.slice Ao28 t489.length co28) : Value).ownBlock ∧ k_ ≠ gb483 ∧ k_ ≠ gb484 ∧ k_ ≠ gb497) (.slice Ao29 t494.length co29) t494) ∧ Aside0 (w'.heap[gb483]? = some (.cells #[(.slice A0_0 l0_0.length c0_0), (.slice A0_1 l0_1.length c0_1), .int .i64 a0_2, (.slice A0_3 l0_3.length c0_3)] 28 (0, 0))) ∧ Aside0 (w'.heap[gb484]? = some (.cells #[.int .i64 a1_0, .string a1_1, (.slice A1_2 l1_2.length c1_2), .int .i64 a1_3, .int .i64 a1_4, (.slice A1_5 l1_5.length c1_5)] 32 (0, 0))) ∧ Aside0 (w'.heap[gb497]? = some (.cells #[.int .i64 t487, .string t488, (.slice Ao28 t489.length co28), .int .i64 a2, .int .i64 a3, (.slice Ao29 t494.length co29)] 32 (0, 0))) ∧ Aside0 (Below w.heap.size w w'))
    case atStart => exact ⟨((t503 == 0)), (0), fi_, fi_, H', ⟨Nat.le_refl _⟩, ⟨rq_ HO502⟩, ⟨rq_ HO491⟩, ⟨by refine sn_ ?_; exact Kd.N_mono HO496.out (fun _ hk => ⟨hk.2, ⟨hk.1.1.1, ⟨hk.1.1.2.1, ⟨hk.1.1.2.2, hk.1.2⟩⟩⟩⟩)⟩, ⟨bq_ BK483⟩, ⟨bq_ BK484⟩, ⟨bq_ BK497⟩, ⟨be3_ HB GE483 GE484 GE497⟩⟩
    case round =>
     clear H'
     obtain ⟨x18_1, x19_1, rfl, rfl, HA, HK1, HO_16, HO_498002, HO_498005, BK483, BK484, BK497, HB⟩ := hrel
     cases gk with
     | zero => exact absurd HA.out (by simp [pentaglotlaw26_EvaluateIntervals.l0])
     | succ k1 =>
      have H := HA.out
      clear HA
      simp only [pentaglotlaw26_EvaluateIntervals.l0] at H
      by_cases c34 : x19_1 < (t500.length : Int)
      ·rw [if_pos c34] at H
       have c34b0 : decide (x19_1 < (t500.length : Int)) = true := decide_eq_true c34
       clear c34
       by_cases c35 : 0 ≤ x19_1
       ·rw [if_pos c35] at H
        have c35b0 : decide (0 ≤ x19_1) = true := decide_eq_true c35
        clear c35
        replace H := Option.bind_eq_some_iff.mp H
        obtain ⟨⟨t505, t506⟩, A360, H⟩ := H
        replace H : (if x18_1 = true then (if t505 = true then (pentaglotlaw26_EvaluateIntervals.l0 k1 a4 t498 t500 t503 t506 (wrap64 (x19_1 + 1)) l0_0 l0_1 a0_2 l0_3 a1_0 a1_1 l1_2 a1_3 a1_4 l1_5) else (pentaglotlaw26_EvaluateIntervals.l0 k1 a4 t498 t500 t503 false (wrap64 (x19_1 + 1)) l0_0 l0_1 a0_2 l0_3 a1_0 a1_1 l1_2 a1_3 a1_4 l1_5)) else (pentaglotlaw26_EvaluateIntervals.l0 k1 a4 t498 t500 t503 false (wrap64 (x19_1 + 1)) l0_0 l0_1 a0_2 l0_3 a1_0 a1_1 l1_2 a1_3 a1_4 l1_5)) = some r := H
        have A36 := mk_ A360
        clear A360
        by_cases c37 : x18_1 = true
        ·subst c37
         rw [if_pos rfl] at H
         by_cases c38 : t505 = true
         ·subst c38
          rw [if_pos rfl] at H
          have H' := mk_ H
          clear H
          obtain ⟨Ao39, co39, eo39⟩ := Kd.R_slice HO_16.out
          subst eo39
          try go_wp2
          have n0_ := mk_ (Kd.R_drew HO_16.out)
          have n1_ := mk_ (Kd.R_drew HO_498002.out)
          have n2_ := mk_ (Kd.N_drew HO_498005.out)
          have n3_ := mk_ (blk_drew BK483.out)
          have n4_ := mk_ (blk_drew BK484.out)
          have n5_ := mk_ (blk_drew BK497.out)
          have n6_ := mk_ (below_drew1 HB.out)
          clear HO_16
          clear HO_498002
          clear HO_498005
          clear BK483
          clear BK484
          clear BK497
          clear HB
          have HO_16 := n0_
          have HO_498002 := n1_
          have HO_498005 := n2_
          have BK483 := n3_
          have BK484 := n4_
          have BK497 := n5_
          have HB := n6_
          clear n0_ n1_ n2_ n3_ n4_ n5_ n6_
          have p504 : 0 ≤ (x19_1 : Int) := of_decide_eq_true (by first | (with_reducible assumption) | assumption)
          have q504 : x19_1 < (t500.length : Int) := of_decide_eq_true (by first | (with_reducible assumption) | assumption)
          obtain ⟨ad504, e504, hx504_0⟩ := Kd.at_int (Kd.R_reads' HO_16.out).2.2 x19_1 p504 q504
          cases e504
          replace p504 := eq_true p504
          replace q504 := eq_true q504
          refine start_ (n := 13) (S := fun w' => w'.cell? ⟨gb483, 0, none⟩ = some (.slice A0_0 l0_0.length c0_0) ∧ w'.cell? ⟨gb483, 1, none⟩ = some (.slice A0_1 l0_1.length c0_1) ∧ w'.cell? ⟨gb483, 2, none⟩ = some (.int .i64 a0_2) ∧ w'.cell? ⟨gb483, 3, none⟩ = some (.slice A0_3 l0_3.length c0_3) ∧ w'.cell? ⟨gb484, 0, none⟩ = some (.int .i64 a1_0) ∧ w'.cell? ⟨gb484, 1, none⟩ = some (.string a1_1) ∧ w'.cell? ⟨gb484, 2, none⟩ = some (.slice A1_2 l1_2.length c1_2) ∧ w'.cell? ⟨gb484, 3, none⟩ = some (.int .i64 a1_3) ∧ w'.cell? ⟨gb484, 4, none⟩ = some (.int .i64 a1_4) ∧ w'.cell? ⟨gb484, 5, none⟩ = some (.slice A1_5 l1_5.length c1_5) ∧ w'.cell? (ad504.add (x19_1).toNat) = some (.int .i64 (rd t500 x19_1))) (ds := []) #[false, false, false, false, false, false, false, false, false, false, false, false, false] (by kernel_rfl) rfl rfl ⟨(blk_cell BK483.out 0).trans rfl, (blk_cell BK483.out 1).trans rfl, (blk_cell BK483.out 2).trans rfl, (blk_cell BK483.out 3).trans rfl, (blk_cell BK484.out 0).trans rfl, (blk_cell BK484.out 1).trans rfl, (blk_cell BK484.out 2).trans rfl, (blk_cell BK484.out 3).trans rfl, (blk_cell BK484.out 4).trans rfl, (blk_cell BK484.out 5).trans rfl, hx504_0⟩ (fun hHeld => ?_); refine with_tabW pentaglotlaw26_EvaluateIntervals.tab15 pentaglotlaw26_EvaluateIntervals.bits15 (fun HT_ HW_ => ?_)
          generalize wr.drew = w40 at HO_16 HO_498002 HO_498005 BK483 BK484 BK497 HB hx504_0 hHeld ⊢
          refine pu_ 2 (some 62) ?_
          refine pu_ 3 (some 63) ?_
          refine pu_ 4 (some 64) ?_
          refine pu_ 5 (some 65) ?_
          refine tk_ 0 (some 60) hHeld ?_
          refine tk_ 1 (some 61) hHeld ?_
          refine tk_ 6 (some 66) hHeld ?_
          refine on_ 7 (some 67) (fun K hK => ?_)
          refine goes_ Tryd.func20 (by kernel_rfl) rfl #[.agg #[.slice A0_0 l0_0.length c0_0, .slice A0_1 l0_1.length c0_1, .int .i64 a0_2, .slice A0_3 l0_3.length c0_3], .agg #[.int .i64 a1_0, .string a1_1, .slice A1_2 l1_2.length c1_2, .int .i64 a1_3, .int .i64 a1_4, .slice A1_5 l1_5.length c1_5], .int .i64 a4, .int .i64 (rd t500 x19_1)] (by rfl) rfl rfl (by (try simp only [List.map_toArray, List.map_cons, List.map_nil]); first | done | rfl | (simp only [List.length_drop, List.length_take]; rfl)) ?_
          with_reducible refine (pentaglotlaw26_at.calls k1 _ _ l0_0 _ _ l0_1 a0_2 _ _ l0_3 a1_0 a1_1 _ _ l1_2 a1_3 a1_4 _ _ l1_5 a4 (rd t500 x19_1) true t506 _ ?side1 ?side2 ?side3 ?side4 ?side5 ?side6 ?side7 ?side8 ?side9 ?side10 A36.out (tb_on HTB.out (be3_ HB GE483 GE484 GE497))).mono ?_
          (case side1 => exact cs_ (Kd.C_below HR0_0.out HB.out))
          (case side2 => exact HC0_0.out)
          (case side3 => exact cs_ (Kd.C_below HR0_1.out HB.out))
          (case side4 => exact HC0_1.out)
          (case side5 => exact cs_ (Kd.C_below HR0_3.out HB.out))
          (case side6 => exact HC0_3.out)
          (case side7 => exact cs_ (Kd.C_below HR1_2.out HB.out))
          (case side8 => exact HC1_2.out)
          (case side9 => exact cs_ (Kd.C_below HR1_5.out HB.out))
          (case side10 => exact HC1_5.out)
          rintro e w41 ⟨rfl, hb⟩
          have HS10_ := (hb.cell (World.block_lt_of_cell? _ _ (hHeld.2.2.2.2.2.2.2.2.2.2))).trans (hHeld.2.2.2.2.2.2.2.2.2.2)
          refine ⟨_, rfl, ?_⟩
          have n0_ := mk_ (Kd.R_below (rq_ HO_16) hb)
          have n1_ := mk_ (Kd.R_below (rq_ HO_498002) hb)
          have n2_ := mk_ (Kd.N_below (nq_ HO_498005) hb)
          have n3_ := mk_ (bb_ BK483 hb)
          have n4_ := mk_ (bb_ BK484 hb)
          have n5_ := mk_ (bb_ BK497 hb)
          have n6_ := mk_ (below_step (be3_ HB GE483 GE484 GE497) hb)
          clear HO_16
          clear HO_498002
          clear HO_498005
          clear BK483
          clear BK484
          clear BK497
          clear HB
          have HO_16 := n0_
          have HO_498002 := n1_
          have HO_498005 := n2_
          have BK483 := n3_
          have BK484 := n4_
          have BK497 := n5_
          have HB := n6_
          clear n0_ n1_ n2_ n3_ n4_ n5_ n6_
          (try clear hb)
          (try clear hb2)
          (try clear hk)
          (try clear hi)
          refine hK.out _ _ ⟨(blk_cell BK483.out 0).trans rfl, (blk_cell BK483.out 1).trans rfl, (blk_cell BK483.out 2).trans rfl, (blk_cell BK483.out 3).trans rfl, (blk_cell BK484.out 0).trans rfl, (blk_cell BK484.out 1).trans rfl, (blk_cell BK484.out 2).trans rfl, (blk_cell BK484.out 3).trans rfl, (blk_cell BK484.out 4).trans rfl, (blk_cell BK484.out 5).trans rfl, HS10_⟩ (fun hHeld => ?_)
          clear hK K
          refine no_ (N := some 67) ?_
          refine pu_ 8 (some 59) ?_
          refine pu_ 9 (some 68) ?_
          refine pu_ 10 (some 69) ?_
          refine pu_ 11 (some 20) ?_
          refine pu_ 12 (some 21) ?_
          refine done_ (done_of HT_.out (by kernel_rfl)) ?_
          try go_wp2
          go_roundg k1
          case measure => have := HK1.out; omega
          case rel => exact ⟨(t506), (wrap64 (x19_1 + 1)), fi_, fi_, H', ⟨by have := HK1.out; omega⟩, ⟨rq_ HO_16⟩, ⟨rq_ HO_498002⟩, ⟨nq_ HO_498005⟩, ⟨bq_ BK483⟩, ⟨bq_ BK484⟩, ⟨bq_ BK497⟩, ⟨be3_ HB GE483 GE484 GE497⟩⟩
         ·replace c38 := Bool.eq_false_iff.mpr c38
          subst c38
          rw [if_neg nf_] at H
          have H' := mk_ H
          clear H
          obtain ⟨Ao42, co42, eo42⟩ := Kd.R_slice HO_16.out
          subst eo42
          try go_wp2
          have n0_ := mk_ (Kd.R_drew HO_16.out)
          have n1_ := mk_ (Kd.R_drew HO_498002.out)
          have n2_ := mk_ (Kd.N_drew HO_498005.out)
          have n3_ := mk_ (blk_drew BK483.out)
          have n4_ := mk_ (blk_drew BK484.out)
          have n5_ := mk_ (blk_drew BK497.out)
          have n6_ := mk_ (below_drew1 HB.out)
          clear HO_16
          clear HO_498002
          clear HO_498005
          clear BK483
          clear BK484
          clear BK497
          clear HB
          have HO_16 := n0_
          have HO_498002 := n1_
          have HO_498005 := n2_
          have BK483 := n3_
          have BK484 := n4_
          have BK497 := n5_
          have HB := n6_
          clear n0_ n1_ n2_ n3_ n4_ n5_ n6_
          have p504 : 0 ≤ (x19_1 : Int) := of_decide_eq_true (by first | (with_reducible assumption) | assumption)
          have q504 : x19_1 < (t500.length : Int) := of_decide_eq_true (by first | (with_reducible assumption) | assumption)
          obtain ⟨ad504, e504, hx504_0⟩ := Kd.at_int (Kd.R_reads' HO_16.out).2.2 x19_1 p504 q504
          cases e504
          replace p504 := eq_true p504
          replace q504 := eq_true q504
          refine start_ (n := 13) (S := fun w' => w'.cell? ⟨gb483, 0, none⟩ = some (.slice A0_0 l0_0.length c0_0) ∧ w'.cell? ⟨gb483, 1, none⟩ = some (.slice A0_1 l0_1.length c0_1) ∧ w'.cell? ⟨gb483, 2, none⟩ = some (.int .i64 a0_2) ∧ w'.cell? ⟨gb483, 3, none⟩ = some (.slice A0_3 l0_3.length c0_3) ∧ w'.cell? ⟨gb484, 0, none⟩ = some (.int .i64 a1_0) ∧ w'.cell? ⟨gb484, 1, none⟩ = some (.string a1_1) ∧ w'.cell? ⟨gb484, 2, none⟩ = some (.slice A1_2 l1_2.length c1_2) ∧ w'.cell? ⟨gb484, 3, none⟩ = some (.int .i64 a1_3) ∧ w'.cell? ⟨gb484, 4, none⟩ = some (.int .i64 a1_4) ∧ w'.cell? ⟨gb484, 5, none⟩ = some (.slice A1_5 l1_5.length c1_5) ∧ w'.cell? (ad504.add (x19_1).toNat) = some (.int .i64 (rd t500 x19_1))) (ds := []) #[false, false, false, false, false, false, false, false, false, false, false, false, false] (by kernel_rfl) rfl rfl ⟨(blk_cell BK483.out 0).trans rfl, (blk_cell BK483.out 1).trans rfl, (blk_cell BK483.out 2).trans rfl, (blk_cell BK483.out 3).trans rfl, (blk_cell BK484.out 0).trans rfl, (blk_cell BK484.out 1).trans rfl, (blk_cell BK484.out 2).trans rfl, (blk_cell BK484.out 3).trans rfl, (blk_cell BK484.out 4).trans rfl, (blk_cell BK484.out 5).trans rfl, hx504_0⟩ (fun hHeld => ?_); refine with_tabW pentaglotlaw26_EvaluateIntervals.tab15 pentaglotlaw26_EvaluateIntervals.bits15 (fun HT_ HW_ => ?_)
          generalize wr.drew = w43 at HO_16 HO_498002 HO_498005 BK483 BK484 BK497 HB hx504_0 hHeld ⊢
          refine pu_ 2 (some 62) ?_
          refine pu_ 3 (some 63) ?_
          refine pu_ 4 (some 64) ?_
          refine pu_ 5 (some 65) ?_
          refine tk_ 0 (some 60) hHeld ?_
          refine tk_ 1 (some 61) hHeld ?_
          refine tk_ 6 (some 66) hHeld ?_
          refine on_ 7 (some 67) (fun K hK => ?_)
          refine goes_ Tryd.func20 (by kernel_rfl) rfl #[.agg #[.slice A0_0 l0_0.length c0_0, .slice A0_1 l0_1.length c0_1, .int .i64 a0_2, .slice A0_3 l0_3.length c0_3], .agg #[.int .i64 a1_0, .string a1_1, .slice A1_2 l1_2.length c1_2, .int .i64 a1_3, .int .i64 a1_4, .slice A1_5 l1_5.length c1_5], .int .i64 a4, .int .i64 (rd t500 x19_1)] (by rfl) rfl rfl (by (try simp only [List.map_toArray, List.map_cons, List.map_nil]); first | done | rfl | (simp only [List.length_drop, List.length_take]; rfl)) ?_
          with_reducible refine (pentaglotlaw26_at.calls k1 _ _ l0_0 _ _ l0_1 a0_2 _ _ l0_3 a1_0 a1_1 _ _ l1_2 a1_3 a1_4 _ _ l1_5 a4 (rd t500 x19_1) false t506 _ ?side1 ?side2 ?side3 ?side4 ?side5 ?side6 ?side7 ?side8 ?side9 ?side10 A36.out (tb_on HTB.out (be3_ HB GE483 GE484 GE497))).mono ?_
          (case side1 => exact cs_ (Kd.C_below HR0_0.out HB.out))
          (case side2 => exact HC0_0.out)
          (case side3 => exact cs_ (Kd.C_below HR0_1.out HB.out))
          (case side4 => exact HC0_1.out)
          (case side5 => exact cs_ (Kd.C_below HR0_3.out HB.out))
          (case side6 => exact HC0_3.out)
          (case side7 => exact cs_ (Kd.C_below HR1_2.out HB.out))
          (case side8 => exact HC1_2.out)
          (case side9 => exact cs_ (Kd.C_below HR1_5.out HB.out))
          (case side10 => exact HC1_5.out)
          rintro e w44 ⟨rfl, hb⟩
          have HS10_ := (hb.cell (World.block_lt_of_cell? _ _ (hHeld.2.2.2.2.2.2.2.2.2.2))).trans (hHeld.2.2.2.2.2.2.2.2.2.2)
          refine ⟨_, rfl, ?_⟩
          have n0_ := mk_ (Kd.R_below (rq_ HO_16) hb)
          have n1_ := mk_ (Kd.R_below (rq_ HO_498002) hb)
          have n2_ := mk_ (Kd.N_below (nq_ HO_498005) hb)
          have n3_ := mk_ (bb_ BK483 hb)
          have n4_ := mk_ (bb_ BK484 hb)
          have n5_ := mk_ (bb_ BK497 hb)
          have n6_ := mk_ (below_step (be3_ HB GE483 GE484 GE497) hb)
          clear HO_16
          clear HO_498002
          clear HO_498005
          clear BK483
          clear BK484
          clear BK497
          clear HB
          have HO_16 := n0_
          have HO_498002 := n1_
          have HO_498005 := n2_
          have BK483 := n3_
          have BK484 := n4_
          have BK497 := n5_
          have HB := n6_
          clear n0_ n1_ n2_ n3_ n4_ n5_ n6_
          (try clear hb)
          (try clear hb2)
          (try clear hk)
          (try clear hi)
          refine hK.out _ _ ⟨(blk_cell BK483.out 0).trans rfl, (blk_cell BK483.out 1).trans rfl, (blk_cell BK483.out 2).trans rfl, (blk_cell BK483.out 3).trans rfl, (blk_cell BK484.out 0).trans rfl, (blk_cell BK484.out 1).trans rfl, (blk_cell BK484.out 2).trans rfl, (blk_cell BK484.out 3).trans rfl, (blk_cell BK484.out 4).trans rfl, (blk_cell BK484.out 5).trans rfl, HS10_⟩ (fun hHeld => ?_)
          clear hK K
          refine no_ (N := some 67) ?_
          refine pu_ 8 (some 59) ?_
          refine pu_ 9 (some 68) ?_
          refine pu_ 10 (some 69) ?_
          refine pu_ 11 (some 20) ?_
          refine pu_ 12 (some 21) ?_
          refine done_ (done_of HT_.out (by kernel_rfl)) ?_
          try go_wp2
          go_roundg k1
          case measure => have := HK1.out; omega
          case rel => exact ⟨(false), (wrap64 (x19_1 + 1)), fi_, fi_, H', ⟨by have := HK1.out; omega⟩, ⟨rq_ HO_16⟩, ⟨rq_ HO_498002⟩, ⟨nq_ HO_498005⟩, ⟨bq_ BK483⟩, ⟨bq_ BK484⟩, ⟨bq_ BK497⟩, ⟨be3_ HB GE483 GE484 GE497⟩⟩
        ·replace c37 := Bool.eq_false_iff.mpr c37
         subst c37
         rw [if_neg nf_] at H
         have H' := mk_ H
         clear H
         obtain ⟨Ao45, co45, eo45⟩ := Kd.R_slice HO_16.out
         subst eo45
         try go_wp2
         have n0_ := mk_ (Kd.R_drew HO_16.out)
         have n1_ := mk_ (Kd.R_drew HO_498002.out)
         have n2_ := mk_ (Kd.N_drew HO_498005.out)
         have n3_ := mk_ (blk_drew BK483.out)
         have n4_ := mk_ (blk_drew BK484.out)
         have n5_ := mk_ (blk_drew BK497.out)
         have n6_ := mk_ (below_drew1 HB.out)
         clear HO_16
         clear HO_498002
         clear HO_498005
         clear BK483
         clear BK484
         clear BK497
         clear HB
         have HO_16 := n0_
         have HO_498002 := n1_
         have HO_498005 := n2_
         have BK483 := n3_
         have BK484 := n4_
         have BK497 := n5_
         have HB := n6_
         clear n0_ n1_ n2_ n3_ n4_ n5_ n6_
         have p504 : 0 ≤ (x19_1 : Int) := of_decide_eq_true (by first | (with_reducible assumption) | assumption)
         have q504 : x19_1 < (t500.length : Int) := of_decide_eq_true (by first | (with_reducible assumption) | assumption)
         obtain ⟨ad504, e504, hx504_0⟩ := Kd.at_int (Kd.R_reads' HO_16.out).2.2 x19_1 p504 q504
         cases e504
         replace p504 := eq_true p504
         replace q504 := eq_true q504
         refine start_ (n := 13) (S := fun w' => w'.cell? ⟨gb483, 0, none⟩ = some (.slice A0_0 l0_0.length c0_0) ∧ w'.cell? ⟨gb483, 1, none⟩ = some (.slice A0_1 l0_1.length c0_1) ∧ w'.cell? ⟨gb483, 2, none⟩ = some (.int .i64 a0_2) ∧ w'.cell? ⟨gb483, 3, none⟩ = some (.slice A0_3 l0_3.length c0_3) ∧ w'.cell? ⟨gb484, 0, none⟩ = some (.int .i64 a1_0) ∧ w'.cell? ⟨gb484, 1, none⟩ = some (.string a1_1) ∧ w'.cell? ⟨gb484, 2, none⟩ = some (.slice A1_2 l1_2.length c1_2) ∧ w'.cell? ⟨gb484, 3, none⟩ = some (.int .i64 a1_3) ∧ w'.cell? ⟨gb484, 4, none⟩ = some (.int .i64 a1_4) ∧ w'.cell? ⟨gb484, 5, none⟩ = some (.slice A1_5 l1_5.length c1_5) ∧ w'.cell? (ad504.add (x19_1).toNat) = some (.int .i64 (rd t500 x19_1))) (ds := []) #[false, false, false, false, false, false, false, false, false, false, false, false, false] (by kernel_rfl) rfl rfl ⟨(blk_cell BK483.out 0).trans rfl, (blk_cell BK483.out 1).trans rfl, (blk_cell BK483.out 2).trans rfl, (blk_cell BK483.out 3).trans rfl, (blk_cell BK484.out 0).trans rfl, (blk_cell BK484.out 1).trans rfl, (blk_cell BK484.out 2).trans rfl, (blk_cell BK484.out 3).trans rfl, (blk_cell BK484.out 4).trans rfl, (blk_cell BK484.out 5).trans rfl, hx504_0⟩ (fun hHeld => ?_); refine with_tabW pentaglotlaw26_EvaluateIntervals.tab15 pentaglotlaw26_EvaluateIntervals.bits15 (fun HT_ HW_ => ?_)
         generalize wr.drew = w46 at HO_16 HO_498002 HO_498005 BK483 BK484 BK497 HB hx504_0 hHeld ⊢
         refine pu_ 2 (some 62) ?_
         refine pu_ 3 (some 63) ?_
         refine pu_ 4 (some 64) ?_
         refine pu_ 5 (some 65) ?_
         refine tk_ 0 (some 60) hHeld ?_
         refine tk_ 1 (some 61) hHeld ?_
         refine tk_ 6 (some 66) hHeld ?_
         refine on_ 7 (some 67) (fun K hK => ?_)
         refine goes_ Tryd.func20 (by kernel_rfl) rfl #[.agg #[.slice A0_0 l0_0.length c0_0, .slice A0_1 l0_1.length c0_1, .int .i64 a0_2, .slice A0_3 l0_3.length c0_3], .agg #[.int .i64 a1_0, .string a1_1, .slice A1_2 l1_2.length c1_2, .int .i64 a1_3, .int .i64 a1_4, .slice A1_5 l1_5.length c1_5], .int .i64 a4, .int .i64 (rd t500 x19_1)] (by rfl) rfl rfl (by (try simp only [List.map_toArray, List.map_cons, List.map_nil]); first | done | rfl | (simp only [List.length_drop, List.length_take]; rfl)) ?_
         with_reducible refine (pentaglotlaw26_at.calls k1 _ _ l0_0 _ _ l0_1 a0_2 _ _ l0_3 a1_0 a1_1 _ _ l1_2 a1_3 a1_4 _ _ l1_5 a4 (rd t500 x19_1) t505 t506 _ ?side1 ?side2 ?side3 ?side4 ?side5 ?side6 ?side7 ?side8 ?side9 ?side10 A36.out (tb_on HTB.out (be3_ HB GE483 GE484 GE497))).mono ?_
         (case side1 => exact cs_ (Kd.C_below HR0_0.out HB.out))
         (case side2 => exact HC0_0.out)
         (case side3 => exact cs_ (Kd.C_below HR0_1.out HB.out))
         (case side4 => exact HC0_1.out)
         (case side5 => exact cs_ (Kd.C_below HR0_3.out HB.out))
         (case side6 => exact HC0_3.out)
         (case side7 => exact cs_ (Kd.C_below HR1_2.out HB.out))
         (case side8 => exact HC1_2.out)
         (case side9 => exact cs_ (Kd.C_below HR1_5.out HB.out))
         (case side10 => exact HC1_5.out)
         rintro e w47 ⟨rfl, hb⟩
         have HS10_ := (hb.cell (World.block_lt_of_cell? _ _ (hHeld.2.2.2.2.2.2.2.2.2.2))).trans (hHeld.2.2.2.2.2.2.2.2.2.2)
         refine ⟨_, rfl, ?_⟩
         have n0_ := mk_ (Kd.R_below (rq_ HO_16) hb)
         have n1_ := mk_ (Kd.R_below (rq_ HO_498002) hb)
         have n2_ := mk_ (Kd.N_below (nq_ HO_498005) hb)
         have n3_ := mk_ (bb_ BK483 hb)
         have n4_ := mk_ (bb_ BK484 hb)
         have n5_ := mk_ (bb_ BK497 hb)
         have n6_ := mk_ (below_step (be3_ HB GE483 GE484 GE497) hb)
         clear HO_16
         clear HO_498002
         clear HO_498005
         clear BK483
         clear BK484
         clear BK497
         clear HB
         have HO_16 := n0_
         have HO_498002 := n1_
         have HO_498005 := n2_
         have BK483 := n3_
         have BK484 := n4_
         have BK497 := n5_
         have HB := n6_
         clear n0_ n1_ n2_ n3_ n4_ n5_ n6_
         (try clear hb)
         (try clear hb2)
         (try clear hk)
         (try clear hi)
         refine hK.out _ _ ⟨(blk_cell BK483.out 0).trans rfl, (blk_cell BK483.out 1).trans rfl, (blk_cell BK483.out 2).trans rfl, (blk_cell BK483.out 3).trans rfl, (blk_cell BK484.out 0).trans rfl, (blk_cell BK484.out 1).trans rfl, (blk_cell BK484.out 2).trans rfl, (blk_cell BK484.out 3).trans rfl, (blk_cell BK484.out 4).trans rfl, (blk_cell BK484.out 5).trans rfl, HS10_⟩ (fun hHeld => ?_)
         clear hK K
         refine no_ (N := some 67) ?_
         refine pu_ 8 (some 59) ?_
         refine pu_ 9 (some 68) ?_
         refine pu_ 10 (some 69) ?_
         refine pu_ 11 (some 20) ?_
         refine pu_ 12 (some 21) ?_
         refine done_ (done_of HT_.out (by kernel_rfl)) ?_
         try go_wp2
         go_roundg k1
         case measure => have := HK1.out; omega
         case rel => exact ⟨(false), (wrap64 (x19_1 + 1)), fi_, fi_, H', ⟨by have := HK1.out; omega⟩, ⟨rq_ HO_16⟩, ⟨rq_ HO_498002⟩, ⟨nq_ HO_498005⟩, ⟨bq_ BK483⟩, ⟨bq_ BK484⟩, ⟨bq_ BK497⟩, ⟨be3_ HB GE483 GE484 GE497⟩⟩
       ·rw [if_neg c35] at H
        exact absurd H (by simp)
      ·rw [if_neg c34] at H
       have c34b0 : decide (x19_1 < (t500.length : Int)) = false := decide_eq_false c34
       clear c34
       by_cases c48 : t503 = 0
       ·rw [if_pos c48] at H
        obtain ⟨c48b0, c48b1⟩ := eb_ c48
        clear c48
        obtain rfl := Option.some.inj H
        obtain ⟨Ao49, co49, eo49⟩ := Kd.R_slice HO_16.out
        subst eo49
        go_wp2
        go_ret
        exact ⟨er_, be3_ HB GE483 GE484 GE497⟩
       ·rw [if_neg c48] at H
        obtain ⟨c48b0, c48b1⟩ := en_ c48
        obtain rfl := Option.some.inj H
        obtain ⟨Ao50, co50, eo50⟩ := Kd.R_slice HO_16.out
        subst eo50
        go_wp2
        go_ret
        exact ⟨er_, be3_ HB GE483 GE484 GE497⟩
   ·replace c14 := Bool.eq_false_iff.mpr c14
    subst c14
    rw [if_neg nf_] at H
    obtain rfl := Option.some.inj H
    go_enter Tryd.func8, Tryd.ntmps8
    go_upto_region 6 with (first | ((with_reducible refine gate_dst (N := 6) rfl ?_); refine bx_ 6 #[.slice A0_0 l0_0.length c0_0, .slice A0_1 l0_1.length c0_1, .int .i64 a0_2, .slice A0_3 l0_3.length c0_3] 28 ?_; intro gb483 hg w51 hbox hb; have BK483 := mk_ (hbox); have GW483 := mk_ (gs_ hg (be_ HB)); have GE483 := mk_ (gs_ hg (be_ HB)); replace HB := mk_ (below_step (be_ HB) hb); clear hb hbox hg) | ((with_reducible refine gate_dst (N := 7) rfl ?_); refine bx_ 7 #[.int .i64 a1_0, .string a1_1, .slice A1_2 l1_2.length c1_2, .int .i64 a1_3, .int .i64 a1_4, .slice A1_5 l1_5.length c1_5] 32 ?_; intro gb484 hg w52 hbox hb; have n0_ := mk_ (bb_ BK483 hb); have n1_ := mk_ (below_step (be1_ HB GE483) hb); have n2_ := mk_ (hbox); have n3_ := mk_ (gs_ hg (be1_ HB GE483)); have n4_ := mk_ (gs_ hg (be1_ HB GE483)); have n5_ := mk_ ((by rw [hg]; exact Nat.ne_of_lt (blk_lt (g := gb483) (o := .cells #[.slice A0_0 l0_0.length c0_0, .slice A0_1 l0_1.length c0_1, .int .i64 a0_2, .slice A0_3 l0_3.length c0_3] 28 (0, 0)) (bq_ BK483)) : gb483 ≠ gb484)); have n6_ := mk_ ((by rw [hg]; exact Nat.ne_of_gt (blk_lt (g := gb483) (o := .cells #[.slice A0_0 l0_0.length c0_0, .slice A0_1 l0_1.length c0_1, .int .i64 a0_2, .slice A0_3 l0_3.length c0_3] 28 (0, 0)) (bq_ BK483)) : gb484 ≠ gb483)); clear BK483; clear HB; have BK483 := n0_; have HB := n1_; have BK484 := n2_; have GW484 := n3_; have GE484 := n4_; have NB483_484 := n5_; have NB484_483 := n6_; clear n0_ n1_ n2_ n3_ n4_ n5_ n6_; clear hb hbox hg) | ((with_reducible refine gate_callee (f := 12) rfl ?_); refine gl_ (some 22) Tryd.func12 #[] ?_; (with_reducible refine (pentaglotlaw26_awake.calls k  true _ A7.out (tb_on HTB.out (be2_ HB GE483 GE484))).mono ?_); rintro e w53 ⟨rfl, hb⟩; refine ⟨_, rfl, ?_⟩; replace BK483 := mk_ (bb_ BK483 hb); replace BK484 := mk_ (bb_ BK484 hb); replace HB := mk_ (below_step (be2_ HB GE483 GE484) hb); (try clear hb); (try clear hb2); (try clear hk); (try clear hi); have hnb54 := NB483_484.out; have hnc54 := NB484_483.out; obtain ⟨_, _, _, _, _, _, _, _⟩ := hb4_ BK483; obtain ⟨_, _, _, _, _, _, _, _, _, _, _, _⟩ := hb6_ BK484) | ((with_reducible refine gate_callee (f := 13) rfl ?_); refine gl_ (some 26) Tryd.func13 #[.agg #[.slice A0_0 l0_0.length c0_0, .slice A0_1 l0_1.length c0_1, .int .i64 a0_2, .slice A0_3 l0_3.length c0_3], .agg #[.int .i64 a1_0, .string a1_1, .slice A1_2 l1_2.length c1_2, .int .i64 a1_3, .int .i64 a1_4, .slice A1_5 l1_5.length c1_5]] ?_; (with_reducible refine (pentaglotref26_Light.calls k _ _ l0_0 _ _ l0_1 a0_2 _ _ l0_3 a1_0 a1_1 _ _ l1_2 a1_3 a1_4 _ _ l1_5 true _ ?side1 ?side2 ?side3 ?side4 ?side5 ?side6 ?side7 ?side8 ?side9 ?side10 A9.out).mono ?_); (case side1 => exact cs_ (Kd.C_below HR0_0.out HB.out)); (case side2 => exact HC0_0.out); (case side3 => exact cs_ (Kd.C_below HR0_1.out HB.out)); (case side4 => exact HC0_1.out); (case side5 => exact cs_ (Kd.C_below HR0_3.out HB.out)); (case side6 => exact HC0_3.out); (case side7 => exact cs_ (Kd.C_below HR1_2.out HB.out)); (case side8 => exact HC1_2.out); (case side9 => exact cs_ (Kd.C_below HR1_5.out HB.out)); (case side10 => exact HC1_5.out); rintro e w57 ⟨rfl, hb⟩; refine ⟨_, rfl, ?_⟩; replace BK483 := mk_ (bb_ BK483 hb); replace BK484 := mk_ (bb_ BK484 hb); replace HB := mk_ (below_step (be2_ HB GE483 GE484) hb); (try clear hb); (try clear hb2); (try clear hk); (try clear hi); obtain ⟨_, _, _, _, _, _, _, _, _, _, _, _⟩ := hb6_ BK484) | ((with_reducible refine gate_callee (f := 26) rfl ?_); refine gl_ (some 29) Tryd.func26 #[.int .i64 10, .agg #[.int .i64 a1_0, .string a1_1, .slice A1_2 l1_2.length c1_2, .int .i64 a1_3, .int .i64 a1_4, .slice A1_5 l1_5.length c1_5]] ?_; (with_reducible refine (pentaglotlaw26_kid.calls 10 a1_0 a1_1 (fun k_ => k_ < w.heap.size) _ _ l1_2 a1_3 a1_4 (fun k_ => k_ < w.heap.size) _ _ l1_5 t487 t488 t489 t492 t493 t494 _ ?side1 ?side2 A11.out).mono ?_); (case side1 => exact Kd.V_mk HC1_2.out (Kd.F_below (Kd.C_F k92_heap HR1_2.out) (be2_ HB GE483 GE484))); (case side2 => exact Kd.V_mk HC1_5.out (Kd.F_below (Kd.C_F k32_heap HR1_5.out) (be2_ HB GE483 GE484))); rintro e w59 ⟨v490, v495, rfl, ho0, ho1, hb⟩; refine ⟨_, rfl, ?_⟩; have n0_ := mk_ (Kd.R_lower (Kd.R_mono (ok' := fun k_ => True) ho0 (fun _ hk_ => trivial)) (below_size (be2_ HB GE483 GE484))); have n1_ := mk_ (Kd.N_lower (Kd.N_mono (ok' := fun k_ => some k_ ≠ (v490 : Value).ownBlock ∧ k_ ≠ gb483 ∧ k_ ≠ gb484) ho1 (fun k_ hk_ => ⟨hk_.2, Or.elim hk_.1 (fun hs_ => Or.elim hs_ (fun hs_ => fun e_ => Nat.not_le.2 hs_ (by rw [e_]; exact GW483.out)) (fun hs_ => fun e_ => Nat.not_le.2 hs_ (by rw [e_]; exact GW483.out))) (fun hn_ => (Kd.freshB (g := gb483) (o := .cells #[.slice A0_0 l0_0.length c0_0, .slice A0_1 l0_1.length c0_1, .int .i64 a0_2, .slice A0_3 l0_3.length c0_3] 28 (0, 0)) (bq_ BK483) k_ hn_)), Or.elim hk_.1 (fun hs_ => Or.elim hs_ (fun hs_ => fun e_ => Nat.not_le.2 hs_ (by rw [e_]; exact GW484.out)) (fun hs_ => fun e_ => Nat.not_le.2 hs_ (by rw [e_]; exact GW484.out))) (fun hn_ => (Kd.freshB (g := gb484) (o := .cells #[.int .i64 a1_0, .string a1_1, .slice A1_2 l1_2.length c1_2, .int .i64 a1_3, .int .i64 a1_4, .slice A1_5 l1_5.length c1_5] 32 (0, 0)) (bq_ BK484) k_ hn_))⟩)) (below_size (be2_ HB GE483 GE484))); have n2_ := mk_ (bb_ BK483 hb); have n3_ := mk_ (bb_ BK484 hb); have n4_ := mk_ (below_step (be2_ HB GE483 GE484) hb); clear BK483; clear BK484; clear HB; have HO491 := n0_; have HO496 := n1_; have BK483 := n2_; have BK484 := n3_; have HB := n4_; clear n0_ n1_ n2_ n3_ n4_; (try clear hb); (try clear hb2); (try clear hk); (try clear hi); (try clear ho0); (try clear ho1)) | ((with_reducible refine gate_dst (N := 13) rfl ?_); refine bx_ 13 #[.int .i64 0, .string (⟨#[]⟩ : ByteArray), .slice none 0 0, .int .i64 0, .int .i64 0, .slice none 0 0] 32 ?_; intro gb497 hg w60 hbox hb; have n0_ := mk_ (Kd.R_below (rq_ HO491) hb); have n1_ := mk_ (Kd.N_below (Kd.N_elderB (nq_ HO496) gb497 (Nat.le_of_eq hg.symm)) hb); have n2_ := mk_ (bb_ BK483 hb); have n3_ := mk_ (bb_ BK484 hb); have n4_ := mk_ (below_step (be2_ HB GE483 GE484) hb); have n5_ := mk_ (hbox); have n6_ := mk_ (gs_ hg (be2_ HB GE483 GE484)); have n7_ := mk_ (gs_ hg (be2_ HB GE483 GE484)); have n8_ := mk_ ((by rw [hg]; exact Nat.ne_of_lt (blk_lt (g := gb483) (o := .cells #[.slice A0_0 l0_0.length c0_0, .slice A0_1 l0_1.length c0_1, .int .i64 a0_2, .slice A0_3 l0_3.length c0_3] 28 (0, 0)) (bq_ BK483)) : gb483 ≠ gb497)); have n9_ := mk_ ((by rw [hg]; exact Nat.ne_of_gt (blk_lt (g := gb483) (o := .cells #[.slice A0_0 l0_0.length c0_0, .slice A0_1 l0_1.length c0_1, .int .i64 a0_2, .slice A0_3 l0_3.length c0_3] 28 (0, 0)) (bq_ BK483)) : gb497 ≠ gb483)); have n10_ := mk_ ((by rw [hg]; exact Nat.ne_of_lt (blk_lt (g := gb484) (o := .cells #[.int .i64 a1_0, .string a1_1, .slice A1_2 l1_2.length c1_2, .int .i64 a1_3, .int .i64 a1_4, .slice A1_5 l1_5.length c1_5] 32 (0, 0)) (bq_ BK484)) : gb484 ≠ gb497)); have n11_ := mk_ ((by rw [hg]; exact Nat.ne_of_gt (blk_lt (g := gb484) (o := .cells #[.int .i64 a1_0, .string a1_1, .slice A1_2 l1_2.length c1_2, .int .i64 a1_3, .int .i64 a1_4, .slice A1_5 l1_5.length c1_5] 32 (0, 0)) (bq_ BK484)) : gb497 ≠ gb484)); clear HO491; clear HO496; clear BK483; clear BK484; clear HB; have HO491 := n0_; have HO496 := n1_; have BK483 := n2_; have BK484 := n3_; have HB := n4_; have BK497 := n5_; have GW497 := n6_; have GE497 := n7_; have NB483_497 := n8_; have NB497_483 := n9_; have NB484_497 := n10_; have NB497_484 := n11_; clear n0_ n1_ n2_ n3_ n4_ n5_ n6_ n7_ n8_ n9_ n10_ n11_; clear hb hbox hg; have hnb61 := NB497_483.out; have hnc61 := NB483_497.out; have hnb62 := NB497_484.out; have hnc62 := NB484_497.out; obtain ⟨_, _, _, _, _, _, _, _, _, _, _, _⟩ := hb6_ BK497; obtain ⟨Ao64, co64, eo64⟩ := Kd.R_slice HO491.out; subst eo64; obtain ⟨Ao65, co65, eo65⟩ := Kd.N_slice HO496.out; subst eo65; obtain ⟨_, _, _, _, _, _, _, _⟩ := hb4_ BK483))
    have n0_ := mk_ (Kd.R_mono (Kd.R_far (p := ⟨gb497, 5, none⟩) (Kd.R_far (p := ⟨gb497, 4, none⟩) (Kd.R_far (p := ⟨gb497, 3, none⟩) (Kd.R_far (p := ⟨gb497, 2, none⟩) (Kd.R_far (p := ⟨gb497, 1, none⟩) (Kd.R_far (p := ⟨gb497, 0, none⟩) (Kd.R_types HO491.out BK497.out (by decide)) (fun _ hk => hk.2) (.int .i64 t487)) (fun _ hk => hk.2) (.string t488)) (fun _ hk => hk.2) (.slice Ao64 t489.length co64)) (fun _ hk => hk.2) (.int .i64 t492)) (fun _ hk => hk.2) (.int .i64 t493)) (fun _ hk => hk.2) (.slice Ao65 t494.length co65)) (fun _ h_ => h_.1))
    have n1_ := mk_ (Kd.N_mono (Kd.N_far (p := ⟨gb497, 5, none⟩) (Kd.N_far (p := ⟨gb497, 4, none⟩) (Kd.N_far (p := ⟨gb497, 3, none⟩) (Kd.N_far (p := ⟨gb497, 2, none⟩) (Kd.N_far (p := ⟨gb497, 1, none⟩) (Kd.N_far (p := ⟨gb497, 0, none⟩) (Kd.N_mono HO496.out (fun k_ hk => (⟨hk, hk.2⟩ : _ ∧ k_ ≠ gb497))) (fun _ hk => hk.2) (.int .i64 t487)) (fun _ hk => hk.2) (.string t488)) (fun _ hk => hk.2) (.slice Ao64 t489.length co64)) (fun _ hk => hk.2) (.int .i64 t492)) (fun _ hk => hk.2) (.int .i64 t493)) (fun _ hk => hk.2) (.slice Ao65 t494.length co65)) (fun _ h_ => h_.1))
    have n2_ := mk_ (blk_far (p := ⟨gb497, 5, none⟩) (blk_far (p := ⟨gb497, 4, none⟩) (blk_far (p := ⟨gb497, 3, none⟩) (blk_far (p := ⟨gb497, 2, none⟩) (blk_far (p := ⟨gb497, 1, none⟩) (blk_far (p := ⟨gb497, 0, none⟩) BK483.out NB483_497.out (.int .i64 t487)) NB483_497.out (.string t488)) NB483_497.out (.slice Ao64 t489.length co64)) NB483_497.out (.int .i64 t492)) NB483_497.out (.int .i64 t493)) NB483_497.out (.slice Ao65 t494.length co65))
    have n3_ := mk_ (blk_far (p := ⟨gb497, 5, none⟩) (blk_far (p := ⟨gb497, 4, none⟩) (blk_far (p := ⟨gb497, 3, none⟩) (blk_far (p := ⟨gb497, 2, none⟩) (blk_far (p := ⟨gb497, 1, none⟩) (blk_far (p := ⟨gb497, 0, none⟩) BK484.out NB484_497.out (.int .i64 t487)) NB484_497.out (.string t488)) NB484_497.out (.slice Ao64 t489.length co64)) NB484_497.out (.int .i64 t492)) NB484_497.out (.int .i64 t493)) NB484_497.out (.slice Ao65 t494.length co65))
    have n4_ := mk_ (blk_put (cs := #[.int .i64 t487, .string t488, .slice Ao64 t489.length co64, .int .i64 t492, .int .i64 t493, .slice none 0 0]) (blk_put (cs := #[.int .i64 t487, .string t488, .slice Ao64 t489.length co64, .int .i64 t492, .int .i64 0, .slice none 0 0]) (blk_put (cs := #[.int .i64 t487, .string t488, .slice Ao64 t489.length co64, .int .i64 0, .int .i64 0, .slice none 0 0]) (blk_put (cs := #[.int .i64 t487, .string t488, .slice none 0 0, .int .i64 0, .int .i64 0, .slice none 0 0]) (blk_put (cs := #[.int .i64 t487, .string (⟨#[]⟩ : ByteArray), .slice none 0 0, .int .i64 0, .int .i64 0, .slice none 0 0]) (blk_put (cs := #[.int .i64 0, .string (⟨#[]⟩ : ByteArray), .slice none 0 0, .int .i64 0, .int .i64 0, .slice none 0 0]) BK497.out 0 (.int .i64 t487) rfl) 1 (.string t488) rfl) 2 (.slice Ao64 t489.length co64) rfl) 3 (.int .i64 t492) rfl) 4 (.int .i64 t493) rfl) 5 (.slice Ao65 t494.length co65) rfl)
    have n5_ := mk_ (show Below w.heap.size w ((((((w60.setCell ⟨gb497, 0, none⟩ (.int .i64 t487)).setCell ⟨gb497, 1, none⟩ (.string t488)).setCell ⟨gb497, 2, none⟩ (.slice Ao64 t489.length co64)).setCell ⟨gb497, 3, none⟩ (.int .i64 t492)).setCell ⟨gb497, 4, none⟩ (.int .i64 t493)).setCell ⟨gb497, 5, none⟩ (.slice Ao65 t494.length co65)) from be3_ HB GE483 GE484 GE497)
    generalize ((((((w60.setCell ⟨gb497, 0, none⟩ (.int .i64 t487)).setCell ⟨gb497, 1, none⟩ (.string t488)).setCell ⟨gb497, 2, none⟩ (.slice Ao64 t489.length co64)).setCell ⟨gb497, 3, none⟩ (.int .i64 t492)).setCell ⟨gb497, 4, none⟩ (.int .i64 t493)).setCell ⟨gb497, 5, none⟩ (.slice Ao65 t494.length co65)) = wA1 at n0_ n1_ n2_ n3_ n4_ n5_ ⊢
    replace HO491 := n0_
    replace HO496 := n1_
    replace BK483 := n2_
    replace BK484 := n3_
    replace BK497 := n4_
    replace HB := n5_
    clear n0_ n1_ n2_ n3_ n4_ n5_
    obtain ⟨_, _, _, _, _, _, _, _, _, _, _, _⟩ := hb6_ BK497
    go_upto_region 7 with (fail)
    have n0_ := mk_ (Kd.R_mono (Kd.R_far (p := ⟨gb497, 4, none⟩) (Kd.R_far (p := ⟨gb497, 3, none⟩) (Kd.R_types HO491.out BK497.out (by decide)) (fun _ hk => hk.2) (.int .i64 a2)) (fun _ hk => hk.2) (.int .i64 a3)) (fun _ h_ => h_.1))
    have n1_ := mk_ (Kd.N_mono (Kd.N_far (p := ⟨gb497, 4, none⟩) (Kd.N_far (p := ⟨gb497, 3, none⟩) (Kd.N_mono HO496.out (fun k_ hk => (⟨hk, hk.2⟩ : _ ∧ k_ ≠ gb497))) (fun _ hk => hk.2) (.int .i64 a2)) (fun _ hk => hk.2) (.int .i64 a3)) (fun _ h_ => h_.1))
    have n2_ := mk_ (blk_far (p := ⟨gb497, 4, none⟩) (blk_far (p := ⟨gb497, 3, none⟩) BK483.out NB483_497.out (.int .i64 a2)) NB483_497.out (.int .i64 a3))
    have n3_ := mk_ (blk_far (p := ⟨gb497, 4, none⟩) (blk_far (p := ⟨gb497, 3, none⟩) BK484.out NB484_497.out (.int .i64 a2)) NB484_497.out (.int .i64 a3))
    have n4_ := mk_ (blk_put (cs := #[.int .i64 t487, .string t488, .slice Ao64 t489.length co64, .int .i64 a2, .int .i64 t493, .slice Ao65 t494.length co65]) (blk_put (cs := #[.int .i64 t487, .string t488, .slice Ao64 t489.length co64, .int .i64 t492, .int .i64 t493, .slice Ao65 t494.length co65]) BK497.out 3 (.int .i64 a2) rfl) 4 (.int .i64 a3) rfl)
    have n5_ := mk_ (show Below w.heap.size w ((wA1.setCell ⟨gb497, 3, none⟩ (.int .i64 a2)).setCell ⟨gb497, 4, none⟩ (.int .i64 a3)) from be3_ HB GE483 GE484 GE497)
    generalize ((wA1.setCell ⟨gb497, 3, none⟩ (.int .i64 a2)).setCell ⟨gb497, 4, none⟩ (.int .i64 a3)) = wA2 at n0_ n1_ n2_ n3_ n4_ n5_ ⊢
    replace HO491 := n0_
    replace HO496 := n1_
    replace BK483 := n2_
    replace BK484 := n3_
    replace BK497 := n4_
    replace HB := n5_
    clear n0_ n1_ n2_ n3_ n4_ n5_
    obtain ⟨_, _, _, _, _, _, _, _, _, _, _, _⟩ := hb6_ BK497
    obtain ⟨_, _, _, _, _, _, _, _⟩ := hb4_ BK483
    go_wp2_with (first | ((with_reducible refine gate_callee (f := 20) rfl ?_); refine gl_ (some 39) Tryd.func20 #[.agg #[.slice A0_0 l0_0.length c0_0, .slice A0_1 l0_1.length c0_1, .int .i64 a0_2, .slice A0_3 l0_3.length c0_3], .agg #[.int .i64 t487, .string t488, .slice Ao64 t489.length co64, .int .i64 a2, .int .i64 a3, .slice Ao65 t494.length co65], .int .i64 a4, .int .i64 a5] ?_; (with_reducible refine (pentaglotlaw26_at.calls k _ _ l0_0 _ _ l0_1 a0_2 _ _ l0_3 t487 t488 _ _ t489 a2 a3 _ _ t494 a4 a5 t498 false _ ?side1 ?side2 ?side3 ?side4 ?side5 ?side6 ?side7 ?side8 ?side9 ?side10 A12.out (tb_on HTB.out (be3_ HB GE483 GE484 GE497))).mono ?_); (case side1 => exact Kd.C_below HR0_0.out (be3_ HB GE483 GE484 GE497)); (case side2 => exact HC0_0.out); (case side3 => exact Kd.C_below HR0_1.out (be3_ HB GE483 GE484 GE497)); (case side4 => exact HC0_1.out); (case side5 => exact Kd.C_below HR0_3.out (be3_ HB GE483 GE484 GE497)); (case side6 => exact HC0_3.out); (case side7 => exact (Kd.R_reads' HO491.out).2.2); (case side8 => exact (Kd.R_reads' HO491.out).2.1); (case side9 => exact (Kd.N_reads' HO496.out).2.2); (case side10 => exact (Kd.N_reads' HO496.out).2.1); rintro e wA3 ⟨rfl, hb⟩; refine ⟨_, rfl, ?_⟩; replace HO491 := mk_ (Kd.R_below (rq_ HO491) hb); replace HO496 := mk_ (Kd.N_below (nq_ HO496) hb); replace BK483 := mk_ (bb_ BK483 hb); replace BK484 := mk_ (bb_ BK484 hb); replace BK497 := mk_ (bb_ BK497 hb); replace HB := mk_ (below_step (be3_ HB GE483 GE484 GE497) hb); clear hb; obtain ⟨_, _, _, _, _, _, _, _⟩ := hb4_ BK483) | ((with_reducible refine gate_callee (f := 22) rfl ?_); refine gl_ (some 46) Tryd.func22 #[.agg #[.slice A0_0 l0_0.length c0_0, .slice A0_1 l0_1.length c0_1, .int .i64 a0_2, .slice A0_3 l0_3.length c0_3], .int .i64 a2, .int .i64 a3] ?_; (with_reducible refine (evaluate_Moments.calls k _ _ l0_0 _ _ l0_1 a0_2 _ _ l0_3 a2 a3 t500 t503 _ ?side1 ?side2 ?side3 ?side4 ?side5 ?side6 A13.out).mono ?_); (case side1 => exact cs_ (Kd.C_below HR0_0.out HB.out)); (case side2 => exact HC0_0.out); (case side3 => exact cs_ (Kd.C_below HR0_1.out HB.out)); (case side4 => exact HC0_1.out); (case side5 => exact cs_ (Kd.C_below HR0_3.out HB.out)); (case side6 => exact HC0_3.out); rintro e w69 ⟨v501, rfl, ho0, hb⟩; refine ⟨_, rfl, ?_⟩; have HO502 := mk_ (Kd.R_lower ho0 (below_size (be3_ HB GE483 GE484 GE497))); replace HO491 := mk_ (Kd.R_below (rq_ HO491) hb); replace HO496 := mk_ (Kd.N_elder' (nq_ HO496) (Kd.R_base ho0) hb); replace BK483 := mk_ (bb_ BK483 hb); replace BK484 := mk_ (bb_ BK484 hb); replace BK497 := mk_ (bb_ BK497 hb); replace HB := mk_ (below_step (be3_ HB GE483 GE484 GE497) hb); (try clear hb); (try clear hb2); (try clear hk); (try clear hi); (try clear ho0)))
    go_ret
    exact ⟨er_, be3_ HB GE483 GE484 GE497⟩
  ·replace c10 := Bool.eq_false_iff.mpr c10
   subst c10
   rw [if_neg nf_] at H
   obtain rfl := Option.some.inj H
   go_enter Tryd.func8, Tryd.ntmps8
   go_wp2_with (first | ((with_reducible refine gate_dst (N := 6) rfl ?_); refine bx_ 6 #[.slice A0_0 l0_0.length c0_0, .slice A0_1 l0_1.length c0_1, .int .i64 a0_2, .slice A0_3 l0_3.length c0_3] 28 ?_; intro gb483 hg w70 hbox hb; have BK483 := mk_ (hbox); have GW483 := mk_ (gs_ hg (be_ HB)); have GE483 := mk_ (gs_ hg (be_ HB)); replace HB := mk_ (below_step (be_ HB) hb); clear hb hbox hg) | ((with_reducible refine gate_dst (N := 7) rfl ?_); refine bx_ 7 #[.int .i64 a1_0, .string a1_1, .slice A1_2 l1_2.length c1_2, .int .i64 a1_3, .int .i64 a1_4, .slice A1_5 l1_5.length c1_5] 32 ?_; intro gb484 hg w71 hbox hb; have n0_ := mk_ (bb_ BK483 hb); have n1_ := mk_ (below_step (be1_ HB GE483) hb); have n2_ := mk_ (hbox); have n3_ := mk_ (gs_ hg (be1_ HB GE483)); have n4_ := mk_ (gs_ hg (be1_ HB GE483)); have n5_ := mk_ ((by rw [hg]; exact Nat.ne_of_lt (blk_lt (g := gb483) (o := .cells #[.slice A0_0 l0_0.length c0_0, .slice A0_1 l0_1.length c0_1, .int .i64 a0_2, .slice A0_3 l0_3.length c0_3] 28 (0, 0)) (bq_ BK483)) : gb483 ≠ gb484)); have n6_ := mk_ ((by rw [hg]; exact Nat.ne_of_gt (blk_lt (g := gb483) (o := .cells #[.slice A0_0 l0_0.length c0_0, .slice A0_1 l0_1.length c0_1, .int .i64 a0_2, .slice A0_3 l0_3.length c0_3] 28 (0, 0)) (bq_ BK483)) : gb484 ≠ gb483)); clear BK483; clear HB; have BK483 := n0_; have HB := n1_; have BK484 := n2_; have GW484 := n3_; have GE484 := n4_; have NB483_484 := n5_; have NB484_483 := n6_; clear n0_ n1_ n2_ n3_ n4_ n5_ n6_; clear hb hbox hg) | ((with_reducible refine gate_callee (f := 12) rfl ?_); refine gl_ (some 22) Tryd.func12 #[] ?_; (with_reducible refine (pentaglotlaw26_awake.calls k  true _ A7.out (tb_on HTB.out (be2_ HB GE483 GE484))).mono ?_); rintro e w72 ⟨rfl, hb⟩; refine ⟨_, rfl, ?_⟩; replace BK483 := mk_ (bb_ BK483 hb); replace BK484 := mk_ (bb_ BK484 hb); replace HB := mk_ (below_step (be2_ HB GE483 GE484) hb); (try clear hb); (try clear hb2); (try clear hk); (try clear hi); have hnb73 := NB483_484.out; have hnc73 := NB484_483.out; obtain ⟨_, _, _, _, _, _, _, _⟩ := hb4_ BK483; obtain ⟨_, _, _, _, _, _, _, _, _, _, _, _⟩ := hb6_ BK484) | ((with_reducible refine gate_callee (f := 13) rfl ?_); refine gl_ (some 26) Tryd.func13 #[.agg #[.slice A0_0 l0_0.length c0_0, .slice A0_1 l0_1.length c0_1, .int .i64 a0_2, .slice A0_3 l0_3.length c0_3], .agg #[.int .i64 a1_0, .string a1_1, .slice A1_2 l1_2.length c1_2, .int .i64 a1_3, .int .i64 a1_4, .slice A1_5 l1_5.length c1_5]] ?_; (with_reducible refine (pentaglotref26_Light.calls k _ _ l0_0 _ _ l0_1 a0_2 _ _ l0_3 a1_0 a1_1 _ _ l1_2 a1_3 a1_4 _ _ l1_5 false _ ?side1 ?side2 ?side3 ?side4 ?side5 ?side6 ?side7 ?side8 ?side9 ?side10 A9.out).mono ?_); (case side1 => exact cs_ (Kd.C_below HR0_0.out HB.out)); (case side2 => exact HC0_0.out); (case side3 => exact cs_ (Kd.C_below HR0_1.out HB.out)); (case side4 => exact HC0_1.out); (case side5 => exact cs_ (Kd.C_below HR0_3.out HB.out)); (case side6 => exact HC0_3.out); (case side7 => exact cs_ (Kd.C_below HR1_2.out HB.out)); (case side8 => exact HC1_2.out); (case side9 => exact cs_ (Kd.C_below HR1_5.out HB.out)); (case side10 => exact HC1_5.out); rintro e w76 ⟨rfl, hb⟩; refine ⟨_, rfl, ?_⟩; replace BK483 := mk_ (bb_ BK483 hb); replace BK484 := mk_ (bb_ BK484 hb); replace HB := mk_ (below_step (be2_ HB GE483 GE484) hb); (try clear hb); (try clear hb2); (try clear hk); (try clear hi)))
   go_ret
   exact ⟨er_, be2_ HB GE483 GE484⟩
 ·replace c8 := Bool.eq_false_iff.mpr c8
  subst c8
  rw [if_neg nf_] at H
  obtain rfl := Option.some.inj H
  go_enter Tryd.func8, Tryd.ntmps8
  go_wp2_with (first | ((with_reducible refine gate_dst (N := 6) rfl ?_); refine bx_ 6 #[.slice A0_0 l0_0.length c0_0, .slice A0_1 l0_1.length c0_1, .int .i64 a0_2, .slice A0_3 l0_3.length c0_3] 28 ?_; intro gb483 hg w77 hbox hb; have BK483 := mk_ (hbox); have GW483 := mk_ (gs_ hg (be_ HB)); have GE483 := mk_ (gs_ hg (be_ HB)); replace HB := mk_ (below_step (be_ HB) hb); clear hb hbox hg) | ((with_reducible refine gate_dst (N := 7) rfl ?_); refine bx_ 7 #[.int .i64 a1_0, .string a1_1, .slice A1_2 l1_2.length c1_2, .int .i64 a1_3, .int .i64 a1_4, .slice A1_5 l1_5.length c1_5] 32 ?_; intro gb484 hg w78 hbox hb; have n0_ := mk_ (bb_ BK483 hb); have n1_ := mk_ (below_step (be1_ HB GE483) hb); have n2_ := mk_ (hbox); have n3_ := mk_ (gs_ hg (be1_ HB GE483)); have n4_ := mk_ (gs_ hg (be1_ HB GE483)); have n5_ := mk_ ((by rw [hg]; exact Nat.ne_of_lt (blk_lt (g := gb483) (o := .cells #[.slice A0_0 l0_0.length c0_0, .slice A0_1 l0_1.length c0_1, .int .i64 a0_2, .slice A0_3 l0_3.length c0_3] 28 (0, 0)) (bq_ BK483)) : gb483 ≠ gb484)); have n6_ := mk_ ((by rw [hg]; exact Nat.ne_of_gt (blk_lt (g := gb483) (o := .cells #[.slice A0_0 l0_0.length c0_0, .slice A0_1 l0_1.length c0_1, .int .i64 a0_2, .slice A0_3 l0_3.length c0_3] 28 (0, 0)) (bq_ BK483)) : gb484 ≠ gb483)); clear BK483; clear HB; have BK483 := n0_; have HB := n1_; have BK484 := n2_; have GW484 := n3_; have GE484 := n4_; have NB483_484 := n5_; have NB484_483 := n6_; clear n0_ n1_ n2_ n3_ n4_ n5_ n6_; clear hb hbox hg) | ((with_reducible refine gate_callee (f := 12) rfl ?_); refine gl_ (some 22) Tryd.func12 #[] ?_; (with_reducible refine (pentaglotlaw26_awake.calls k  false _ A7.out (tb_on HTB.out (be2_ HB GE483 GE484))).mono ?_); rintro e w79 ⟨rfl, hb⟩; refine ⟨_, rfl, ?_⟩; replace BK483 := mk_ (bb_ BK483 hb); replace BK484 := mk_ (bb_ BK484 hb); replace HB := mk_ (below_step (be2_ HB GE483 GE484) hb); (try clear hb); (try clear hb2); (try clear hk); (try clear hi)))
  go_ret
  exact ⟨er_, be2_ HB GE483 GE484⟩

/-- THE ONE PURE STATEMENT of pentaglotlaw26_EvaluateIntervals. -/
def pentaglotlaw26_EvaluateIntervals.Pure : Prop := ∀ (p0 : S28) (p1 : S32) (p2 : Int) (p3 : Int) (p4 : Int) (p5 : Int), wf28 p0 → wf32 p1 → (Lit.int .i64 p2).wf = true → (Lit.int .i64 p3).wf = true → (Lit.int .i64 p4).wf = true → (Lit.int .i64 p5).wf = true → bulk28 p0 + bulk32 p1 + 1 + 1 + 1 + 1 ≤ 1048576 → ∃ k, pentaglotlaw26_EvaluateIntervals.f k p0.f0.f0 p0.f0.f1 p0.f0.f2 p0.f1 p1.f0 p1.f1 p1.f2 p1.f3 p1.f4 p1.f5 p2 p3 p4 p5 = some true

end Go.Proofs.YtolpckflofjfhaaDoor.P
