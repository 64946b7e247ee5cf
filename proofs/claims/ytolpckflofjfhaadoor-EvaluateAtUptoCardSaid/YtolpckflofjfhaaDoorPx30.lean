import Derived.Test.YtolpckflofjfhaaDoorPx0
import Derived.Test.YtolpckflofjfhaaDoorPx10
import Derived.Test.YtolpckflofjfhaaDoorPx11
import Derived.Test.YtolpckflofjfhaaDoorPx22
import Derived.Test.YtolpckflofjfhaaDoorPx27
namespace Go.Proofs.YtolpckflofjfhaaDoor.P
open Go.RowKit Go.Proofs.YtolpckflofjfhaaDoorW.PrintWords Go.Proofs.YtolpckflofjfhaaDoorW.PrintLast Go.Proofs.YtolpckflofjfhaaDoorW.PrintMore
attribute [local go_sem] max2_int min2_int max_two min_two max_three min_three max_four min_four
set_option linter.unusedVariables false
set_option maxHeartbeats 8000000
set_option maxRecDepth 100000
set_option linter.unusedSimpArgs false
def pentaglotlaw26_EvaluateAt.j0 : Nat → Int → Int → Bool → Int → Int → Bool → List (S73) → List Int → Int → List (S62) → Int → ByteArray → List (S92) → Int → Int → List (S32) → Option (Bool)
 | 0, _, _, _, _, _, _, _, _, _, _, _, _, _, _, _, _ => none
 | k + 1, x2, x3, x9, x10, x11, x37, x318000, x318001, x318002, x318003, x319000, x319001, x319002, x319003, x319004, x319005 => if x37 = true then (if 1 = 0 then (if x10 = 0 then ((pentaglotref26_Truth.f k x318000 x318001 x318002 x318003 x319000 x319001 x319002 x319003 x319004 x319005 ([] : List ByteArray) x2 x3).bind fun t325 => (some (x9 == t325))) else (some false)) else (if x9 = true then (some false) else (some (x10 == 1)))) else (if x11 = 0 then (if x10 = 0 then ((pentaglotref26_Truth.f k x318000 x318001 x318002 x318003 x319000 x319001 x319002 x319003 x319004 x319005 ([] : List ByteArray) x2 x3).bind fun t326 => (some (x9 == t326))) else (some false)) else (if x9 = true then (some false) else (some (x10 == x11))))
def pentaglotlaw26_EvaluateAt.f (k : Nat) (l0_0 : List (S73)) (l0_1 : List Int) (a0_2 : Int) (l0_3 : List (S62)) (a1_0 : Int) (a1_1 : ByteArray) (l1_2 : List (S92)) (a1_3 : Int) (a1_4 : Int) (l1_5 : List (S32)) (a2 : Int) (a3 : Int) : Option (Bool) := (pentaglotlaw26_awake.f k).bind fun t319 => (if t319 = true then ((pentaglotref26_Light.f k l0_0 l0_1 a0_2 l0_3 a1_0 a1_1 l1_2 a1_3 a1_4 l1_5).bind fun t320 => (if t320 = true then ((evaluate_At.f k l0_0 l0_1 a0_2 l0_3 a1_0 a1_1 l1_2 a1_3 a1_4 l1_5 a2 a3).bind fun bt321 => ((pentaglotref26_Error.f k l0_0 l0_1 a0_2 l0_3 a1_0 a1_1 l1_2 a1_3 a1_4 l1_5).bind fun t323 => (if t323 = 1 then (pentaglotlaw26_EvaluateAt.j0 k a2 a3 bt321.1 bt321.2 t323 false l0_0 l0_1 a0_2 l0_3 a1_0 a1_1 l1_2 a1_3 a1_4 l1_5) else ((pentaglotref26_Place.f l0_0 l0_1 a0_2 l0_3 a2 a3).bind fun t324 => (pentaglotlaw26_EvaluateAt.j0 k a2 a3 bt321.1 bt321.2 t323 (!t324) l0_0 l0_1 a0_2 l0_3 a1_0 a1_1 l1_2 a1_3 a1_4 l1_5))))) else (some true))) else (some false))
theorem pentaglotlaw26_EvaluateAt.calls (k : Nat) (A0_0 : Option Addr) (c0_0 : Nat) (l0_0 : List (S73)) (A0_1 : Option Addr) (c0_1 : Nat) (l0_1 : List Int) (a0_2 : Int) (A0_3 : Option Addr) (c0_3 : Nat) (l0_3 : List (S62)) (a1_0 : Int) (a1_1 : ByteArray) (A1_2 : Option Addr) (c1_2 : Nat) (l1_2 : List (S92)) (a1_3 : Int) (a1_4 : Int) (A1_5 : Option Addr) (c1_5 : Nat) (l1_5 : List (S32)) (a2 : Int) (a3 : Int) (r : Bool) (w : World) (hr0_0 : Kd.C k73 w A0_0 l0_0.length l0_0) (hc0_0 : l0_0.length ≤ c0_0) (hr0_1 : Kd.C (Kd.int .i64) w A0_1 l0_1.length l0_1) (hc0_1 : l0_1.length ≤ c0_1) (hr0_3 : Kd.C k62 w A0_3 l0_3.length l0_3) (hc0_3 : l0_3.length ≤ c0_3) (hr1_2 : Kd.C k92 w A1_2 l1_2.length l1_2) (hc1_2 : l1_2.length ≤ c1_2) (hr1_5 : Kd.C k32 w A1_5 l1_5.length l1_5) (hc1_5 : l1_5.length ≤ c1_5) (h : pentaglotlaw26_EvaluateAt.f k l0_0 l0_1 a0_2 l0_3 a1_0 a1_1 l1_2 a1_3 a1_4 l1_5 a2 a3 = some r) (htb : Tb w) :
  Calls Tryd.prog 3 #[.agg #[.slice A0_0 l0_0.length c0_0, .slice A0_1 l0_1.length c0_1, .int .i64 a0_2, .slice A0_3 l0_3.length c0_3], .agg #[.int .i64 a1_0, .string a1_1, .slice A1_2 l1_2.length c1_2, .int .i64 a1_3, .int .i64 a1_4, .slice A1_5 l1_5.length c1_5], .int .i64 a2, .int .i64 a3] w fun e w' => e = .returned (.bool r) ∧ Below w.heap.size w w' := by
 have HTB := mk_ htb
 clear htb
 have hu28 := Tryd.underlying28
 have hu32 := Tryd.underlying32
 have HR0_0 := mk_ hr0_0; have HC0_0 := mk_ hc0_0; clear hr0_0 hc0_0
 have HR0_1 := mk_ hr0_1; have HC0_1 := mk_ hc0_1; clear hr0_1 hc0_1
 have HR0_3 := mk_ hr0_3; have HC0_3 := mk_ hc0_3; clear hr0_3 hc0_3
 have HR1_2 := mk_ hr1_2; have HC1_2 := mk_ hc1_2; clear hr1_2 hc1_2
 have HR1_5 := mk_ hr1_5; have HC1_5 := mk_ hc1_5; clear hr1_5 hc1_5
 have HB := mk_ (Below.refl w.heap.size w)
 have H : ((pentaglotlaw26_awake.f k).bind fun t319 => (if t319 = true then ((pentaglotref26_Light.f k l0_0 l0_1 a0_2 l0_3 a1_0 a1_1 l1_2 a1_3 a1_4 l1_5).bind fun t320 => (if t320 = true then ((evaluate_At.f k l0_0 l0_1 a0_2 l0_3 a1_0 a1_1 l1_2 a1_3 a1_4 l1_5 a2 a3).bind fun bt321 => ((pentaglotref26_Error.f k l0_0 l0_1 a0_2 l0_3 a1_0 a1_1 l1_2 a1_3 a1_4 l1_5).bind fun t323 => (if t323 = 1 then (pentaglotlaw26_EvaluateAt.j0 k a2 a3 bt321.1 bt321.2 t323 false l0_0 l0_1 a0_2 l0_3 a1_0 a1_1 l1_2 a1_3 a1_4 l1_5) else ((pentaglotref26_Place.f l0_0 l0_1 a0_2 l0_3 a2 a3).bind fun t324 => (pentaglotlaw26_EvaluateAt.j0 k a2 a3 bt321.1 bt321.2 t323 (!t324) l0_0 l0_1 a0_2 l0_3 a1_0 a1_1 l1_2 a1_3 a1_4 l1_5))))) else (some true))) else (some false))) = some r := h
 clear h
 replace H := Option.bind_eq_some_iff.mp H
 obtain ⟨t319, A50, H⟩ := H
 replace H : (if t319 = true then ((pentaglotref26_Light.f k l0_0 l0_1 a0_2 l0_3 a1_0 a1_1 l1_2 a1_3 a1_4 l1_5).bind fun t320 => (if t320 = true then ((evaluate_At.f k l0_0 l0_1 a0_2 l0_3 a1_0 a1_1 l1_2 a1_3 a1_4 l1_5 a2 a3).bind fun bt321 => ((pentaglotref26_Error.f k l0_0 l0_1 a0_2 l0_3 a1_0 a1_1 l1_2 a1_3 a1_4 l1_5).bind fun t323 => (if t323 = 1 then (pentaglotlaw26_EvaluateAt.j0 k a2 a3 bt321.1 bt321.2 t323 false l0_0 l0_1 a0_2 l0_3 a1_0 a1_1 l1_2 a1_3 a1_4 l1_5) else ((pentaglotref26_Place.f l0_0 l0_1 a0_2 l0_3 a2 a3).bind fun t324 => (pentaglotlaw26_EvaluateAt.j0 k a2 a3 bt321.1 bt321.2 t323 (!t324) l0_0 l0_1 a0_2 l0_3 a1_0 a1_1 l1_2 a1_3 a1_4 l1_5))))) else (some true))) else (some false)) = some r := H
 have A5 := mk_ A50
 clear A50
 by_cases c6 : t319 = true
 ·subst c6
  rw [if_pos rfl] at H
  replace H := Option.bind_eq_some_iff.mp H
  obtain ⟨t320, A70, H⟩ := H
  replace H : (if t320 = true then ((evaluate_At.f k l0_0 l0_1 a0_2 l0_3 a1_0 a1_1 l1_2 a1_3 a1_4 l1_5 a2 a3).bind fun bt321 => ((pentaglotref26_Error.f k l0_0 l0_1 a0_2 l0_3 a1_0 a1_1 l1_2 a1_3 a1_4 l1_5).bind fun t323 => (if t323 = 1 then (pentaglotlaw26_EvaluateAt.j0 k a2 a3 bt321.1 bt321.2 t323 false l0_0 l0_1 a0_2 l0_3 a1_0 a1_1 l1_2 a1_3 a1_4 l1_5) else ((pentaglotref26_Place.f l0_0 l0_1 a0_2 l0_3 a2 a3).bind fun t324 => (pentaglotlaw26_EvaluateAt.j0 k a2 a3 bt321.1 bt321.2 t323 (!t324) l0_0 l0_1 a0_2 l0_3 a1_0 a1_1 l1_2 a1_3 a1_4 l1_5))))) else (some true)) = some r := H
  have A7 := mk_ A70
  clear A70
  by_cases c8 : t320 = true
  ·subst c8
   rw [if_pos rfl] at H
   replace H := Option.bind_eq_some_iff.mp H
   obtain ⟨⟨t321, t322⟩, A90, H⟩ := H
   replace H : ((pentaglotref26_Error.f k l0_0 l0_1 a0_2 l0_3 a1_0 a1_1 l1_2 a1_3 a1_4 l1_5).bind fun t323 => (if t323 = 1 then (pentaglotlaw26_EvaluateAt.j0 k a2 a3 t321 t322 t323 false l0_0 l0_1 a0_2 l0_3 a1_0 a1_1 l1_2 a1_3 a1_4 l1_5) else ((pentaglotref26_Place.f l0_0 l0_1 a0_2 l0_3 a2 a3).bind fun t324 => (pentaglotlaw26_EvaluateAt.j0 k a2 a3 t321 t322 t323 (!t324) l0_0 l0_1 a0_2 l0_3 a1_0 a1_1 l1_2 a1_3 a1_4 l1_5)))) = some r := H
   have A9 := mk_ A90
   clear A90
   replace H := Option.bind_eq_some_iff.mp H
   obtain ⟨t323, A100, H⟩ := H
   replace H : (if t323 = 1 then (pentaglotlaw26_EvaluateAt.j0 k a2 a3 t321 t322 t323 false l0_0 l0_1 a0_2 l0_3 a1_0 a1_1 l1_2 a1_3 a1_4 l1_5) else ((pentaglotref26_Place.f l0_0 l0_1 a0_2 l0_3 a2 a3).bind fun t324 => (pentaglotlaw26_EvaluateAt.j0 k a2 a3 t321 t322 t323 (!t324) l0_0 l0_1 a0_2 l0_3 a1_0 a1_1 l1_2 a1_3 a1_4 l1_5))) = some r := H
   have A10 := mk_ A100
   clear A100
   have HC11 := mk_ H
   clear H
   go_enter Tryd.func3, Tryd.ntmps3
   go_upto_region 7 with (first | ((with_reducible refine gate_dst (N := 4) rfl ?_); refine bx_ 4 #[.slice A0_0 l0_0.length c0_0, .slice A0_1 l0_1.length c0_1, .int .i64 a0_2, .slice A0_3 l0_3.length c0_3] 28 ?_; intro gb317 hg w12 hbox hb; have BK317 := mk_ (hbox); have GW317 := mk_ (gs_ hg (be_ HB)); have GE317 := mk_ (gs_ hg (be_ HB)); replace HB := mk_ (below_step (be_ HB) hb); clear hb hbox hg) | ((with_reducible refine gate_dst (N := 5) rfl ?_); refine bx_ 5 #[.int .i64 a1_0, .string a1_1, .slice A1_2 l1_2.length c1_2, .int .i64 a1_3, .int .i64 a1_4, .slice A1_5 l1_5.length c1_5] 32 ?_; intro gb318 hg w13 hbox hb; have n0_ := mk_ (bb_ BK317 hb); have n1_ := mk_ (below_step (be1_ HB GE317) hb); have n2_ := mk_ (hbox); have n3_ := mk_ (gs_ hg (be1_ HB GE317)); have n4_ := mk_ (gs_ hg (be1_ HB GE317)); have n5_ := mk_ ((by rw [hg]; exact Nat.ne_of_lt (blk_lt (g := gb317) (o := .cells #[.slice A0_0 l0_0.length c0_0, .slice A0_1 l0_1.length c0_1, .int .i64 a0_2, .slice A0_3 l0_3.length c0_3] 28 (0, 0)) (bq_ BK317)) : gb317 ≠ gb318)); have n6_ := mk_ ((by rw [hg]; exact Nat.ne_of_gt (blk_lt (g := gb317) (o := .cells #[.slice A0_0 l0_0.length c0_0, .slice A0_1 l0_1.length c0_1, .int .i64 a0_2, .slice A0_3 l0_3.length c0_3] 28 (0, 0)) (bq_ BK317)) : gb318 ≠ gb317)); clear BK317; clear HB; have BK317 := n0_; have HB := n1_; have BK318 := n2_; have GW318 := n3_; have GE318 := n4_; have NB317_318 := n5_; have NB318_317 := n6_; clear n0_ n1_ n2_ n3_ n4_ n5_ n6_; clear hb hbox hg) | ((with_reducible refine gate_callee (f := 12) rfl ?_); refine gl_ (some 12) Tryd.func12 #[] ?_; (with_reducible refine (pentaglotlaw26_awake.calls k  true _ A5.out (tb_on HTB.out (be2_ HB GE317 GE318))).mono ?_); rintro e w14 ⟨rfl, hb⟩; refine ⟨_, rfl, ?_⟩; replace BK317 := mk_ (bb_ BK317 hb); replace BK318 := mk_ (bb_ BK318 hb); replace HB := mk_ (below_step (be2_ HB GE317 GE318) hb); have hnb15 := NB317_318.out; have hnc15 := NB318_317.out; obtain ⟨_, _, _, _, _, _, _, _⟩ := hb4_ BK317; obtain ⟨_, _, _, _, _, _, _, _, _, _, _, _⟩ := hb6_ BK318) | ((with_reducible refine gate_callee (f := 13) rfl ?_); refine gl_ (some 16) Tryd.func13 #[.agg #[.slice A0_0 l0_0.length c0_0, .slice A0_1 l0_1.length c0_1, .int .i64 a0_2, .slice A0_3 l0_3.length c0_3], .agg #[.int .i64 a1_0, .string a1_1, .slice A1_2 l1_2.length c1_2, .int .i64 a1_3, .int .i64 a1_4, .slice A1_5 l1_5.length c1_5]] ?_; (with_reducible refine (pentaglotref26_Light.calls k _ _ l0_0 _ _ l0_1 a0_2 _ _ l0_3 a1_0 a1_1 _ _ l1_2 a1_3 a1_4 _ _ l1_5 true _ ?side1 ?side2 ?side3 ?side4 ?side5 ?side6 ?side7 ?side8 ?side9 ?side10 A7.out).mono ?_); (case side1 => exact cs_ (Kd.C_below HR0_0.out HB.out)); (case side2 => exact HC0_0.out); (case side3 => exact cs_ (Kd.C_below HR0_1.out HB.out)); (case side4 => exact HC0_1.out); (case side5 => exact cs_ (Kd.C_below HR0_3.out HB.out)); (case side6 => exact HC0_3.out); (case side7 => exact cs_ (Kd.C_below HR1_2.out HB.out)); (case side8 => exact HC1_2.out); (case side9 => exact cs_ (Kd.C_below HR1_5.out HB.out)); (case side10 => exact HC1_5.out); rintro e w18 ⟨rfl, hb⟩; refine ⟨_, rfl, ?_⟩; replace BK317 := mk_ (bb_ BK317 hb); replace BK318 := mk_ (bb_ BK318 hb); replace HB := mk_ (below_step (be2_ HB GE317 GE318) hb); obtain ⟨_, _, _, _, _, _, _, _⟩ := hb4_ BK317; obtain ⟨_, _, _, _, _, _, _, _, _, _, _, _⟩ := hb6_ BK318) | ((with_reducible refine gate_callee (f := 14) rfl ?_); refine gl_ (some 23) Tryd.func14 #[.agg #[.slice A0_0 l0_0.length c0_0, .slice A0_1 l0_1.length c0_1, .int .i64 a0_2, .slice A0_3 l0_3.length c0_3], .agg #[.int .i64 a1_0, .string a1_1, .slice A1_2 l1_2.length c1_2, .int .i64 a1_3, .int .i64 a1_4, .slice A1_5 l1_5.length c1_5], .int .i64 a2, .int .i64 a3] ?_; (with_reducible refine (evaluate_At.calls k _ _ l0_0 _ _ l0_1 a0_2 _ _ l0_3 a1_0 a1_1 _ _ l1_2 a1_3 a1_4 _ _ l1_5 a2 a3 t321 t322 _ ?side1 ?side2 ?side3 ?side4 ?side5 ?side6 ?side7 ?side8 ?side9 ?side10 A9.out (tb_on HTB.out (be2_ HB GE317 GE318))).mono ?_); (case side1 => exact cs_ (Kd.C_below HR0_0.out HB.out)); (case side2 => exact HC0_0.out); (case side3 => exact cs_ (Kd.C_below HR0_1.out HB.out)); (case side4 => exact HC0_1.out); (case side5 => exact cs_ (Kd.C_below HR0_3.out HB.out)); (case side6 => exact HC0_3.out); (case side7 => exact cs_ (Kd.C_below HR1_2.out HB.out)); (case side8 => exact HC1_2.out); (case side9 => exact cs_ (Kd.C_below HR1_5.out HB.out)); (case side10 => exact HC1_5.out); rintro e w21 ⟨rfl, hb⟩; refine ⟨_, rfl, ?_⟩; replace BK317 := mk_ (bb_ BK317 hb); replace BK318 := mk_ (bb_ BK318 hb); replace HB := mk_ (below_step (be2_ HB GE317 GE318) hb); obtain ⟨_, _, _, _, _, _, _, _⟩ := hb4_ BK317; obtain ⟨_, _, _, _, _, _, _, _, _, _, _, _⟩ := hb6_ BK318) | ((with_reducible refine gate_callee (f := 15) rfl ?_); refine gl_ (some 28) Tryd.func15 #[.agg #[.slice A0_0 l0_0.length c0_0, .slice A0_1 l0_1.length c0_1, .int .i64 a0_2, .slice A0_3 l0_3.length c0_3], .agg #[.int .i64 a1_0, .string a1_1, .slice A1_2 l1_2.length c1_2, .int .i64 a1_3, .int .i64 a1_4, .slice A1_5 l1_5.length c1_5]] ?_; (with_reducible refine (pentaglotref26_Error.calls k _ _ l0_0 _ _ l0_1 a0_2 _ _ l0_3 a1_0 a1_1 _ _ l1_2 a1_3 a1_4 _ _ l1_5 t323 _ ?side1 ?side2 ?side3 ?side4 ?side5 ?side6 ?side7 ?side8 ?side9 ?side10 A10.out).mono ?_); (case side1 => exact cs_ (Kd.C_below HR0_0.out HB.out)); (case side2 => exact HC0_0.out); (case side3 => exact cs_ (Kd.C_below HR0_1.out HB.out)); (case side4 => exact HC0_1.out); (case side5 => exact cs_ (Kd.C_below HR0_3.out HB.out)); (case side6 => exact HC0_3.out); (case side7 => exact cs_ (Kd.C_below HR1_2.out HB.out)); (case side8 => exact HC1_2.out); (case side9 => exact cs_ (Kd.C_below HR1_5.out HB.out)); (case side10 => exact HC1_5.out); rintro e w24 ⟨rfl, hb⟩; refine ⟨_, rfl, ?_⟩; replace BK317 := mk_ (bb_ BK317 hb); replace BK318 := mk_ (bb_ BK318 hb); replace HB := mk_ (below_step (be2_ HB GE317 GE318) hb)))
   (try simp only [Act.put, List.setIfInBounds_toArray, List.set_cons_zero, List.set_cons_succ])
   go_cut [37] (fun v37 wc => ∃ (kq : Nat) (x37_10 : Bool), v37 = .bool x37_10 ∧ Aside0 (pentaglotlaw26_EvaluateAt.j0 kq a2 a3 t321 t322 t323 x37_10 l0_0 l0_1 a0_2 l0_3 a1_0 a1_1 l1_2 a1_3 a1_4 l1_5 = some r) ∧ Aside0 (kq ≤ k) ∧ Aside0 (wc.heap[gb317]? = some (.cells #[(.slice A0_0 l0_0.length c0_0), (.slice A0_1 l0_1.length c0_1), .int .i64 a0_2, (.slice A0_3 l0_3.length c0_3)] 28 (0, 0))) ∧ Aside0 (wc.heap[gb318]? = some (.cells #[.int .i64 a1_0, .string a1_1, (.slice A1_2 l1_2.length c1_2), .int .i64 a1_3, .int .i64 a1_4, (.slice A1_5 l1_5.length c1_5)] 32 (0, 0))) ∧ Aside0 (Below w.heap.size w wc))
   case first =>
    have H := HC11.out
    clear HC11
    by_cases c25 : t323 = 1
    ·rw [if_pos c25] at H
     obtain ⟨c25b0, c25b1⟩ := eb_ c25
     clear c25
     (first | rw [c25b0] | (simp only [i64_w, i32_w]; rw [c25b0]) | skip)
     have H' := mk_ H
     clear H
     go_wp2
     go_meet
     case rel => exact ⟨_, (false), fi_, H', ⟨by first | omega | exact Nat.le_refl _⟩, ⟨bq_ BK317⟩, ⟨bq_ BK318⟩, ⟨be2_ HB GE317 GE318⟩⟩
    ·rw [if_neg c25] at H
     obtain ⟨c25b0, c25b1⟩ := en_ c25
     (first | rw [c25b0] | (simp only [i64_w, i32_w]; rw [c25b0]) | skip)
     replace H := Option.bind_eq_some_iff.mp H
     obtain ⟨t324, A260, H⟩ := H
     replace H : (pentaglotlaw26_EvaluateAt.j0 k a2 a3 t321 t322 t323 (!t324) l0_0 l0_1 a0_2 l0_3 a1_0 a1_1 l1_2 a1_3 a1_4 l1_5) = some r := H
     have A26 := mk_ A260
     clear A260
     have H' := mk_ H
     clear H
     have hnb27 := NB317_318.out
     have hnc27 := NB318_317.out
     obtain ⟨_, _, _, _, _, _, _, _⟩ := hb4_ BK317
     go_wp2_with (first | (go_at_call 16; (with_reducible refine (pentaglotref26_Place.calls _ _ l0_0 _ _ l0_1 a0_2 _ _ l0_3 a2 a3 t324 _ ?side1 ?side2 ?side3 ?side4 ?side5 ?side6 A26.out).mono ?_); (case side1 => exact cs_ (Kd.C_below HR0_0.out HB.out)); (case side2 => exact HC0_0.out); (case side3 => exact cs_ (Kd.C_below HR0_1.out HB.out)); (case side4 => exact HC0_1.out); (case side5 => exact cs_ (Kd.C_below HR0_3.out HB.out)); (case side6 => exact HC0_3.out); rintro e w29 ⟨rfl, hb⟩; replace BK317 := mk_ (bb_ BK317 hb); replace BK318 := mk_ (bb_ BK318 hb); replace HB := mk_ (below_step (be2_ HB GE317 GE318) hb)))
     go_meet
     case rel => exact ⟨_, (!t324), fi_, H', ⟨by first | omega | exact Nat.le_refl _⟩, ⟨bq_ BK317⟩, ⟨bq_ BK318⟩, ⟨be2_ HB GE317 GE318⟩⟩
   case rest =>
    clear HC11
    obtain ⟨kq, x37_10, rfl, HA, HJ10, BK317, BK318, HB⟩ := hcut
    cases kq with
    | zero => exact absurd HA.out (by simp [pentaglotlaw26_EvaluateAt.j0])
    | succ kj10 =>
     have H := HA.out
     clear HA
     simp only [pentaglotlaw26_EvaluateAt.j0] at H
     by_cases c30 : x37_10 = true
     ·subst c30
      rw [if_pos rfl] at H
      by_cases c31 : 1 = 0
      ·exact absurd c31 (by decide)
      ·rw [if_neg c31] at H
       obtain ⟨c31b0, c31b1⟩ := en_ c31
       by_cases c38 : t321 = true
       ·subst c38
        rw [if_pos rfl] at H
        obtain rfl := Option.some.inj H
        go_wp2
        go_ret
        exact ⟨er_, be2_ HB GE317 GE318⟩
       ·replace c38 := Bool.eq_false_iff.mpr c38
        subst c38
        rw [if_neg nf_] at H
        obtain rfl := Option.some.inj H
        go_wp2
        go_ret
        exact ⟨er_, be2_ HB GE317 GE318⟩
     ·replace c30 := Bool.eq_false_iff.mpr c30
      subst c30
      rw [if_neg nf_] at H
      by_cases c39 : t323 = 0
      ·rw [if_pos c39] at H
       obtain ⟨c39b0, c39b1⟩ := eb_ c39
       clear c39
       by_cases c40 : t322 = 0
       ·rw [if_pos c40] at H
        obtain ⟨c40b0, c40b1⟩ := eb_ c40
        clear c40
        replace H := Option.bind_eq_some_iff.mp H
        obtain ⟨t326, A410, H⟩ := H
        replace H : (some (t321 == t326)) = some r := H
        have A41 := mk_ A410
        clear A410
        obtain rfl := Option.some.inj H
        have hnb42 := NB317_318.out
        have hnc42 := NB318_317.out
        obtain ⟨_, _, _, _, _, _, _, _⟩ := hb4_ BK317
        obtain ⟨_, _, _, _, _, _, _, _, _, _, _, _⟩ := hb6_ BK318
        go_wp2_with (first | (go_at_call 17; (refine (pentaglotref26_Truth.calls kj10 _ _ l0_0 _ _ l0_1 a0_2 _ _ l0_3 a1_0 a1_1 _ _ l1_2 a1_3 a1_4 _ _ l1_5 _ _ ([] : List ByteArray) a2 a3 t326 _ ?side1 ?side2 ?side3 ?side4 ?side5 ?side6 ?side7 ?side8 ?side9 ?side10 ?side11 ?side12 A41.out).mono ?_); (case side1 => exact cs_ (Kd.C_below HR0_0.out HB.out)); (case side2 => exact HC0_0.out); (case side3 => exact cs_ (Kd.C_below HR0_1.out HB.out)); (case side4 => exact HC0_1.out); (case side5 => exact cs_ (Kd.C_below HR0_3.out HB.out)); (case side6 => exact HC0_3.out); (case side7 => exact cs_ (Kd.C_below HR1_2.out HB.out)); (case side8 => exact HC1_2.out); (case side9 => exact cs_ (Kd.C_below HR1_5.out HB.out)); (case side10 => exact HC1_5.out); (case side11 => exact Kd.C_nil _ _); (case side12 => exact Nat.le_refl _); rintro e w45 ⟨rfl, hb⟩; replace BK317 := mk_ (bb_ BK317 hb); replace BK318 := mk_ (bb_ BK318 hb); replace HB := mk_ (below_step (be2_ HB GE317 GE318) hb)))
        go_ret
        exact ⟨er_, be2_ HB GE317 GE318⟩
       ·rw [if_neg c40] at H
        obtain ⟨c40b0, c40b1⟩ := en_ c40
        obtain rfl := Option.some.inj H
        go_wp2
        go_ret
        exact ⟨er_, be2_ HB GE317 GE318⟩
      ·rw [if_neg c39] at H
       obtain ⟨c39b0, c39b1⟩ := en_ c39
       by_cases c46 : t321 = true
       ·subst c46
        rw [if_pos rfl] at H
        obtain rfl := Option.some.inj H
        go_wp2
        go_ret
        exact ⟨er_, be2_ HB GE317 GE318⟩
       ·replace c46 := Bool.eq_false_iff.mpr c46
        subst c46
        rw [if_neg nf_] at H
        obtain rfl := Option.some.inj H
        go_wp2
        go_ret
        exact ⟨er_, be2_ HB GE317 GE318⟩
  ·replace c8 := Bool.eq_false_iff.mpr c8
   subst c8
   rw [if_neg nf_] at H
   obtain rfl := Option.some.inj H
   go_enter Tryd.func3, Tryd.ntmps3
   go_wp2_with (first | ((with_reducible refine gate_dst (N := 4) rfl ?_); refine bx_ 4 #[.slice A0_0 l0_0.length c0_0, .slice A0_1 l0_1.length c0_1, .int .i64 a0_2, .slice A0_3 l0_3.length c0_3] 28 ?_; intro gb317 hg w47 hbox hb; have BK317 := mk_ (hbox); have GW317 := mk_ (gs_ hg (be_ HB)); have GE317 := mk_ (gs_ hg (be_ HB)); replace HB := mk_ (below_step (be_ HB) hb); clear hb hbox hg) | ((with_reducible refine gate_dst (N := 5) rfl ?_); refine bx_ 5 #[.int .i64 a1_0, .string a1_1, .slice A1_2 l1_2.length c1_2, .int .i64 a1_3, .int .i64 a1_4, .slice A1_5 l1_5.length c1_5] 32 ?_; intro gb318 hg w48 hbox hb; have n0_ := mk_ (bb_ BK317 hb); have n1_ := mk_ (below_step (be1_ HB GE317) hb); have n2_ := mk_ (hbox); have n3_ := mk_ (gs_ hg (be1_ HB GE317)); have n4_ := mk_ (gs_ hg (be1_ HB GE317)); have n5_ := mk_ ((by rw [hg]; exact Nat.ne_of_lt (blk_lt (g := gb317) (o := .cells #[.slice A0_0 l0_0.length c0_0, .slice A0_1 l0_1.length c0_1, .int .i64 a0_2, .slice A0_3 l0_3.length c0_3] 28 (0, 0)) (bq_ BK317)) : gb317 ≠ gb318)); have n6_ := mk_ ((by rw [hg]; exact Nat.ne_of_gt (blk_lt (g := gb317) (o := .cells #[.slice A0_0 l0_0.length c0_0, .slice A0_1 l0_1.length c0_1, .int .i64 a0_2, .slice A0_3 l0_3.length c0_3] 28 (0, 0)) (bq_ BK317)) : gb318 ≠ gb317)); clear BK317; clear HB; have BK317 := n0_; have HB := n1_; have BK318 := n2_; have GW318 := n3_; have GE318 := n4_; have NB317_318 := n5_; have NB318_317 := n6_; clear n0_ n1_ n2_ n3_ n4_ n5_ n6_; clear hb hbox hg) | ((with_reducible refine gate_callee (f := 12) rfl ?_); refine gl_ (some 12) Tryd.func12 #[] ?_; (with_reducible refine (pentaglotlaw26_awake.calls k  true _ A5.out (tb_on HTB.out (be2_ HB GE317 GE318))).mono ?_); rintro e w49 ⟨rfl, hb⟩; refine ⟨_, rfl, ?_⟩; replace BK317 := mk_ (bb_ BK317 hb); replace BK318 := mk_ (bb_ BK318 hb); replace HB := mk_ (below_step (be2_ HB GE317 GE318) hb); have hnb50 := NB317_318.out; have hnc50 := NB318_317.out; obtain ⟨_, _, _, _, _, _, _, _⟩ := hb4_ BK317; obtain ⟨_, _, _, _, _, _, _, _, _, _, _, _⟩ := hb6_ BK318) | ((with_reducible refine gate_callee (f := 13) rfl ?_); refine gl_ (some 16) Tryd.func13 #[.agg #[.slice A0_0 l0_0.length c0_0, .slice A0_1 l0_1.length c0_1, .int .i64 a0_2, .slice A0_3 l0_3.length c0_3], .agg #[.int .i64 a1_0, .string a1_1, .slice A1_2 l1_2.length c1_2, .int .i64 a1_3, .int .i64 a1_4, .slice A1_5 l1_5.length c1_5]] ?_; (with_reducible refine (pentaglotref26_Light.calls k _ _ l0_0 _ _ l0_1 a0_2 _ _ l0_3 a1_0 a1_1 _ _ l1_2 a1_3 a1_4 _ _ l1_5 false _ ?side1 ?side2 ?side3 ?side4 ?side5 ?side6 ?side7 ?side8 ?side9 ?side10 A7.out).mono ?_); (case side1 => exact cs_ (Kd.C_below HR0_0.out HB.out)); (case side2 => exact HC0_0.out); (case side3 => exact cs_ (Kd.C_below HR0_1.out HB.out)); (case side4 => exact HC0_1.out); (case side5 => exact cs_ (Kd.C_below HR0_3.out HB.out)); (case side6 => exact HC0_3.out); (case side7 => exact cs_ (Kd.C_below HR1_2.out HB.out)); (case side8 => exact HC1_2.out); (case side9 => exact cs_ (Kd.C_below HR1_5.out HB.out)); (case side10 => exact HC1_5.out); rintro e w53 ⟨rfl, hb⟩; refine ⟨_, rfl, ?_⟩; replace BK317 := mk_ (bb_ BK317 hb); replace BK318 := mk_ (bb_ BK318 hb); replace HB := mk_ (below_step (be2_ HB GE317 GE318) hb)))
   go_ret
   exact ⟨er_, be2_ HB GE317 GE318⟩
 ·replace c6 := Bool.eq_false_iff.mpr c6
  subst c6
  rw [if_neg nf_] at H
  obtain rfl := Option.some.inj H
  go_enter Tryd.func3, Tryd.ntmps3
  go_wp2_with (first | ((with_reducible refine gate_dst (N := 4) rfl ?_); refine bx_ 4 #[.slice A0_0 l0_0.length c0_0, .slice A0_1 l0_1.length c0_1, .int .i64 a0_2, .slice A0_3 l0_3.length c0_3] 28 ?_; intro gb317 hg w54 hbox hb; have BK317 := mk_ (hbox); have GW317 := mk_ (gs_ hg (be_ HB)); have GE317 := mk_ (gs_ hg (be_ HB)); replace HB := mk_ (below_step (be_ HB) hb); clear hb hbox hg) | ((with_reducible refine gate_dst (N := 5) rfl ?_); refine bx_ 5 #[.int .i64 a1_0, .string a1_1, .slice A1_2 l1_2.length c1_2, .int .i64 a1_3, .int .i64 a1_4, .slice A1_5 l1_5.length c1_5] 32 ?_; intro gb318 hg w55 hbox hb; have n0_ := mk_ (bb_ BK317 hb); have n1_ := mk_ (below_step (be1_ HB GE317) hb); have n2_ := mk_ (hbox); have n3_ := mk_ (gs_ hg (be1_ HB GE317)); have n4_ := mk_ (gs_ hg (be1_ HB GE317)); have n5_ := mk_ ((by rw [hg]; exact Nat.ne_of_lt (blk_lt (g := gb317) (o := .cells #[.slice A0_0 l0_0.length c0_0, .slice A0_1 l0_1.length c0_1, .int .i64 a0_2, .slice A0_3 l0_3.length c0_3] 28 (0, 0)) (bq_ BK317)) : gb317 ≠ gb318)); have n6_ := mk_ ((by rw [hg]; exact Nat.ne_of_gt (blk_lt (g := gb317) (o := .cells #[.slice A0_0 l0_0.length c0_0, .slice A0_1 l0_1.length c0_1, .int .i64 a0_2, .slice A0_3 l0_3.length c0_3] 28 (0, 0)) (bq_ BK317)) : gb318 ≠ gb317)); clear BK317; clear HB; have BK317 := n0_; have HB := n1_; have BK318 := n2_; have GW318 := n3_; have GE318 := n4_; have NB317_318 := n5_; have NB318_317 := n6_; clear n0_ n1_ n2_ n3_ n4_ n5_ n6_; clear hb hbox hg) | ((with_reducible refine gate_callee (f := 12) rfl ?_); refine gl_ (some 12) Tryd.func12 #[] ?_; (with_reducible refine (pentaglotlaw26_awake.calls k  false _ A5.out (tb_on HTB.out (be2_ HB GE317 GE318))).mono ?_); rintro e w56 ⟨rfl, hb⟩; refine ⟨_, rfl, ?_⟩; replace BK317 := mk_ (bb_ BK317 hb); replace BK318 := mk_ (bb_ BK318 hb); replace HB := mk_ (below_step (be2_ HB GE317 GE318) hb)))
  go_ret
  exact ⟨er_, be2_ HB GE317 GE318⟩
def pentaglotlaw26_EvaluateAt.Pure : Prop := ∀ (p0 : S28) (p1 : S32) (p2 : Int) (p3 : Int), wf28 p0 → wf32 p1 → (Lit.int .i64 p2).wf = true → (Lit.int .i64 p3).wf = true → bulk28 p0 + bulk32 p1 + 1 + 1 ≤ 1048576 → ∃ k, pentaglotlaw26_EvaluateAt.f k p0.f0.f0 p0.f0.f1 p0.f0.f2 p0.f1 p1.f0 p1.f1 p1.f2 p1.f3 p1.f4 p1.f5 p2 p3 = some true
end Go.Proofs.YtolpckflofjfhaaDoor.P
