import Derived.Test.YtolpckflofjfhaaDoorPx0
import Derived.Test.YtolpckflofjfhaaDoorPx10
import Derived.Test.YtolpckflofjfhaaDoorPx17
import Derived.Test.YtolpckflofjfhaaDoorPx27
namespace Go.Proofs.YtolpckflofjfhaaDoor.P
open Go.RowKit Go.Proofs.YtolpckflofjfhaaDoorW.PrintWords Go.Proofs.YtolpckflofjfhaaDoorW.PrintLast Go.Proofs.YtolpckflofjfhaaDoorW.PrintMore
attribute [local go_sem] max2_int min2_int max_two min_two max_three min_three max_four min_four
set_option linter.unusedVariables false
set_option maxHeartbeats 8000000
set_option maxRecDepth 100000
set_option linter.unusedSimpArgs false
def pentaglotlaw26_at.f (k : Nat) (l0_0 : List (S73)) (l0_1 : List Int) (a0_2 : Int) (l0_3 : List (S62)) (a1_0 : Int) (a1_1 : ByteArray) (l1_2 : List (S92)) (a1_3 : Int) (a1_4 : Int) (l1_5 : List (S32)) (a2 : Int) (a3 : Int) : Option (Bool × Bool) := (evaluate_At.f k l0_0 l0_1 a0_2 l0_3 a1_0 a1_1 l1_2 a1_3 a1_4 l1_5 a2 a3).bind fun bt329 => (some (bt329.1, (bt329.2 == 0)))
theorem pentaglotlaw26_at.calls (k : Nat) (A0_0 : Option Addr) (c0_0 : Nat) (l0_0 : List (S73)) (A0_1 : Option Addr) (c0_1 : Nat) (l0_1 : List Int) (a0_2 : Int) (A0_3 : Option Addr) (c0_3 : Nat) (l0_3 : List (S62)) (a1_0 : Int) (a1_1 : ByteArray) (A1_2 : Option Addr) (c1_2 : Nat) (l1_2 : List (S92)) (a1_3 : Int) (a1_4 : Int) (A1_5 : Option Addr) (c1_5 : Nat) (l1_5 : List (S32)) (a2 : Int) (a3 : Int) (r1 : Bool) (r2 : Bool) (w : World) (hr0_0 : Kd.C k73 w A0_0 l0_0.length l0_0) (hc0_0 : l0_0.length ≤ c0_0) (hr0_1 : Kd.C (Kd.int .i64) w A0_1 l0_1.length l0_1) (hc0_1 : l0_1.length ≤ c0_1) (hr0_3 : Kd.C k62 w A0_3 l0_3.length l0_3) (hc0_3 : l0_3.length ≤ c0_3) (hr1_2 : Kd.C k92 w A1_2 l1_2.length l1_2) (hc1_2 : l1_2.length ≤ c1_2) (hr1_5 : Kd.C k32 w A1_5 l1_5.length l1_5) (hc1_5 : l1_5.length ≤ c1_5) (h : pentaglotlaw26_at.f k l0_0 l0_1 a0_2 l0_3 a1_0 a1_1 l1_2 a1_3 a1_4 l1_5 a2 a3 = some (r1, r2)) (htb : Tb w) :
  Calls Tryd.prog 20 #[.agg #[.slice A0_0 l0_0.length c0_0, .slice A0_1 l0_1.length c0_1, .int .i64 a0_2, .slice A0_3 l0_3.length c0_3], .agg #[.int .i64 a1_0, .string a1_1, .slice A1_2 l1_2.length c1_2, .int .i64 a1_3, .int .i64 a1_4, .slice A1_5 l1_5.length c1_5], .int .i64 a2, .int .i64 a3] w fun e w' => e = .returned (.tuple #[.bool r1, .bool r2]) ∧ Below w.heap.size w w' := by
 have HTB := mk_ htb
 clear htb
 have hu28 := Tryd.underlying28
 have hu32 := Tryd.underlying32
 have HR0_0 := mk_ hr0_0; have HC0_0 := mk_ hc0_0; clear hr0_0 hc0_0
 have HR0_1 := mk_ hr0_1; have HC0_1 := mk_ hc0_1; clear hr0_1 hc0_1
 have HR0_3 := mk_ hr0_3; have HC0_3 := mk_ hc0_3; clear hr0_3 hc0_3
 have HR1_2 := mk_ hr1_2; have HC1_2 := mk_ hc1_2; clear hr1_2 hc1_2
 have HR1_5 := mk_ hr1_5; have HC1_5 := mk_ hc1_5; clear hr1_5 hc1_5
 have HB := mk_ (Below.refl w.heap.size w)
 have H : ((evaluate_At.f k l0_0 l0_1 a0_2 l0_3 a1_0 a1_1 l1_2 a1_3 a1_4 l1_5 a2 a3).bind fun bt329 => (some (bt329.1, (bt329.2 == 0)))) = some (r1, r2) := h
 clear h
 replace H := Option.bind_eq_some_iff.mp H
 obtain ⟨⟨t329, t330⟩, A50, H⟩ := H
 replace H : (some (t329, (t330 == 0))) = some (r1, r2) := H
 have A5 := mk_ A50
 clear A50
 simp only [Option.some.injEq, Prod.mk.injEq] at H
 obtain ⟨rfl, rfl⟩ := H
 go_enter Tryd.func20, Tryd.ntmps20
 go_wp2_with (first | ((with_reducible refine gate_dst (N := 4) rfl ?_); refine bx_ 4 #[.slice A0_0 l0_0.length c0_0, .slice A0_1 l0_1.length c0_1, .int .i64 a0_2, .slice A0_3 l0_3.length c0_3] 28 ?_; intro gb327 hg w6 hbox hb; have BK327 := mk_ (hbox); have GW327 := mk_ (gs_ hg (be_ HB)); have GE327 := mk_ (gs_ hg (be_ HB)); replace HB := mk_ (below_step (be_ HB) hb); clear hb hbox hg) | ((with_reducible refine gate_dst (N := 5) rfl ?_); refine bx_ 5 #[.int .i64 a1_0, .string a1_1, .slice A1_2 l1_2.length c1_2, .int .i64 a1_3, .int .i64 a1_4, .slice A1_5 l1_5.length c1_5] 32 ?_; intro gb328 hg w7 hbox hb; have n0_ := mk_ (bb_ BK327 hb); have n1_ := mk_ (below_step (be1_ HB GE327) hb); have n2_ := mk_ (hbox); have n3_ := mk_ (gs_ hg (be1_ HB GE327)); have n4_ := mk_ (gs_ hg (be1_ HB GE327)); have n5_ := mk_ ((by rw [hg]; exact Nat.ne_of_lt (blk_lt (g := gb327) (o := .cells #[.slice A0_0 l0_0.length c0_0, .slice A0_1 l0_1.length c0_1, .int .i64 a0_2, .slice A0_3 l0_3.length c0_3] 28 (0, 0)) (bq_ BK327)) : gb327 ≠ gb328)); have n6_ := mk_ ((by rw [hg]; exact Nat.ne_of_gt (blk_lt (g := gb327) (o := .cells #[.slice A0_0 l0_0.length c0_0, .slice A0_1 l0_1.length c0_1, .int .i64 a0_2, .slice A0_3 l0_3.length c0_3] 28 (0, 0)) (bq_ BK327)) : gb328 ≠ gb327)); clear BK327; clear HB; have BK327 := n0_; have HB := n1_; have BK328 := n2_; have GW328 := n3_; have GE328 := n4_; have NB327_328 := n5_; have NB328_327 := n6_; clear n0_ n1_ n2_ n3_ n4_ n5_ n6_; clear hb hbox hg; have hnb8 := NB327_328.out; have hnc8 := NB328_327.out; obtain ⟨_, _, _, _, _, _, _, _⟩ := hb4_ BK327; obtain ⟨_, _, _, _, _, _, _, _, _, _, _, _⟩ := hb6_ BK328) | ((with_reducible refine gate_callee (f := 14) rfl ?_); refine gl_ (some 17) Tryd.func14 #[.agg #[.slice A0_0 l0_0.length c0_0, .slice A0_1 l0_1.length c0_1, .int .i64 a0_2, .slice A0_3 l0_3.length c0_3], .agg #[.int .i64 a1_0, .string a1_1, .slice A1_2 l1_2.length c1_2, .int .i64 a1_3, .int .i64 a1_4, .slice A1_5 l1_5.length c1_5], .int .i64 a2, .int .i64 a3] ?_; (with_reducible refine (evaluate_At.calls k _ _ l0_0 _ _ l0_1 a0_2 _ _ l0_3 a1_0 a1_1 _ _ l1_2 a1_3 a1_4 _ _ l1_5 a2 a3 t329 t330 _ ?side1 ?side2 ?side3 ?side4 ?side5 ?side6 ?side7 ?side8 ?side9 ?side10 A5.out (tb_on HTB.out (be2_ HB GE327 GE328))).mono ?_); (case side1 => exact cs_ (Kd.C_below HR0_0.out HB.out)); (case side2 => exact HC0_0.out); (case side3 => exact cs_ (Kd.C_below HR0_1.out HB.out)); (case side4 => exact HC0_1.out); (case side5 => exact cs_ (Kd.C_below HR0_3.out HB.out)); (case side6 => exact HC0_3.out); (case side7 => exact cs_ (Kd.C_below HR1_2.out HB.out)); (case side8 => exact HC1_2.out); (case side9 => exact cs_ (Kd.C_below HR1_5.out HB.out)); (case side10 => exact HC1_5.out); rintro e w11 ⟨rfl, hb⟩; refine ⟨_, rfl, ?_⟩; replace BK327 := mk_ (bb_ BK327 hb); replace BK328 := mk_ (bb_ BK328 hb); replace HB := mk_ (below_step (be2_ HB GE327 GE328) hb)))
 go_ret2
 exact ⟨er_, be2_ HB GE327 GE328⟩
def pentaglotref26_True.l0 : Nat → Int → List (S73) → List Int → Int → List (S62) → Int → ByteArray → List (S92) → Int → Int → List (S32) → Option (Bool)
 | 0, _, _, _, _, _, _, _, _, _, _, _ => none
 | k + 1, x5, x332000, x332001, x332002, x332003, x333000, x333001, x333002, x333003, x333004, x333005 => (pentaglotref26_Last.f x332000 x332001 x332002).bind fun t333 => (if x5 ≤ t333 then ((pentaglotref26_Truth.f k x332000 x332001 x332002 x332003 x333000 x333001 x333002 x333003 x333004 x333005 ([] : List ByteArray) 0 x5).bind fun t334 => (if t334 = true then (pentaglotref26_True.l0 k (wrap64 (x5 + 1)) x332000 x332001 x332002 x332003 x333000 x333001 x333002 x333003 x333004 x333005) else (some false))) else (some true))
def pentaglotref26_True.f (k : Nat) (l0_0 : List (S73)) (l0_1 : List Int) (a0_2 : Int) (l0_3 : List (S62)) (a1_0 : Int) (a1_1 : ByteArray) (l1_2 : List (S92)) (a1_3 : Int) (a1_4 : Int) (l1_5 : List (S32)) : Option (Bool) := pentaglotref26_True.l0 k 0 l0_0 l0_1 a0_2 l0_3 a1_0 a1_1 l1_2 a1_3 a1_4 l1_5
theorem pentaglotref26_True.calls (k : Nat) (A0_0 : Option Addr) (c0_0 : Nat) (l0_0 : List (S73)) (A0_1 : Option Addr) (c0_1 : Nat) (l0_1 : List Int) (a0_2 : Int) (A0_3 : Option Addr) (c0_3 : Nat) (l0_3 : List (S62)) (a1_0 : Int) (a1_1 : ByteArray) (A1_2 : Option Addr) (c1_2 : Nat) (l1_2 : List (S92)) (a1_3 : Int) (a1_4 : Int) (A1_5 : Option Addr) (c1_5 : Nat) (l1_5 : List (S32)) (r : Bool) (w : World) (hr0_0 : Kd.C k73 w A0_0 l0_0.length l0_0) (hc0_0 : l0_0.length ≤ c0_0) (hr0_1 : Kd.C (Kd.int .i64) w A0_1 l0_1.length l0_1) (hc0_1 : l0_1.length ≤ c0_1) (hr0_3 : Kd.C k62 w A0_3 l0_3.length l0_3) (hc0_3 : l0_3.length ≤ c0_3) (hr1_2 : Kd.C k92 w A1_2 l1_2.length l1_2) (hc1_2 : l1_2.length ≤ c1_2) (hr1_5 : Kd.C k32 w A1_5 l1_5.length l1_5) (hc1_5 : l1_5.length ≤ c1_5) (h : pentaglotref26_True.f k l0_0 l0_1 a0_2 l0_3 a1_0 a1_1 l1_2 a1_3 a1_4 l1_5 = some r) :
  Calls Tryd.prog 21 #[.agg #[.slice A0_0 l0_0.length c0_0, .slice A0_1 l0_1.length c0_1, .int .i64 a0_2, .slice A0_3 l0_3.length c0_3], .agg #[.int .i64 a1_0, .string a1_1, .slice A1_2 l1_2.length c1_2, .int .i64 a1_3, .int .i64 a1_4, .slice A1_5 l1_5.length c1_5]] w fun e w' => e = .returned (.bool r) ∧ Below w.heap.size w w' := by
 have hu28 := Tryd.underlying28
 have hu32 := Tryd.underlying32
 have hu25 := Tryd.underlying25
 have HR0_0 := mk_ hr0_0; have HC0_0 := mk_ hc0_0; clear hr0_0 hc0_0
 have HR0_1 := mk_ hr0_1; have HC0_1 := mk_ hc0_1; clear hr0_1 hc0_1
 have HR0_3 := mk_ hr0_3; have HC0_3 := mk_ hc0_3; clear hr0_3 hc0_3
 have HR1_2 := mk_ hr1_2; have HC1_2 := mk_ hc1_2; clear hr1_2 hc1_2
 have HR1_5 := mk_ hr1_5; have HC1_5 := mk_ hc1_5; clear hr1_5 hc1_5
 have HB := mk_ (Below.refl w.heap.size w)
 have H : (pentaglotref26_True.l0 k 0 l0_0 l0_1 a0_2 l0_3 a1_0 a1_1 l1_2 a1_3 a1_4 l1_5) = some r := h
 clear h
 have H' := mk_ H
 clear H
 go_enter Tryd.func21, Tryd.ntmps21
 go_wp2_with (first | ((with_reducible refine gate_dst (N := 2) rfl ?_); refine bx_ 2 #[.slice A0_0 l0_0.length c0_0, .slice A0_1 l0_1.length c0_1, .int .i64 a0_2, .slice A0_3 l0_3.length c0_3] 28 ?_; intro gb331 hg w3 hbox hb; have BK331 := mk_ (hbox); have GW331 := mk_ (gs_ hg (be_ HB)); have GE331 := mk_ (gs_ hg (be_ HB)); replace HB := mk_ (below_step (be_ HB) hb); clear hb hbox hg) | ((with_reducible refine gate_dst (N := 3) rfl ?_); refine bx_ 3 #[.int .i64 a1_0, .string a1_1, .slice A1_2 l1_2.length c1_2, .int .i64 a1_3, .int .i64 a1_4, .slice A1_5 l1_5.length c1_5] 32 ?_; intro gb332 hg w4 hbox hb; have n0_ := mk_ (bb_ BK331 hb); have n1_ := mk_ (below_step (be1_ HB GE331) hb); have n2_ := mk_ (hbox); have n3_ := mk_ (gs_ hg (be1_ HB GE331)); have n4_ := mk_ (gs_ hg (be1_ HB GE331)); have n5_ := mk_ ((by rw [hg]; exact Nat.ne_of_lt (blk_lt (g := gb331) (o := .cells #[.slice A0_0 l0_0.length c0_0, .slice A0_1 l0_1.length c0_1, .int .i64 a0_2, .slice A0_3 l0_3.length c0_3] 28 (0, 0)) (bq_ BK331)) : gb331 ≠ gb332)); have n6_ := mk_ ((by rw [hg]; exact Nat.ne_of_gt (blk_lt (g := gb331) (o := .cells #[.slice A0_0 l0_0.length c0_0, .slice A0_1 l0_1.length c0_1, .int .i64 a0_2, .slice A0_3 l0_3.length c0_3] 28 (0, 0)) (bq_ BK331)) : gb332 ≠ gb331)); clear BK331; clear HB; have BK331 := n0_; have HB := n1_; have BK332 := n2_; have GW332 := n3_; have GE332 := n4_; have NB331_332 := n5_; have NB332_331 := n6_; clear n0_ n1_ n2_ n3_ n4_ n5_ n6_; clear hb hbox hg))
 go_loopg [5] k (fun kq v5 w' => ∃ (x5_1 : Int), v5 = .int .i64 x5_1 ∧ Aside0 (pentaglotref26_True.l0 kq x5_1 l0_0 l0_1 a0_2 l0_3 a1_0 a1_1 l1_2 a1_3 a1_4 l1_5 = some r) ∧ Aside0 (kq ≤ k) ∧ Aside0 (w'.heap[gb331]? = some (.cells #[(.slice A0_0 l0_0.length c0_0), (.slice A0_1 l0_1.length c0_1), .int .i64 a0_2, (.slice A0_3 l0_3.length c0_3)] 28 (0, 0))) ∧ Aside0 (w'.heap[gb332]? = some (.cells #[.int .i64 a1_0, .string a1_1, (.slice A1_2 l1_2.length c1_2), .int .i64 a1_3, .int .i64 a1_4, (.slice A1_5 l1_5.length c1_5)] 32 (0, 0))) ∧ Aside0 (Below w.heap.size w w'))
 case atStart => exact ⟨(0), fi_, H', ⟨Nat.le_refl _⟩, ⟨bq_ BK331⟩, ⟨bq_ BK332⟩, ⟨be2_ HB GE331 GE332⟩⟩
 case round =>
  clear H'
  obtain ⟨x5_1, rfl, HA, HK1, BK331, BK332, HB⟩ := hrel
  cases gk with
  | zero => exact absurd HA.out (by simp [pentaglotref26_True.l0])
  | succ k1 =>
   have H := HA.out
   clear HA
   simp only [pentaglotref26_True.l0] at H
   replace H := Option.bind_eq_some_iff.mp H
   obtain ⟨t333, A50, H⟩ := H
   replace H : (if x5_1 ≤ t333 then ((pentaglotref26_Truth.f k1 l0_0 l0_1 a0_2 l0_3 a1_0 a1_1 l1_2 a1_3 a1_4 l1_5 ([] : List ByteArray) 0 x5_1).bind fun t334 => (if t334 = true then (pentaglotref26_True.l0 k1 (wrap64 (x5_1 + 1)) l0_0 l0_1 a0_2 l0_3 a1_0 a1_1 l1_2 a1_3 a1_4 l1_5) else (some false))) else (some true)) = some r := H
   have A5 := mk_ A50
   clear A50
   by_cases c6 : x5_1 ≤ t333
   ·rw [if_pos c6] at H
    have c6b0 : decide (x5_1 ≤ t333) = true := decide_eq_true c6
    clear c6
    replace H := Option.bind_eq_some_iff.mp H
    obtain ⟨t334, A70, H⟩ := H
    replace H : (if t334 = true then (pentaglotref26_True.l0 k1 (wrap64 (x5_1 + 1)) l0_0 l0_1 a0_2 l0_3 a1_0 a1_1 l1_2 a1_3 a1_4 l1_5) else (some false)) = some r := H
    have A7 := mk_ A70
    clear A70
    by_cases c8 : t334 = true
    ·subst c8
     rw [if_pos rfl] at H
     have H' := mk_ H
     clear H
     have hnb9 := NB331_332.out
     have hnc9 := NB332_331.out
     obtain ⟨_, _, _, _, _, _, _, _⟩ := hb4_ BK331
     go_wp2_with (first | ((with_reducible refine gate_callee (f := 19) rfl ?_); refine gl_ (some 9) Tryd.func19 #[.agg #[.slice A0_0 l0_0.length c0_0, .slice A0_1 l0_1.length c0_1, .int .i64 a0_2]] ?_; (with_reducible refine (pentaglotref26_Last.calls _ _ l0_0 _ _ l0_1 a0_2 t333 _ ?side1 ?side2 ?side3 ?side4 A5.out).mono ?_); (case side1 => exact cs_ (Kd.C_below HR0_0.out HB.out)); (case side2 => exact HC0_0.out); (case side3 => exact cs_ (Kd.C_below HR0_1.out HB.out)); (case side4 => exact HC0_1.out); rintro e w11 ⟨rfl, hb⟩; refine ⟨_, rfl, ?_⟩; replace BK331 := mk_ (bb_ BK331 hb); replace BK332 := mk_ (bb_ BK332 hb); replace HB := mk_ (below_step (be2_ HB GE331 GE332) hb); obtain ⟨_, _, _, _, _, _, _, _⟩ := hb4_ BK331; obtain ⟨_, _, _, _, _, _, _, _, _, _, _, _⟩ := hb6_ BK332) | ((with_reducible refine gate_callee (f := 17) rfl ?_); refine gl_ (some 16) Tryd.func17 #[.agg #[.slice A0_0 l0_0.length c0_0, .slice A0_1 l0_1.length c0_1, .int .i64 a0_2, .slice A0_3 l0_3.length c0_3], .agg #[.int .i64 a1_0, .string a1_1, .slice A1_2 l1_2.length c1_2, .int .i64 a1_3, .int .i64 a1_4, .slice A1_5 l1_5.length c1_5], .slice none 0 0, .int .i64 0, .int .i64 x5_1] ?_; (refine (pentaglotref26_Truth.calls k1 _ _ l0_0 _ _ l0_1 a0_2 _ _ l0_3 a1_0 a1_1 _ _ l1_2 a1_3 a1_4 _ _ l1_5 _ _ ([] : List ByteArray) 0 x5_1 true _ ?side1 ?side2 ?side3 ?side4 ?side5 ?side6 ?side7 ?side8 ?side9 ?side10 ?side11 ?side12 A7.out).mono ?_); (case side1 => exact cs_ (Kd.C_below HR0_0.out HB.out)); (case side2 => exact HC0_0.out); (case side3 => exact cs_ (Kd.C_below HR0_1.out HB.out)); (case side4 => exact HC0_1.out); (case side5 => exact cs_ (Kd.C_below HR0_3.out HB.out)); (case side6 => exact HC0_3.out); (case side7 => exact cs_ (Kd.C_below HR1_2.out HB.out)); (case side8 => exact HC1_2.out); (case side9 => exact cs_ (Kd.C_below HR1_5.out HB.out)); (case side10 => exact HC1_5.out); (case side11 => exact Kd.C_nil _ _); (case side12 => exact Nat.le_refl _); rintro e w14 ⟨rfl, hb⟩; refine ⟨_, rfl, ?_⟩; replace BK331 := mk_ (bb_ BK331 hb); replace BK332 := mk_ (bb_ BK332 hb); replace HB := mk_ (below_step (be2_ HB GE331 GE332) hb)))
     go_roundg k1
     case measure => have := HK1.out; omega
     case rel => exact ⟨(wrap64 (x5_1 + 1)), fi_, H', ⟨by have := HK1.out; omega⟩, ⟨bq_ BK331⟩, ⟨bq_ BK332⟩, ⟨be2_ HB GE331 GE332⟩⟩
    ·replace c8 := Bool.eq_false_iff.mpr c8
     subst c8
     rw [if_neg nf_] at H
     obtain rfl := Option.some.inj H
     have hnb15 := NB331_332.out
     have hnc15 := NB332_331.out
     obtain ⟨_, _, _, _, _, _, _, _⟩ := hb4_ BK331
     go_wp2_with (first | ((with_reducible refine gate_callee (f := 19) rfl ?_); refine gl_ (some 9) Tryd.func19 #[.agg #[.slice A0_0 l0_0.length c0_0, .slice A0_1 l0_1.length c0_1, .int .i64 a0_2]] ?_; (with_reducible refine (pentaglotref26_Last.calls _ _ l0_0 _ _ l0_1 a0_2 t333 _ ?side1 ?side2 ?side3 ?side4 A5.out).mono ?_); (case side1 => exact cs_ (Kd.C_below HR0_0.out HB.out)); (case side2 => exact HC0_0.out); (case side3 => exact cs_ (Kd.C_below HR0_1.out HB.out)); (case side4 => exact HC0_1.out); rintro e w17 ⟨rfl, hb⟩; refine ⟨_, rfl, ?_⟩; replace BK331 := mk_ (bb_ BK331 hb); replace BK332 := mk_ (bb_ BK332 hb); replace HB := mk_ (below_step (be2_ HB GE331 GE332) hb); obtain ⟨_, _, _, _, _, _, _, _⟩ := hb4_ BK331; obtain ⟨_, _, _, _, _, _, _, _, _, _, _, _⟩ := hb6_ BK332) | ((with_reducible refine gate_callee (f := 17) rfl ?_); refine gl_ (some 16) Tryd.func17 #[.agg #[.slice A0_0 l0_0.length c0_0, .slice A0_1 l0_1.length c0_1, .int .i64 a0_2, .slice A0_3 l0_3.length c0_3], .agg #[.int .i64 a1_0, .string a1_1, .slice A1_2 l1_2.length c1_2, .int .i64 a1_3, .int .i64 a1_4, .slice A1_5 l1_5.length c1_5], .slice none 0 0, .int .i64 0, .int .i64 x5_1] ?_; (refine (pentaglotref26_Truth.calls k1 _ _ l0_0 _ _ l0_1 a0_2 _ _ l0_3 a1_0 a1_1 _ _ l1_2 a1_3 a1_4 _ _ l1_5 _ _ ([] : List ByteArray) 0 x5_1 false _ ?side1 ?side2 ?side3 ?side4 ?side5 ?side6 ?side7 ?side8 ?side9 ?side10 ?side11 ?side12 A7.out).mono ?_); (case side1 => exact cs_ (Kd.C_below HR0_0.out HB.out)); (case side2 => exact HC0_0.out); (case side3 => exact cs_ (Kd.C_below HR0_1.out HB.out)); (case side4 => exact HC0_1.out); (case side5 => exact cs_ (Kd.C_below HR0_3.out HB.out)); (case side6 => exact HC0_3.out); (case side7 => exact cs_ (Kd.C_below HR1_2.out HB.out)); (case side8 => exact HC1_2.out); (case side9 => exact cs_ (Kd.C_below HR1_5.out HB.out)); (case side10 => exact HC1_5.out); (case side11 => exact Kd.C_nil _ _); (case side12 => exact Nat.le_refl _); rintro e w20 ⟨rfl, hb⟩; refine ⟨_, rfl, ?_⟩; replace BK331 := mk_ (bb_ BK331 hb); replace BK332 := mk_ (bb_ BK332 hb); replace HB := mk_ (below_step (be2_ HB GE331 GE332) hb)))
     go_ret
     exact ⟨er_, be2_ HB GE331 GE332⟩
   ·rw [if_neg c6] at H
    have c6b0 : decide (x5_1 ≤ t333) = false := decide_eq_false c6
    clear c6
    obtain rfl := Option.some.inj H
    have hnb21 := NB331_332.out
    have hnc21 := NB332_331.out
    obtain ⟨_, _, _, _, _, _, _, _⟩ := hb4_ BK331
    go_wp2_with (first | ((with_reducible refine gate_callee (f := 19) rfl ?_); refine gl_ (some 9) Tryd.func19 #[.agg #[.slice A0_0 l0_0.length c0_0, .slice A0_1 l0_1.length c0_1, .int .i64 a0_2]] ?_; (with_reducible refine (pentaglotref26_Last.calls _ _ l0_0 _ _ l0_1 a0_2 t333 _ ?side1 ?side2 ?side3 ?side4 A5.out).mono ?_); (case side1 => exact cs_ (Kd.C_below HR0_0.out HB.out)); (case side2 => exact HC0_0.out); (case side3 => exact cs_ (Kd.C_below HR0_1.out HB.out)); (case side4 => exact HC0_1.out); rintro e w23 ⟨rfl, hb⟩; refine ⟨_, rfl, ?_⟩; replace BK331 := mk_ (bb_ BK331 hb); replace BK332 := mk_ (bb_ BK332 hb); replace HB := mk_ (below_step (be2_ HB GE331 GE332) hb)))
    go_ret
    exact ⟨er_, be2_ HB GE331 GE332⟩
def pentaglotlaw26_kid.f (a0 : Int) (a1_0 : Int) (a1_1 : ByteArray) (l1_2 : List (S92)) (a1_3 : Int) (a1_4 : Int) (l1_5 : List (S32)) : Option (Int × ByteArray × (List (S92)) × Int × Int × (List (S32))) := some (a0, (⟨#[]⟩ : ByteArray), ([] : List (S92)), 0, 0, (([(⟨a1_0, a1_1, l1_2, a1_3, a1_4, l1_5⟩ : S32)] : List (S32))))
theorem pentaglotlaw26_kid.calls (a0 : Int) (a1_0 : Int) (a1_1 : ByteArray) (P1_2_ : Nat → Prop) (A1_2 : Option Addr) (c1_2 : Nat) (l1_2 : List (S92)) (a1_3 : Int) (a1_4 : Int) (P1_5_ : Nat → Prop) (A1_5 : Option Addr) (c1_5 : Nat) (l1_5 : List (S32)) (r1 : Int) (r2 : ByteArray) (r3 : List (S92)) (r4 : Int) (r5 : Int) (r6 : List (S32)) (w : World) (hs1_2 : Kd.V k92 92 w w.heap.size (fun k_ => P1_2_ k_) (.slice A1_2 l1_2.length c1_2) l1_2) (hs1_5 : Kd.V k32 32 w w.heap.size (fun k_ => P1_5_ k_) (.slice A1_5 l1_5.length c1_5) l1_5) (h : pentaglotlaw26_kid.f a0 a1_0 a1_1 l1_2 a1_3 a1_4 l1_5 = some (r1, r2, r3, r4, r5, r6)) :
  Calls Tryd.prog 26 #[.int .i64 a0, .agg #[.int .i64 a1_0, .string a1_1, .slice A1_2 l1_2.length c1_2, .int .i64 a1_3, .int .i64 a1_4, .slice A1_5 l1_5.length c1_5]] w fun e w' => ∃ v2_ v5_ : Value, e = .returned (.agg #[.int .i64 r1, .string r2, v2_, .int .i64 r4, .int .i64 r5, v5_]) ∧ Kd.R k92 92 w' w.heap.size (fun k_ => (w.heap.size ≤ k_)) v2_ r3 ∧ Kd.N k32 32 w' w.heap.size (fun k_ => ((P1_2_ k_ ∨ P1_5_ k_) ∨ w.heap.size ≤ k_) ∧ some k_ ≠ (v2_ : Value).ownBlock) v5_ r6 ∧ Below w.heap.size w w' := by
 have hu32 := Tryd.underlying32
 have HO1_2 := mk_ (show Kd.V k92 92 w w.heap.size (fun k_ => ((P1_2_ k_ ∨ P1_5_ k_) ∨ w.heap.size ≤ k_)) (.slice A1_2 l1_2.length c1_2) l1_2 from Kd.V_mono hs1_2 (fun k_ hk => .inl (.inl hk)))
 have HO1_5 := mk_ (show Kd.V k32 32 w w.heap.size (fun k_ => ((P1_2_ k_ ∨ P1_5_ k_) ∨ w.heap.size ≤ k_)) (.slice A1_5 l1_5.length c1_5) l1_5 from Kd.V_mono hs1_5 (fun k_ hk => .inl (.inr hk)))
 have HB := mk_ (Below.refl w.heap.size w)
 have H : (some (a0, (⟨#[]⟩ : ByteArray), ([] : List (S92)), 0, 0, (([(⟨a1_0, a1_1, l1_2, a1_3, a1_4, l1_5⟩ : S32)] : List (S32))))) = some (r1, r2, r3, r4, r5, r6) := h
 clear h
 obtain ⟨y360, hy360⟩ : ∃ y_ : List (S32), y_ = (([(⟨a1_0, a1_1, l1_2, a1_3, a1_4, l1_5⟩ : S32)] : List (S32))) := ⟨_, rfl⟩
 replace H : (some (a0, (⟨#[]⟩ : ByteArray), ([] : List (S92)), 0, 0, y360)) = some (r1, r2, r3, r4, r5, r6) := by first | (rw [hy360]; with_reducible exact H) | (have H2_ := (Option.bind_some _ _).symm.trans H; rw [hy360]; with_reducible exact H2_) | (have H2_ := (Option.bind_some _ _).symm.trans H; with_reducible exact H2_) | with_reducible exact H | (rw [hy360]; exact H) | exact H
 have Ny360 := mk_ hy360
 clear hy360
 simp only [Option.some.injEq, Prod.mk.injEq] at H
 obtain ⟨rfl, rfl, rfl, rfl, rfl, rfl⟩ := H
 go_enter Tryd.func26, Tryd.ntmps26
 go_wp2_with (first | ((with_reducible refine gate_dst (N := 3) rfl ?_); refine bx_ 3 #[.int .i64 a1_0, .string a1_1, .slice A1_2 l1_2.length c1_2, .int .i64 a1_3, .int .i64 a1_4, .slice A1_5 l1_5.length c1_5] 32 ?_; intro gb358 hg w3 hbox hb; have BK358 := mk_ (hbox); have GW358 := mk_ (gs_ hg (be_ HB)); have GE358 := mk_ (gs_ hg (be_ HB)); replace HO1_2 := mk_ (Kd.V_below (Kd.V_elderB (vq_ HO1_2) gb358 (Nat.le_of_eq hg.symm)) hb); replace HO1_5 := mk_ (Kd.V_below (Kd.V_elderB (vq_ HO1_5) gb358 (Nat.le_of_eq hg.symm)) hb); replace HB := mk_ (below_step (be_ HB) hb); clear hb hbox hg) | ((with_reducible refine gate_dst (N := 4) rfl ?_); refine bx_ 4 #[.int .i64 0, .string (⟨#[]⟩ : ByteArray), .slice none 0 0, .int .i64 0, .int .i64 0, .slice none 0 0] 32 ?_; intro gb359 hg w4 hbox hb; have n0_ := mk_ (Kd.V_below (Kd.V_elderB (vq_ HO1_2) gb359 (Nat.le_of_eq hg.symm)) hb); have n1_ := mk_ (Kd.V_below (Kd.V_elderB (vq_ HO1_5) gb359 (Nat.le_of_eq hg.symm)) hb); have n2_ := mk_ (bb_ BK358 hb); have n3_ := mk_ (below_step (be1_ HB GE358) hb); have n4_ := mk_ (hbox); have n5_ := mk_ (gs_ hg (be1_ HB GE358)); have n6_ := mk_ (gs_ hg (be1_ HB GE358)); have n7_ := mk_ ((by rw [hg]; exact Nat.ne_of_lt (blk_lt (g := gb358) (o := .cells #[.int .i64 a1_0, .string a1_1, .slice A1_2 l1_2.length c1_2, .int .i64 a1_3, .int .i64 a1_4, .slice A1_5 l1_5.length c1_5] 32 (0, 0)) (bq_ BK358)) : gb358 ≠ gb359)); have n8_ := mk_ ((by rw [hg]; exact Nat.ne_of_gt (blk_lt (g := gb358) (o := .cells #[.int .i64 a1_0, .string a1_1, .slice A1_2 l1_2.length c1_2, .int .i64 a1_3, .int .i64 a1_4, .slice A1_5 l1_5.length c1_5] 32 (0, 0)) (bq_ BK358)) : gb359 ≠ gb358)); clear HO1_2; clear HO1_5; clear BK358; clear HB; have HO1_2 := n0_; have HO1_5 := n1_; have BK358 := n2_; have HB := n3_; have BK359 := n4_; have GW359 := n5_; have GE359 := n6_; have NB358_359 := n7_; have NB359_358 := n8_; clear n0_ n1_ n2_ n3_ n4_ n5_ n6_ n7_ n8_; clear hb hbox hg; have hnb5 := NB358_359.out; have hnc5 := NB359_358.out; obtain ⟨_, _, _, _, _, _, _, _, _, _, _, _⟩ := hb6_ BK358) | ((with_reducible refine gate_dst (N := 7) rfl ?_); refine Kd.N_lit k32 _ 32 ?hg (N' := 7) ?hd (xs := ([(⟨a1_0, a1_1, l1_2, a1_3, a1_4, l1_5⟩ : S32)] : List (S32))) (inner := [.int .i64 a1_0, .string a1_1, .slice A1_2 l1_2.length c1_2, .int .i64 a1_3, .int .i64 a1_4, .slice A1_5 l1_5.length c1_5]) (ok := (fun k_ => ((P1_2_ k_ ∨ P1_5_ k_) ∨ w.heap.size ≤ k_) ∧ k_ ≠ gb358 ∧ k_ ≠ gb359)) (okp := (fun k_ => ((P1_2_ k_ ∨ P1_5_ k_) ∨ w.heap.size ≤ k_) ∧ k_ ≠ gb358 ∧ k_ ≠ gb359)) ?hr ?hp (fun _ hk => hk) ((show ∀ k_, w4.heap.size ≤ k_ → (fun k_ => ((P1_2_ k_ ∨ P1_5_ k_) ∨ w.heap.size ≤ k_) ∧ k_ ≠ gb358 ∧ k_ ≠ gb359) k_ from fun k_ hk => ⟨(.inr (Nat.le_trans (below_size (be2_ HB GE358 GE359)) hk)), Kd.freshB (g := gb358) (o := .cells #[.int .i64 a1_0, .string a1_1, .slice A1_2 l1_2.length c1_2, .int .i64 a1_3, .int .i64 a1_4, .slice A1_5 l1_5.length c1_5] 32 (0, 0)) (bq_ BK358) k_ hk, Kd.freshB (g := gb359) (o := .cells #[.int .i64 0, .string (⟨#[]⟩ : ByteArray), .slice none 0 0, .int .i64 0, .int .i64 0, .slice none 0 0] 32 (0, 0)) (bq_ BK359) k_ hk⟩) _ (Nat.le_refl _)) (Below.refl _ _) (Nat.le_refl _) (by simp) ?_; (case hd => rfl); (case hg => rfl); (case hr => first | (go_simp; done) | (go_simp; rfl)); (case hp => exact (Reps.c6 (show Kd.FK k32 _ _ (⟨a1_0, a1_1, l1_2, a1_3, a1_4, l1_5⟩ : S32) [.int .i64 a1_0, .string a1_1, .slice A1_2 l1_2.length c1_2, .int .i64 a1_3, .int .i64 a1_4, .slice A1_5 l1_5.length c1_5] from (k32_mkF _ _ (⟨a1_0, a1_1, l1_2, a1_3, a1_4, l1_5⟩ : S32) (Kd.V_reads' (Kd.V_mono (ok' := (fun k_ => ((P1_2_ k_ ∨ P1_5_ k_) ∨ w.heap.size ≤ k_) ∧ k_ ≠ gb358 ∧ k_ ≠ gb359)) (HO1_2.out) (fun k_ hk => ⟨hk.1.1, ⟨hk.1.2, hk.2⟩⟩))).2.1 (Kd.V_F (Kd.V_mono (ok' := (fun k_ => ((P1_2_ k_ ∨ P1_5_ k_) ∨ w.heap.size ≤ k_) ∧ k_ ≠ gb358 ∧ k_ ≠ gb359)) (HO1_2.out) (fun k_ hk => ⟨hk.1.1, ⟨hk.1.2, hk.2⟩⟩))) (Kd.V_reads' (Kd.V_mono (ok' := (fun k_ => ((P1_2_ k_ ∨ P1_5_ k_) ∨ w.heap.size ≤ k_) ∧ k_ ≠ gb358 ∧ k_ ≠ gb359)) (HO1_5.out) (fun k_ hk => ⟨hk.1.1, ⟨hk.1.2, hk.2⟩⟩))).2.1 (Kd.V_F (Kd.V_mono (ok' := (fun k_ => ((P1_2_ k_ ∨ P1_5_ k_) ∨ w.heap.size ≤ k_) ∧ k_ ≠ gb358 ∧ k_ ≠ gb359)) (HO1_5.out) (fun k_ hk => ⟨hk.1.1, ⟨hk.1.2, hk.2⟩⟩))))) (Reps.none _ _))); intro v361 w7 ho8 hb hg_ hnew_; clear hg_ hnew_; (first | rw [← Ny360.out] at ho8 | (simp only [Int.reduceToNat] at ho8; rw [← Ny360.out] at ho8)); have HO362 := mk_ (Kd.N_lower ho8 (below_size (be2_ HB GE358 GE359))); replace HO1_2 := mk_ (Kd.V_elder' (vq_ HO1_2) (Kd.N_base ho8) hb); replace HO1_5 := mk_ (Kd.V_elder' (vq_ HO1_5) (Kd.N_base ho8) hb); replace BK358 := mk_ (bb_ BK358 hb); replace BK359 := mk_ (bb_ BK359 hb); replace HB := mk_ (below_step (be2_ HB GE358 GE359) hb); clear hb ho8; obtain ⟨Ao9, co9, eo9⟩ := Kd.N_slice HO362.out; subst eo9; obtain ⟨_, _, _, _, _, _, _, _, _, _, _, _⟩ := hb6_ BK359))
 refine bodyPost_ret (results_cell_row rfl _ _ gb359 32 #[.int .i64 a0, .string (⟨#[]⟩ : ByteArray), .slice none 0 0, .int .i64 0, .int .i64 0, .slice Ao9 y360.length co9] (0, 0) _ rfl (by refine sb_ ?_; refine blk_put (cs := #[.int .i64 a0, .string (⟨#[]⟩ : ByteArray), .slice none 0 0, .int .i64 0, .int .i64 0, .slice none 0 0]) ?_ 5 _ rfl; refine sb_ ?_; refine blk_put (cs := #[.int .i64 a0, .string (⟨#[]⟩ : ByteArray), .slice none 0 0, .int .i64 0, .int .i64 0, .slice none 0 0]) ?_ 4 _ rfl; refine sb_ ?_; refine blk_put (cs := #[.int .i64 a0, .string (⟨#[]⟩ : ByteArray), .slice none 0 0, .int .i64 0, .int .i64 0, .slice none 0 0]) ?_ 3 _ rfl; refine sb_ ?_; refine blk_put (cs := #[.int .i64 a0, .string (⟨#[]⟩ : ByteArray), .slice none 0 0, .int .i64 0, .int .i64 0, .slice none 0 0]) ?_ 2 _ rfl; refine sb_ ?_; refine blk_put (cs := #[.int .i64 a0, .string (⟨#[]⟩ : ByteArray), .slice none 0 0, .int .i64 0, .int .i64 0, .slice none 0 0]) ?_ 1 _ rfl; refine sb_ ?_; refine blk_put (cs := #[.int .i64 0, .string (⟨#[]⟩ : ByteArray), .slice none 0 0, .int .i64 0, .int .i64 0, .slice none 0 0]) ?_ 0 _ rfl; refine sb_ ?_; exact BK359.out) Tryd.underlying32 rfl (by kernel_rfl)) rfl ?_
 exact ⟨_, _, er_, by first | exact Kd.R_nil _ _ _ _ _ | exact Kd.N_nil _ _ _ _ _ | exact Kd.V_nil _ _ _ _ _ | exact Kd.Q_nil _ _ _ _ _ | exact Kd.S_nil _ _ _ _ _, by refine sn_ ?_; exact Kd.N_mono (Kd.N_far (p := ⟨gb359, 5, none⟩) (Kd.N_far (p := ⟨gb359, 4, none⟩) (Kd.N_far (p := ⟨gb359, 3, none⟩) (Kd.N_far (p := ⟨gb359, 2, none⟩) (Kd.N_far (p := ⟨gb359, 1, none⟩) (Kd.N_far (p := ⟨gb359, 0, none⟩) (Kd.N_mono HO362.out (fun k_ hk => (⟨hk, hk.2.2⟩ : _ ∧ k_ ≠ gb359))) (fun _ hk => hk.2) (.int .i64 a0)) (fun _ hk => hk.2) (.string (⟨#[]⟩ : ByteArray))) (fun _ hk => hk.2) (.slice none 0 0)) (fun _ hk => hk.2) (.int .i64 0)) (fun _ hk => hk.2) (.int .i64 0)) (fun _ hk => hk.2) (.slice Ao9 y360.length co9)) (fun _ hk => ⟨hk.1.1, (by simp [Value.ownBlock])⟩), be2_ HB GE358 GE359⟩
mutual
def pentaglotref22_Walk.l0 : Nat → List (S32) → Int → Int → ByteArray → List (S92) → Int → Int → List (S32) → Option ((List (S32)))
 | 0, _, _, _, _, _, _, _, _ => none
 | k + 1, x3, x4, x486000, x486001, x486002, x486003, x486004, x486005 => if x4 < (x486005.length : Int) then (if 0 ≤ x4 then ((pentaglotref22_Walk.f k ((rd_T32 x486005 x4).f0) ((rd_T32 x486005 x4).f1) ((rd_T32 x486005 x4).f2) ((rd_T32 x486005 x4).f3) ((rd_T32 x486005 x4).f4) ((rd_T32 x486005 x4).f5)).bind fun t490 => (if x3.length + t490.length < 1599289640401 then (pentaglotref22_Walk.l0 k (x3 ++ t490) (wrap64 (x4 + 1)) x486000 x486001 x486002 x486003 x486004 x486005) else (none))) else (none)) else (some x3)
def pentaglotref22_Walk.f : Nat → Int → ByteArray → List (S92) → Int → Int → List (S32) → Option ((List (S32)))
 | 0, _, _, _, _, _, _ => none
 | k + 1, a0_0, a0_1, l0_2, a0_3, a0_4, l0_5 => pentaglotref22_Walk.l0 k (([(⟨a0_0, a0_1, l0_2, a0_3, a0_4, l0_5⟩ : S32)] : List (S32))) 0 a0_0 a0_1 l0_2 a0_3 a0_4 l0_5
end
theorem pentaglotref22_Walk.calls (k : Nat) : ∀ (a0_0 : Int) (a0_1 : ByteArray) (P0_2_ : Nat → Prop) (A0_2 : Option Addr) (c0_2 : Nat) (l0_2 : List (S92)) (a0_3 : Int) (a0_4 : Int) (P0_5_ : Nat → Prop) (A0_5 : Option Addr) (c0_5 : Nat) (l0_5 : List (S32)) (r : List (S32)) (w : World) (hs0_2 : Kd.V k92 92 w w.heap.size (fun k_ => P0_2_ k_) (.slice A0_2 l0_2.length c0_2) l0_2) (hs0_5 : Kd.V k32 32 w w.heap.size (fun k_ => P0_5_ k_) (.slice A0_5 l0_5.length c0_5) l0_5) (h : pentaglotref22_Walk.f k a0_0 a0_1 l0_2 a0_3 a0_4 l0_5 = some r),
  Calls Tryd.prog 30 #[.agg #[.int .i64 a0_0, .string a0_1, .slice A0_2 l0_2.length c0_2, .int .i64 a0_3, .int .i64 a0_4, .slice A0_5 l0_5.length c0_5]] w fun e w' => ∃ v0_ : Value, e = .returned (v0_) ∧ Kd.N k32 32 w' w.heap.size (fun k_ => ((P0_2_ k_ ∨ P0_5_ k_) ∨ w.heap.size ≤ k_)) v0_ r ∧ Below w.heap.size w w' := by
 induction k using Nat.strongRecOn with
 | _ k ih =>
 intro a0_0 a0_1 P0_2_ A0_2 c0_2 l0_2 a0_3 a0_4 P0_5_ A0_5 c0_5 l0_5 r w hs0_2 hs0_5 h
 cases k with
 | zero => exact absurd h (by simp [pentaglotref22_Walk.f])
 | succ k =>
 simp only [pentaglotref22_Walk.f] at h
 have hu32 := Tryd.underlying32
 have HO0_2 := mk_ (show Kd.V k92 92 w w.heap.size (fun k_ => ((P0_2_ k_ ∨ P0_5_ k_) ∨ w.heap.size ≤ k_)) (.slice A0_2 l0_2.length c0_2) l0_2 from Kd.V_mono hs0_2 (fun k_ hk => .inl (.inl hk)))
 have HO0_5 := mk_ (show Kd.V k32 32 w w.heap.size (fun k_ => ((P0_2_ k_ ∨ P0_5_ k_) ∨ w.heap.size ≤ k_)) (.slice A0_5 l0_5.length c0_5) l0_5 from Kd.V_mono hs0_5 (fun k_ hk => .inl (.inr hk)))
 have HB := mk_ (Below.refl w.heap.size w)
 have H : (pentaglotref22_Walk.l0 k (([(⟨a0_0, a0_1, l0_2, a0_3, a0_4, l0_5⟩ : S32)] : List (S32))) 0 a0_0 a0_1 l0_2 a0_3 a0_4 l0_5) = some r := h
 clear h
 obtain ⟨y486, hy486⟩ : ∃ y_ : List (S32), y_ = (([(⟨a0_0, a0_1, l0_2, a0_3, a0_4, l0_5⟩ : S32)] : List (S32))) := ⟨_, rfl⟩
 replace H : (pentaglotref22_Walk.l0 k y486 0 a0_0 a0_1 l0_2 a0_3 a0_4 l0_5) = some r := by first | (rw [hy486]; with_reducible exact H) | (have H2_ := (Option.bind_some _ _).symm.trans H; rw [hy486]; with_reducible exact H2_) | (have H2_ := (Option.bind_some _ _).symm.trans H; with_reducible exact H2_) | with_reducible exact H | (rw [hy486]; exact H) | exact H
 have Ny486 := mk_ hy486
 clear hy486
 have H' := mk_ H
 clear H
 go_enter Tryd.func30, Tryd.ntmps30
 go_wp2_with (first | ((with_reducible refine gate_dst (N := 1) rfl ?_); refine bx_ 1 #[.int .i64 a0_0, .string a0_1, .slice A0_2 l0_2.length c0_2, .int .i64 a0_3, .int .i64 a0_4, .slice A0_5 l0_5.length c0_5] 32 ?_; intro gb485 hg w2 hbox hb; have BK485 := mk_ (hbox); have GW485 := mk_ (gs_ hg (be_ HB)); have GE485 := mk_ (gs_ hg (be_ HB)); replace HO0_2 := mk_ (Kd.V_below (Kd.V_elderB (vq_ HO0_2) gb485 (Nat.le_of_eq hg.symm)) hb); replace HO0_5 := mk_ (Kd.V_below (Kd.V_elderB (vq_ HO0_5) gb485 (Nat.le_of_eq hg.symm)) hb); replace HB := mk_ (below_step (be_ HB) hb); clear hb hbox hg; obtain ⟨_, _, _, _, _, _, _, _, _, _, _, _⟩ := hb6_ BK485) | ((with_reducible refine gate_dst (N := 6) rfl ?_); refine Kd.N_lit k32 _ 32 ?hg (N' := 6) ?hd (xs := ([(⟨a0_0, a0_1, l0_2, a0_3, a0_4, l0_5⟩ : S32)] : List (S32))) (inner := [.int .i64 a0_0, .string a0_1, .slice A0_2 l0_2.length c0_2, .int .i64 a0_3, .int .i64 a0_4, .slice A0_5 l0_5.length c0_5]) (ok := (fun k_ => ((P0_2_ k_ ∨ P0_5_ k_) ∨ w.heap.size ≤ k_) ∧ k_ ≠ gb485)) (okp := (fun k_ => ((P0_2_ k_ ∨ P0_5_ k_) ∨ w.heap.size ≤ k_) ∧ k_ ≠ gb485)) ?hr ?hp (fun _ hk => hk) ((show ∀ k_, w2.heap.size ≤ k_ → (fun k_ => ((P0_2_ k_ ∨ P0_5_ k_) ∨ w.heap.size ≤ k_) ∧ k_ ≠ gb485) k_ from fun k_ hk => ⟨(.inr (Nat.le_trans (below_size (be1_ HB GE485)) hk)), Kd.freshB (g := gb485) (o := .cells #[.int .i64 a0_0, .string a0_1, .slice A0_2 l0_2.length c0_2, .int .i64 a0_3, .int .i64 a0_4, .slice A0_5 l0_5.length c0_5] 32 (0, 0)) (bq_ BK485) k_ hk⟩) _ (Nat.le_refl _)) (Below.refl _ _) (Nat.le_refl _) (by simp) ?_; (case hd => rfl); (case hg => rfl); (case hr => first | (go_simp; done) | (go_simp; rfl)); (case hp => exact (Reps.c6 (show Kd.FK k32 _ _ (⟨a0_0, a0_1, l0_2, a0_3, a0_4, l0_5⟩ : S32) [.int .i64 a0_0, .string a0_1, .slice A0_2 l0_2.length c0_2, .int .i64 a0_3, .int .i64 a0_4, .slice A0_5 l0_5.length c0_5] from (k32_mkF _ _ (⟨a0_0, a0_1, l0_2, a0_3, a0_4, l0_5⟩ : S32) (Kd.V_reads' (Kd.V_mono (ok' := (fun k_ => ((P0_2_ k_ ∨ P0_5_ k_) ∨ w.heap.size ≤ k_) ∧ k_ ≠ gb485)) (HO0_2.out) (fun k_ hk => ⟨hk.1, hk.2⟩))).2.1 (Kd.V_F (Kd.V_mono (ok' := (fun k_ => ((P0_2_ k_ ∨ P0_5_ k_) ∨ w.heap.size ≤ k_) ∧ k_ ≠ gb485)) (HO0_2.out) (fun k_ hk => ⟨hk.1, hk.2⟩))) (Kd.V_reads' (Kd.V_mono (ok' := (fun k_ => ((P0_2_ k_ ∨ P0_5_ k_) ∨ w.heap.size ≤ k_) ∧ k_ ≠ gb485)) (HO0_5.out) (fun k_ hk => ⟨hk.1, hk.2⟩))).2.1 (Kd.V_F (Kd.V_mono (ok' := (fun k_ => ((P0_2_ k_ ∨ P0_5_ k_) ∨ w.heap.size ≤ k_) ∧ k_ ≠ gb485)) (HO0_5.out) (fun k_ hk => ⟨hk.1, hk.2⟩))))) (Reps.none _ _))); intro v487 w4 ho5 hb hg_ hnew_; clear hg_ hnew_; (first | rw [← Ny486.out] at ho5 | (simp only [Int.reduceToNat] at ho5; rw [← Ny486.out] at ho5)); have HO488 := mk_ (Kd.N_lower ho5 (below_size (be1_ HB GE485))); replace HO0_2 := mk_ (Kd.V_elder' (vq_ HO0_2) (Kd.N_base ho5) hb); replace HO0_5 := mk_ (Kd.V_elder' (vq_ HO0_5) (Kd.N_base ho5) hb); replace BK485 := mk_ (bb_ BK485 hb); replace HB := mk_ (below_step (be1_ HB GE485) hb); clear hb ho5))
 go_loopg [3, 4] k (fun kq v3 v4 w' => ∃ (x3_1 : List (S32)) (x4_1 : Int), v4 = .int .i64 x4_1 ∧ Aside0 (pentaglotref22_Walk.l0 kq x3_1 x4_1 a0_0 a0_1 l0_2 a0_3 a0_4 l0_5 = some r) ∧ Aside0 (kq ≤ k) ∧ Aside0 (Kd.N k32 32 w' w.heap.size (fun k_ => ((P0_2_ k_ ∨ P0_5_ k_) ∨ w.heap.size ≤ k_) ∧ k_ ≠ gb485) v3 x3_1) ∧ Aside0 (Kd.V k92 92 w' w.heap.size (fun k_ => ((P0_2_ k_ ∨ P0_5_ k_) ∨ w.heap.size ≤ k_) ∧ some k_ ≠ (v3 : Value).ownBlock ∧ k_ ≠ gb485) (.slice A0_2 l0_2.length c0_2) l0_2) ∧ Aside0 (Kd.V k32 32 w' w.heap.size (fun k_ => ((P0_2_ k_ ∨ P0_5_ k_) ∨ w.heap.size ≤ k_) ∧ some k_ ≠ (v3 : Value).ownBlock ∧ k_ ≠ gb485) (.slice A0_5 l0_5.length c0_5) l0_5) ∧ Aside0 (w'.heap[gb485]? = some (.cells #[.int .i64 a0_0, .string a0_1, (.slice A0_2 l0_2.length c0_2), .int .i64 a0_3, .int .i64 a0_4, (.slice A0_5 l0_5.length c0_5)] 32 (0, 0))) ∧ Aside0 (Below w.heap.size w w'))
 case atStart => exact ⟨(y486), (0), fi_, H', ⟨Nat.le_refl _⟩, ⟨nq_ HO488⟩, ⟨by refine sv_ ?_; exact Kd.V_mono HO0_2.out (fun _ hk => ⟨hk.1.1, ⟨hk.2, hk.1.2⟩⟩)⟩, ⟨by refine sv_ ?_; exact Kd.V_mono HO0_5.out (fun _ hk => ⟨hk.1.1, ⟨hk.2, hk.1.2⟩⟩)⟩, ⟨bq_ BK485⟩, ⟨be1_ HB GE485⟩⟩
 case round =>
  clear H'
  obtain ⟨x3_1, x4_1, rfl, HA, HK1, HO_3, HO_486002, HO_486005, BK485, HB⟩ := hrel
  cases gk with
  | zero => exact absurd HA.out (by simp [pentaglotref22_Walk.l0])
  | succ k1 =>
   have H := HA.out
   clear HA
   simp only [pentaglotref22_Walk.l0] at H
   by_cases c6 : x4_1 < (l0_5.length : Int)
   ·rw [if_pos c6] at H
    have c6b0 : decide (x4_1 < (l0_5.length : Int)) = true := decide_eq_true c6
    clear c6
    by_cases c7 : 0 ≤ x4_1
    ·rw [if_pos c7] at H
     have c7b0 : decide (0 ≤ x4_1) = true := decide_eq_true c7
     clear c7
     replace H := Option.bind_eq_some_iff.mp H
     obtain ⟨t490, A80, H⟩ := H
     replace H : (if x3_1.length + t490.length < 1599289640401 then (pentaglotref22_Walk.l0 k1 (x3_1 ++ t490) (wrap64 (x4_1 + 1)) a0_0 a0_1 l0_2 a0_3 a0_4 l0_5) else (none)) = some r := H
     have A8 := mk_ A80
     clear A80
     by_cases c9 : x3_1.length + t490.length < 1599289640401
     ·rw [if_pos c9] at H
      have LMc9 := mk_ c9
      clear c9
      obtain ⟨y493, hy493⟩ : ∃ y_ : List (S32), y_ = (x3_1 ++ t490) := ⟨_, rfl⟩
      replace H : (pentaglotref22_Walk.l0 k1 y493 (wrap64 (x4_1 + 1)) a0_0 a0_1 l0_2 a0_3 a0_4 l0_5) = some r := by first | (rw [hy493]; with_reducible exact H) | (have H2_ := (Option.bind_some _ _).symm.trans H; rw [hy493]; with_reducible exact H2_) | (have H2_ := (Option.bind_some _ _).symm.trans H; with_reducible exact H2_) | with_reducible exact H | (rw [hy493]; exact H) | exact H
      have Ny493 := mk_ hy493
      clear hy493
      have H' := mk_ H
      clear H
      obtain ⟨_, _, _, _, _, _, _, _, _, _, _, _⟩ := hb6_ BK485
      have p489 : 0 ≤ (x4_1 : Int) := of_decide_eq_true (by first | (with_reducible assumption) | assumption)
      have q489 : x4_1 < (l0_5.length : Int) := of_decide_eq_true (by first | (with_reducible assumption) | assumption)
      obtain ⟨ad489, A489_2, c489_2, A489_5, c489_5, e489, hx489_0, hx489_1, hx489_2, hx489_3, hx489_4, hx489_5, hl489_2, hi489_2, hl489_5, hi489_5⟩ := at_T32 (Kd.V_reads' HO_486005.out).2.2 x4_1 p489 q489
      cases e489
      obtain ⟨ce489, hce489, hMe489, hcc489⟩ := Kd.V_get HO_486005.out z32 x4_1 p489 (by first | exact q489 | exact of_decide_eq_true (by first | (with_reducible assumption) | assumption) | (have e_ := (Kd.V_reads' HO_486005.out).1; omega))
      obtain ⟨ua489_2, uc489_2, ua489_5, uc489_5, rfl, ul489_2, ge489_2, ul489_5, ge489_5⟩ := k32_openF hMe489
      have hv489_2 := hcc489 2 _ rfl
      rw [add_field _ _ 2 (by omega)] at hv489_2
      replace hv489_2 := Option.some.inj (hv489_2.symm.trans hx489_2)
      injection hv489_2 with hva_ hvn_ hvc_
      rw [hva_] at ge489_2
      rw [hvc_] at ul489_2
      have HL489_2 := mk_ (show Kd.V k92 92 _ w.heap.size _ _ ((rd_T32 l0_5 x4_1).f2) from Kd.V_mk ul489_2 ge489_2)
      clear hva_ hvn_ hvc_ ge489_2 ul489_2
      have hv489_5 := hcc489 5 _ rfl
      rw [add_field _ _ 5 (by omega)] at hv489_5
      replace hv489_5 := Option.some.inj (hv489_5.symm.trans hx489_5)
      injection hv489_5 with hva_ hvn_ hvc_
      rw [hva_] at ge489_5
      rw [hvc_] at ul489_5
      have HL489_5 := mk_ (show Kd.V k32 32 _ w.heap.size _ _ ((rd_T32 l0_5 x4_1).f5) from Kd.V_mk ul489_5 ge489_5)
      clear hva_ hvn_ hvc_ ge489_5 ul489_5
      clear hcc489 hce489
      have HR489_2 := mk_ hi489_2; have HC489_2 := mk_ hl489_2; clear hi489_2 hl489_2
      have HR489_5 := mk_ hi489_5; have HC489_5 := mk_ hl489_5; clear hi489_5 hl489_5
      replace p489 := eq_true p489
      replace q489 := eq_true q489
      go_wp2_with (first | ((with_reducible refine gate_callee (f := 30) rfl ?_); refine gl_ (some 20) Tryd.func30 #[.agg #[.int .i64 ((rd_T32 l0_5 x4_1).f0), .string ((rd_T32 l0_5 x4_1).f1), .slice A489_2 ((rd_T32 l0_5 x4_1).f2).length c489_2, .int .i64 ((rd_T32 l0_5 x4_1).f3), .int .i64 ((rd_T32 l0_5 x4_1).f4), .slice A489_5 ((rd_T32 l0_5 x4_1).f5).length c489_5]] ?_; (with_reducible refine (ih k1 (by have := HK1.out; omega) ((rd_T32 l0_5 x4_1).f0) ((rd_T32 l0_5 x4_1).f1) (fun k_ => (((P0_2_ k_ ∨ P0_5_ k_) ∨ w.heap.size ≤ k_) ∧ (some k_ ≠ (u3 : Value).ownBlock ∧ k_ ≠ gb485))) _ _ ((rd_T32 l0_5 x4_1).f2) ((rd_T32 l0_5 x4_1).f3) ((rd_T32 l0_5 x4_1).f4) (fun k_ => (((P0_2_ k_ ∨ P0_5_ k_) ∨ w.heap.size ≤ k_) ∧ (some k_ ≠ (u3 : Value).ownBlock ∧ k_ ≠ gb485))) _ _ ((rd_T32 l0_5 x4_1).f5) t490 _ ?side1 ?side2 A8.out).mono ?_); (case side1 => exact HL489_2.out); (case side2 => exact HL489_5.out); rintro e w11 ⟨v491, rfl, ho0, hb⟩; refine ⟨_, rfl, ?_⟩; have HO492 := mk_ (Kd.N_lower (Kd.N_mono (ok' := fun k_ => ((P0_2_ k_ ∨ P0_5_ k_) ∨ w.heap.size ≤ k_) ∧ some k_ ≠ (u3 : Value).ownBlock ∧ k_ ≠ gb485) ho0 (fun k_ hk_ => ⟨Or.elim hk_ (fun hs_ => Or.elim hs_ (fun hs_ => hs_.1) (fun hs_ => hs_.1)) (fun hn_ => (.inr (Nat.le_trans (below_size (be1_ HB GE485)) hn_))), Or.elim hk_ (fun hs_ => Or.elim hs_ (fun hs_ => hs_.2.1) (fun hs_ => hs_.2.1)) (fun hn_ => (Kd.fresh' (Kd.N_lt (nq_ HO_3)) k_ hn_)), Or.elim hk_ (fun hs_ => Or.elim hs_ (fun hs_ => hs_.2.2) (fun hs_ => hs_.2.2)) (fun hn_ => (Kd.freshB (g := gb485) (o := .cells #[.int .i64 a0_0, .string a0_1, .slice A0_2 l0_2.length c0_2, .int .i64 a0_3, .int .i64 a0_4, .slice (some ad489) l0_5.length c0_5] 32 (0, 0)) (bq_ BK485) k_ hn_))⟩)) (below_size (be1_ HB GE485))); replace HO_3 := mk_ (Kd.N_elder' (nq_ HO_3) (Kd.N_base ho0) hb); replace HO_486002 := mk_ (Kd.V_elder' (vq_ HO_486002) (Kd.N_base ho0) hb); replace HO_486005 := mk_ (Kd.V_elder' (vq_ HO_486005) (Kd.N_base ho0) hb); replace HL489_2 := mk_ (Kd.V_elder' (vq_ HL489_2) (Kd.N_base ho0) hb); replace HL489_5 := mk_ (Kd.V_elder' (vq_ HL489_5) (Kd.N_base ho0) hb); replace BK485 := mk_ (bb_ BK485 hb); replace HR489_2 := mk_ (Kd.C_below (cq_ HR489_2) hb); replace HR489_5 := mk_ (Kd.C_below (cq_ HR489_5) hb); replace HB := mk_ (below_step (be1_ HB GE485) hb); obtain ⟨Ao13, co13, eo13⟩ := Kd.N_slice HO492.out; subst eo13) | ((with_reducible refine gate_builtin (b := .append) (xs := #[.tmp 14, .tmp 20]) rfl ?_); at_builtin; refine Kd.N_append_rows k32 (w0 := w) w.heap.size rfl (.tmp 14) (.tmp 20) 30 32 (.agg #[(.int .i64 0), (.string ⟨#[]⟩), (.slice none 0 0), (.int .i64 0), (.int .i64 0), (.slice none 0 0)]) 88 rfl Tryd.underlying30 info32 rfl (by decide) (by omega) u3 x3_1 t490 _ _ _ (fun k_ => ((P0_2_ k_ ∨ P0_5_ k_) ∨ w.heap.size ≤ k_) ∧ k_ ≠ gb485) (fun k_ => ((fun k_ => ((P0_2_ k_ ∨ P0_5_ k_) ∨ w.heap.size ≤ k_) ∧ k_ ≠ gb485)) k_ ∧ some k_ ≠ (u3 : Value).ownBlock) rfl rfl ?aO ?aR (fun _ hk => hk) ?aF ?aB ?aS ?aL ?_; (case aR => exact (by skip; exact Kd.N_F (Kd.N_mono (ok' := (fun k_ => ((fun k_ => ((P0_2_ k_ ∨ P0_5_ k_) ∨ w.heap.size ≤ k_) ∧ k_ ≠ gb485)) k_ ∧ some k_ ≠ (u3 : Value).ownBlock)) (HO492.out) (fun k_ hk => ⟨⟨hk.1, hk.2.2⟩, hk.2.1⟩)))); (case aB => exact (be1_ HB GE485)); (case aF => exact (fun k_ hk => ⟨(.inr (Nat.le_trans (below_size (be1_ HB GE485)) hk)), Kd.freshB (g := gb485) (o := .cells #[.int .i64 a0_0, .string a0_1, .slice A0_2 l0_2.length c0_2, .int .i64 a0_3, .int .i64 a0_4, .slice (some ad489) l0_5.length c0_5] 32 (0, 0)) (bq_ BK485) k_ hk⟩)); (case aO => exact (by refine sn_ ?_; exact Kd.N_mono HO_3.out (fun _ hk => ⟨hk.1.1, hk.1.2⟩))); (case aS => exact (below_size (be1_ HB GE485))); (case aL => have := LMc9.out; omega); intro v494 w12 ho hb hg hat; rw [← Ny493.out] at ho; have n0_ := mk_ (Kd.V_afterv (ok := (fun k_ => ((P0_2_ k_ ∨ P0_5_ k_) ∨ w.heap.size ≤ k_) ∧ some k_ ≠ (.slice Ao13 t490.length co13 : Value).ownBlock ∧ k_ ≠ gb485)) (by refine sv_ ?_; exact Kd.V_mono HO_486002.out (fun _ hk => ⟨⟨hk.1.1, ⟨hk.2, hk.1.2.2⟩⟩, hk.1.2.1⟩)) hg hat); have n1_ := mk_ (Kd.V_afterv (ok := (fun k_ => ((P0_2_ k_ ∨ P0_5_ k_) ∨ w.heap.size ≤ k_) ∧ some k_ ≠ (.slice Ao13 t490.length co13 : Value).ownBlock ∧ k_ ≠ gb485)) (by refine sv_ ?_; exact Kd.V_mono HO_486005.out (fun _ hk => ⟨⟨hk.1.1, ⟨hk.2, hk.1.2.2⟩⟩, hk.1.2.1⟩)) hg hat); have n2_ := mk_ (blk_grown (g := gb485) (o := .cells #[.int .i64 a0_0, .string a0_1, .slice A0_2 l0_2.length c0_2, .int .i64 a0_3, .int .i64 a0_4, .slice (some ad489) l0_5.length c0_5] 32 (0, 0)) (bq_ BK485) hg (Kd.N_away HO_3.out (fun _ hk => hk.1.2))); have n3_ := mk_ (Kd.V_afterv (ok := (fun k_ => ((P0_2_ k_ ∨ P0_5_ k_) ∨ w.heap.size ≤ k_) ∧ some k_ ≠ (.slice Ao13 t490.length co13 : Value).ownBlock ∧ k_ ≠ gb485)) (by refine sv_ ?_; exact Kd.V_mono HL489_2.out (fun _ hk => ⟨⟨hk.1.1, ⟨hk.2, hk.1.2.2⟩⟩, hk.1.2.1⟩)) hg hat); have n4_ := mk_ (Kd.V_afterv (ok := (fun k_ => ((P0_2_ k_ ∨ P0_5_ k_) ∨ w.heap.size ≤ k_) ∧ some k_ ≠ (.slice Ao13 t490.length co13 : Value).ownBlock ∧ k_ ≠ gb485)) (by refine sv_ ?_; exact Kd.V_mono HL489_5.out (fun _ hk => ⟨⟨hk.1.1, ⟨hk.2, hk.1.2.2⟩⟩, hk.1.2.1⟩)) hg hat); have n5_ := mk_ (Kd.N_afterv (ok := (fun k_ => ((P0_2_ k_ ∨ P0_5_ k_) ∨ w.heap.size ≤ k_) ∧ k_ ≠ gb485)) (by refine sn_ ?_; exact Kd.N_mono HO492.out (fun _ hk => ⟨⟨hk.1, hk.2.2⟩, hk.2.1⟩)) hg hat); have n6_ := mk_ (hb); have n7_ := mk_ (ho); clear HO_486002; clear HO_486005; clear BK485; clear HL489_2; clear HL489_5; clear HO492; clear HB; clear HO_3; have HO_486002 := n0_; have HO_486005 := n1_; have BK485 := n2_; have HL489_2 := n3_; have HL489_5 := n4_; have HO492 := n5_; have HB := n6_; have HO495 := n7_; clear n0_ n1_ n2_ n3_ n4_ n5_ n6_ n7_; clear ho hb hg hat))
      go_roundg k1
      case measure => have := HK1.out; omega
      case rel => exact ⟨(y493), (wrap64 (x4_1 + 1)), fi_, H', ⟨by have := HK1.out; omega⟩, ⟨nq_ HO495⟩, ⟨by refine sv_ ?_; exact Kd.V_mono HO_486002.out (fun _ hk => ⟨hk.1.1, ⟨hk.2, hk.1.2.2⟩⟩)⟩, ⟨by refine sv_ ?_; exact Kd.V_mono HO_486005.out (fun _ hk => ⟨hk.1.1, ⟨hk.2, hk.1.2.2⟩⟩)⟩, ⟨bq_ BK485⟩, ⟨be1_ HB GE485⟩⟩
     ·rw [if_neg c9] at H
      exact absurd H (by simp)
    ·rw [if_neg c7] at H
     exact absurd H (by simp)
   ·rw [if_neg c6] at H
    have c6b0 : decide (x4_1 < (l0_5.length : Int)) = false := decide_eq_false c6
    clear c6
    obtain rfl := Option.some.inj H
    obtain ⟨_, _, _, _, _, _, _, _, _, _, _, _⟩ := hb6_ BK485
    go_wp2
    go_ret
    exact ⟨_, er_, by refine sn_ ?_; exact Kd.N_mono HO_3.out (fun _ hk => hk.1), be1_ HB GE485⟩
end Go.Proofs.YtolpckflofjfhaaDoor.P
