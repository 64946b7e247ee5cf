-- printed by wip/tools/xprint.py
import Derived.Test.YtolpckflofjfhaaDoorPx0
import Derived.Test.YtolpckflofjfhaaDoorPx12
import Derived.Test.YtolpckflofjfhaaDoorPx14
import Derived.Test.YtolpckflofjfhaaDoorPx17
namespace Go.Proofs.YtolpckflofjfhaaDoor.P
open Go.RowKit Go.Proofs.YtolpckflofjfhaaDoorW.PrintWords Go.Proofs.YtolpckflofjfhaaDoorW.PrintLast Go.Proofs.YtolpckflofjfhaaDoorW.PrintMore
attribute [local go_sem] max2_int min2_int max_two min_two max_three min_three max_four min_four
set_option linter.unusedVariables false
set_option maxHeartbeats 8000000
set_option maxRecDepth 100000
set_option linter.unusedSimpArgs false

def pentaglotref22_Valid.j0 : Nat → Int → Int → ByteArray → List (S92) → Int → Int → List (S32) → Option (Bool)
 | 0, _, _, _, _, _, _, _ => none
 | k + 1, x1, x239000, x239001, x239002, x239003, x239004, x239005 => if x1 > 1099511627776 then ((pentaglotref22_Size.f k x239000 x239001 x239002 x239003 x239004 x239005).bind fun t239 => (if t239 ≤ 200 then ((pentaglotref22_Depth.f k x239000 x239001 x239002 x239003 x239004 x239005).bind fun t240 => (if t240 ≤ 32 then ((pentaglotref22_Formed.f k x239000 x239001 x239002 x239003 x239004 x239005 1099511627776).bind fun t241 => (some t241)) else (some false))) else (some false))) else ((pentaglotref22_Size.f k x239000 x239001 x239002 x239003 x239004 x239005).bind fun t242 => (if t242 ≤ 200 then ((pentaglotref22_Depth.f k x239000 x239001 x239002 x239003 x239004 x239005).bind fun t243 => (if t243 ≤ 32 then ((pentaglotref22_Formed.f k x239000 x239001 x239002 x239003 x239004 x239005 x1).bind fun t244 => (some t244)) else (some false))) else (some false)))
def pentaglotref22_Valid.f (k : Nat) (a0_0 : Int) (a0_1 : ByteArray) (l0_2 : List (S92)) (a0_3 : Int) (a0_4 : Int) (l0_5 : List (S32)) (a1 : Int) : Option (Bool) := if a1 < 0 then (pentaglotref22_Valid.j0 k 0 a0_0 a0_1 l0_2 a0_3 a0_4 l0_5) else (pentaglotref22_Valid.j0 k a1 a0_0 a0_1 l0_2 a0_3 a0_4 l0_5)
theorem pentaglotref22_Valid.calls (k : Nat) (a0_0 : Int) (a0_1 : ByteArray) (A0_2 : Option Addr) (c0_2 : Nat) (l0_2 : List (S92)) (a0_3 : Int) (a0_4 : Int) (A0_5 : Option Addr) (c0_5 : Nat) (l0_5 : List (S32)) (a1 : Int) (r : Bool) (w : World) (hr0_2 : Kd.C k92 w A0_2 l0_2.length l0_2) (hc0_2 : l0_2.length ≤ c0_2) (hr0_5 : Kd.C k32 w A0_5 l0_5.length l0_5) (hc0_5 : l0_5.length ≤ c0_5) (h : pentaglotref22_Valid.f k a0_0 a0_1 l0_2 a0_3 a0_4 l0_5 a1 = some r) :
  Calls Tryd.prog 50 #[.agg #[.int .i64 a0_0, .string a0_1, .slice A0_2 l0_2.length c0_2, .int .i64 a0_3, .int .i64 a0_4, .slice A0_5 l0_5.length c0_5], .int .i64 a1] w fun e w' => e = .returned (.bool r) ∧ Below w.heap.size w w' := by
 have hu32 := Tryd.underlying32
 have HR0_2 := mk_ hr0_2
 have HC0_2 := mk_ hc0_2
 clear hr0_2 hc0_2
 have HR0_5 := mk_ hr0_5
 have HC0_5 := mk_ hc0_5
 clear hr0_5 hc0_5
 have HB := mk_ (Below.refl w.heap.size w)
 have H : (if a1 < 0 then (pentaglotref22_Valid.j0 k 0 a0_0 a0_1 l0_2 a0_3 a0_4 l0_5) else (pentaglotref22_Valid.j0 k a1 a0_0 a0_1 l0_2 a0_3 a0_4 l0_5)) = some r := h
 clear h
 have HC3 := mk_ H
 clear H
 go_enter Tryd.func50, Tryd.ntmps50
 go_upto_if 6 with (first | ((with_reducible refine gate_dst (N := 2) rfl ?_); refine bx_ 2 #[.int .i64 a0_0, .string a0_1, .slice A0_2 l0_2.length c0_2, .int .i64 a0_3, .int .i64 a0_4, .slice A0_5 l0_5.length c0_5] 32 ?_; intro gb238 hg w4 hbox hb; have BK238 := mk_ (hbox); have GW238 := mk_ (gs_ hg (be_ HB)); have GE238 := mk_ (gs_ hg (be_ HB)); replace HB := mk_ (below_step (be_ HB) hb); clear hb hbox hg))
 (try simp only [Act.put, List.setIfInBounds_toArray, List.set_cons_zero, List.set_cons_succ])
 go_cut [1] (fun v1 wc => ∃ (kq : Nat) (x1_2 : Int), v1 = .int .i64 x1_2 ∧ Aside0 (pentaglotref22_Valid.j0 kq x1_2 a0_0 a0_1 l0_2 a0_3 a0_4 l0_5 = some r) ∧ Aside0 (kq ≤ k) ∧ Aside0 (wc.heap[gb238]? = some (.cells #[.int .i64 a0_0, .string a0_1, (.slice A0_2 l0_2.length c0_2), .int .i64 a0_3, .int .i64 a0_4, (.slice A0_5 l0_5.length c0_5)] 32 (0, 0))) ∧ Aside0 (Below w.heap.size w wc))
 case first =>
  have H := HC3.out
  clear HC3
  by_cases c5 : a1 < 0
  ·rw [if_pos c5] at H
   have c5b0 : decide (a1 < 0) = true := decide_eq_true c5
   clear c5
   (first | rw [c5b0] | (simp only [i64_w, i32_w]; rw [c5b0]) | skip)
   have H' := mk_ H
   clear H
   go_wp2
   go_meet
   case rel => exact ⟨_, (0), fi_, H', ⟨by first | omega | exact Nat.le_refl _⟩, ⟨bq_ BK238⟩, ⟨be1_ HB GE238⟩⟩
  ·rw [if_neg c5] at H
   have c5b0 : decide (a1 < 0) = false := decide_eq_false c5
   clear c5
   (first | rw [c5b0] | (simp only [i64_w, i32_w]; rw [c5b0]) | skip)
   have H' := mk_ H
   clear H
   go_wp2
   go_meet
   case rel => exact ⟨_, (a1), fi_, H', ⟨by first | omega | exact Nat.le_refl _⟩, ⟨bq_ BK238⟩, ⟨be1_ HB GE238⟩⟩
 case rest =>
  clear HC3
  obtain ⟨kq, x1_2, rfl, HA, HJ2, BK238, HB⟩ := hcut
  cases kq with
  | zero => exact absurd HA.out (by simp [pentaglotref22_Valid.j0])
  | succ kj2 =>
   have H := HA.out
   clear HA
   simp only [pentaglotref22_Valid.j0] at H
   by_cases c6 : x1_2 > 1099511627776
   ·rw [if_pos c6] at H
    have c6b0 : decide (1099511627776 < x1_2) = true := decide_eq_true c6
    clear c6
    replace H := Option.bind_eq_some_iff.mp H
    obtain ⟨t239, A70, H⟩ := H
    replace H : (if t239 ≤ 200 then ((pentaglotref22_Depth.f kj2 a0_0 a0_1 l0_2 a0_3 a0_4 l0_5).bind fun t240 => (if t240 ≤ 32 then ((pentaglotref22_Formed.f kj2 a0_0 a0_1 l0_2 a0_3 a0_4 l0_5 1099511627776).bind fun t241 => (some t241)) else (some false))) else (some false)) = some r := H
    have A7 := mk_ A70
    clear A70
    by_cases c8 : t239 ≤ 200
    ·rw [if_pos c8] at H
     have c8b0 : decide (t239 ≤ 200) = true := decide_eq_true c8
     clear c8
     replace H := Option.bind_eq_some_iff.mp H
     obtain ⟨t240, A90, H⟩ := H
     replace H : (if t240 ≤ 32 then ((pentaglotref22_Formed.f kj2 a0_0 a0_1 l0_2 a0_3 a0_4 l0_5 1099511627776).bind fun t241 => (some t241)) else (some false)) = some r := H
     have A9 := mk_ A90
     clear A90
     by_cases c10 : t240 ≤ 32
     ·rw [if_pos c10] at H
      have c10b0 : decide (t240 ≤ 32) = true := decide_eq_true c10
      clear c10
      replace H := Option.bind_eq_some_iff.mp H
      obtain ⟨t241, A110, H⟩ := H
      replace H : (some t241) = some r := H
      have A11 := mk_ A110
      clear A110
      obtain rfl := Option.some.inj H
      obtain ⟨_, _, _, _, _, _, _, _, _, _, _, _⟩ := hb6_ BK238
      go_wp2_with (first | ((with_reducible refine gate_callee (f := 35) rfl ?_); refine gl_ (some 10) Tryd.func35 #[.agg #[.int .i64 a0_0, .string a0_1, .slice A0_2 l0_2.length c0_2, .int .i64 a0_3, .int .i64 a0_4, .slice A0_5 l0_5.length c0_5]] ?_; (with_reducible refine (pentaglotref22_Size.calls kj2 a0_0 a0_1 _ _ l0_2 a0_3 a0_4 _ _ l0_5 t239 _ ?side1 ?side2 ?side3 ?side4 A7.out).mono ?_); (case side1 => exact cs_ (Kd.C_below HR0_2.out HB.out)); (case side2 => exact HC0_2.out); (case side3 => exact cs_ (Kd.C_below HR0_5.out HB.out)); (case side4 => exact HC0_5.out); rintro e w13 ⟨rfl, hb⟩; refine ⟨_, rfl, ?_⟩; replace BK238 := mk_ (bb_ BK238 hb); replace HB := mk_ (below_step (be1_ HB GE238) hb); (try clear hb); (try clear hb2); (try clear hk); (try clear hi); obtain ⟨_, _, _, _, _, _, _, _, _, _, _, _⟩ := hb6_ BK238) | (go_at_call 62; (with_reducible refine (pentaglotref22_Depth.calls kj2 a0_0 a0_1 _ _ l0_2 a0_3 a0_4 _ _ l0_5 t240 _ ?side1 ?side2 ?side3 ?side4 A9.out).mono ?_); (case side1 => exact cs_ (Kd.C_below HR0_2.out HB.out)); (case side2 => exact HC0_2.out); (case side3 => exact cs_ (Kd.C_below HR0_5.out HB.out)); (case side4 => exact HC0_5.out); rintro e w15 ⟨rfl, hb⟩; replace BK238 := mk_ (bb_ BK238 hb); replace HB := mk_ (below_step (be1_ HB GE238) hb); (try clear hb); (try clear hb2); (try clear hk); (try clear hi); obtain ⟨_, _, _, _, _, _, _, _, _, _, _, _⟩ := hb6_ BK238) | (go_at_call 63; (with_reducible refine (pentaglotref22_Formed.calls kj2 a0_0 a0_1 _ _ l0_2 a0_3 a0_4 _ _ l0_5 1099511627776 t241 _ ?side1 ?side2 ?side3 ?side4 A11.out).mono ?_); (case side1 => exact cs_ (Kd.C_below HR0_2.out HB.out)); (case side2 => exact HC0_2.out); (case side3 => exact cs_ (Kd.C_below HR0_5.out HB.out)); (case side4 => exact HC0_5.out); rintro e w17 ⟨rfl, hb⟩; replace BK238 := mk_ (bb_ BK238 hb); replace HB := mk_ (below_step (be1_ HB GE238) hb); (try clear hb); (try clear hb2); (try clear hk); (try clear hi)))
      go_ret
      exact ⟨er_, be1_ HB GE238⟩
     ·rw [if_neg c10] at H
      have c10b0 : decide (t240 ≤ 32) = false := decide_eq_false c10
      clear c10
      obtain rfl := Option.some.inj H
      obtain ⟨_, _, _, _, _, _, _, _, _, _, _, _⟩ := hb6_ BK238
      go_wp2_with (first | ((with_reducible refine gate_callee (f := 35) rfl ?_); refine gl_ (some 10) Tryd.func35 #[.agg #[.int .i64 a0_0, .string a0_1, .slice A0_2 l0_2.length c0_2, .int .i64 a0_3, .int .i64 a0_4, .slice A0_5 l0_5.length c0_5]] ?_; (with_reducible refine (pentaglotref22_Size.calls kj2 a0_0 a0_1 _ _ l0_2 a0_3 a0_4 _ _ l0_5 t239 _ ?side1 ?side2 ?side3 ?side4 A7.out).mono ?_); (case side1 => exact cs_ (Kd.C_below HR0_2.out HB.out)); (case side2 => exact HC0_2.out); (case side3 => exact cs_ (Kd.C_below HR0_5.out HB.out)); (case side4 => exact HC0_5.out); rintro e w19 ⟨rfl, hb⟩; refine ⟨_, rfl, ?_⟩; replace BK238 := mk_ (bb_ BK238 hb); replace HB := mk_ (below_step (be1_ HB GE238) hb); (try clear hb); (try clear hb2); (try clear hk); (try clear hi); obtain ⟨_, _, _, _, _, _, _, _, _, _, _, _⟩ := hb6_ BK238) | (go_at_call 62; (with_reducible refine (pentaglotref22_Depth.calls kj2 a0_0 a0_1 _ _ l0_2 a0_3 a0_4 _ _ l0_5 t240 _ ?side1 ?side2 ?side3 ?side4 A9.out).mono ?_); (case side1 => exact cs_ (Kd.C_below HR0_2.out HB.out)); (case side2 => exact HC0_2.out); (case side3 => exact cs_ (Kd.C_below HR0_5.out HB.out)); (case side4 => exact HC0_5.out); rintro e w21 ⟨rfl, hb⟩; replace BK238 := mk_ (bb_ BK238 hb); replace HB := mk_ (below_step (be1_ HB GE238) hb); (try clear hb); (try clear hb2); (try clear hk); (try clear hi)))
      go_ret
      exact ⟨er_, be1_ HB GE238⟩
    ·rw [if_neg c8] at H
     have c8b0 : decide (t239 ≤ 200) = false := decide_eq_false c8
     clear c8
     obtain rfl := Option.some.inj H
     obtain ⟨_, _, _, _, _, _, _, _, _, _, _, _⟩ := hb6_ BK238
     go_wp2_with (first | ((with_reducible refine gate_callee (f := 35) rfl ?_); refine gl_ (some 10) Tryd.func35 #[.agg #[.int .i64 a0_0, .string a0_1, .slice A0_2 l0_2.length c0_2, .int .i64 a0_3, .int .i64 a0_4, .slice A0_5 l0_5.length c0_5]] ?_; (with_reducible refine (pentaglotref22_Size.calls kj2 a0_0 a0_1 _ _ l0_2 a0_3 a0_4 _ _ l0_5 t239 _ ?side1 ?side2 ?side3 ?side4 A7.out).mono ?_); (case side1 => exact cs_ (Kd.C_below HR0_2.out HB.out)); (case side2 => exact HC0_2.out); (case side3 => exact cs_ (Kd.C_below HR0_5.out HB.out)); (case side4 => exact HC0_5.out); rintro e w23 ⟨rfl, hb⟩; refine ⟨_, rfl, ?_⟩; replace BK238 := mk_ (bb_ BK238 hb); replace HB := mk_ (below_step (be1_ HB GE238) hb); (try clear hb); (try clear hb2); (try clear hk); (try clear hi)))
     go_ret
     exact ⟨er_, be1_ HB GE238⟩
   ·rw [if_neg c6] at H
    have c6b0 : decide (1099511627776 < x1_2) = false := decide_eq_false c6
    clear c6
    replace H := Option.bind_eq_some_iff.mp H
    obtain ⟨t242, A240, H⟩ := H
    replace H : (if t242 ≤ 200 then ((pentaglotref22_Depth.f kj2 a0_0 a0_1 l0_2 a0_3 a0_4 l0_5).bind fun t243 => (if t243 ≤ 32 then ((pentaglotref22_Formed.f kj2 a0_0 a0_1 l0_2 a0_3 a0_4 l0_5 x1_2).bind fun t244 => (some t244)) else (some false))) else (some false)) = some r := H
    have A24 := mk_ A240
    clear A240
    by_cases c25 : t242 ≤ 200
    ·rw [if_pos c25] at H
     have c25b0 : decide (t242 ≤ 200) = true := decide_eq_true c25
     clear c25
     replace H := Option.bind_eq_some_iff.mp H
     obtain ⟨t243, A260, H⟩ := H
     replace H : (if t243 ≤ 32 then ((pentaglotref22_Formed.f kj2 a0_0 a0_1 l0_2 a0_3 a0_4 l0_5 x1_2).bind fun t244 => (some t244)) else (some false)) = some r := H
     have A26 := mk_ A260
     clear A260
     by_cases c27 : t243 ≤ 32
     ·rw [if_pos c27] at H
      have c27b0 : decide (t243 ≤ 32) = true := decide_eq_true c27
      clear c27
      replace H := Option.bind_eq_some_iff.mp H
      obtain ⟨t244, A280, H⟩ := H
      replace H : (some t244) = some r := H
      have A28 := mk_ A280
      clear A280
      obtain rfl := Option.some.inj H
      obtain ⟨_, _, _, _, _, _, _, _, _, _, _, _⟩ := hb6_ BK238
      go_wp2_with (first | ((with_reducible refine gate_callee (f := 35) rfl ?_); refine gl_ (some 10) Tryd.func35 #[.agg #[.int .i64 a0_0, .string a0_1, .slice A0_2 l0_2.length c0_2, .int .i64 a0_3, .int .i64 a0_4, .slice A0_5 l0_5.length c0_5]] ?_; (with_reducible refine (pentaglotref22_Size.calls kj2 a0_0 a0_1 _ _ l0_2 a0_3 a0_4 _ _ l0_5 t242 _ ?side1 ?side2 ?side3 ?side4 A24.out).mono ?_); (case side1 => exact cs_ (Kd.C_below HR0_2.out HB.out)); (case side2 => exact HC0_2.out); (case side3 => exact cs_ (Kd.C_below HR0_5.out HB.out)); (case side4 => exact HC0_5.out); rintro e w30 ⟨rfl, hb⟩; refine ⟨_, rfl, ?_⟩; replace BK238 := mk_ (bb_ BK238 hb); replace HB := mk_ (below_step (be1_ HB GE238) hb); (try clear hb); (try clear hb2); (try clear hk); (try clear hi); obtain ⟨_, _, _, _, _, _, _, _, _, _, _, _⟩ := hb6_ BK238) | (go_at_call 62; (with_reducible refine (pentaglotref22_Depth.calls kj2 a0_0 a0_1 _ _ l0_2 a0_3 a0_4 _ _ l0_5 t243 _ ?side1 ?side2 ?side3 ?side4 A26.out).mono ?_); (case side1 => exact cs_ (Kd.C_below HR0_2.out HB.out)); (case side2 => exact HC0_2.out); (case side3 => exact cs_ (Kd.C_below HR0_5.out HB.out)); (case side4 => exact HC0_5.out); rintro e w32 ⟨rfl, hb⟩; replace BK238 := mk_ (bb_ BK238 hb); replace HB := mk_ (below_step (be1_ HB GE238) hb); (try clear hb); (try clear hb2); (try clear hk); (try clear hi); obtain ⟨_, _, _, _, _, _, _, _, _, _, _, _⟩ := hb6_ BK238) | (go_at_call 63; (with_reducible refine (pentaglotref22_Formed.calls kj2 a0_0 a0_1 _ _ l0_2 a0_3 a0_4 _ _ l0_5 x1_2 t244 _ ?side1 ?side2 ?side3 ?side4 A28.out).mono ?_); (case side1 => exact cs_ (Kd.C_below HR0_2.out HB.out)); (case side2 => exact HC0_2.out); (case side3 => exact cs_ (Kd.C_below HR0_5.out HB.out)); (case side4 => exact HC0_5.out); rintro e w34 ⟨rfl, hb⟩; replace BK238 := mk_ (bb_ BK238 hb); replace HB := mk_ (below_step (be1_ HB GE238) hb); (try clear hb); (try clear hb2); (try clear hk); (try clear hi)))
      go_ret
      exact ⟨er_, be1_ HB GE238⟩
     ·rw [if_neg c27] at H
      have c27b0 : decide (t243 ≤ 32) = false := decide_eq_false c27
      clear c27
      obtain rfl := Option.some.inj H
      obtain ⟨_, _, _, _, _, _, _, _, _, _, _, _⟩ := hb6_ BK238
      go_wp2_with (first | ((with_reducible refine gate_callee (f := 35) rfl ?_); refine gl_ (some 10) Tryd.func35 #[.agg #[.int .i64 a0_0, .string a0_1, .slice A0_2 l0_2.length c0_2, .int .i64 a0_3, .int .i64 a0_4, .slice A0_5 l0_5.length c0_5]] ?_; (with_reducible refine (pentaglotref22_Size.calls kj2 a0_0 a0_1 _ _ l0_2 a0_3 a0_4 _ _ l0_5 t242 _ ?side1 ?side2 ?side3 ?side4 A24.out).mono ?_); (case side1 => exact cs_ (Kd.C_below HR0_2.out HB.out)); (case side2 => exact HC0_2.out); (case side3 => exact cs_ (Kd.C_below HR0_5.out HB.out)); (case side4 => exact HC0_5.out); rintro e w36 ⟨rfl, hb⟩; refine ⟨_, rfl, ?_⟩; replace BK238 := mk_ (bb_ BK238 hb); replace HB := mk_ (below_step (be1_ HB GE238) hb); (try clear hb); (try clear hb2); (try clear hk); (try clear hi); obtain ⟨_, _, _, _, _, _, _, _, _, _, _, _⟩ := hb6_ BK238) | (go_at_call 62; (with_reducible refine (pentaglotref22_Depth.calls kj2 a0_0 a0_1 _ _ l0_2 a0_3 a0_4 _ _ l0_5 t243 _ ?side1 ?side2 ?side3 ?side4 A26.out).mono ?_); (case side1 => exact cs_ (Kd.C_below HR0_2.out HB.out)); (case side2 => exact HC0_2.out); (case side3 => exact cs_ (Kd.C_below HR0_5.out HB.out)); (case side4 => exact HC0_5.out); rintro e w38 ⟨rfl, hb⟩; replace BK238 := mk_ (bb_ BK238 hb); replace HB := mk_ (below_step (be1_ HB GE238) hb); (try clear hb); (try clear hb2); (try clear hk); (try clear hi)))
      go_ret
      exact ⟨er_, be1_ HB GE238⟩
    ·rw [if_neg c25] at H
     have c25b0 : decide (t242 ≤ 200) = false := decide_eq_false c25
     clear c25
     obtain rfl := Option.some.inj H
     obtain ⟨_, _, _, _, _, _, _, _, _, _, _, _⟩ := hb6_ BK238
     go_wp2_with (first | ((with_reducible refine gate_callee (f := 35) rfl ?_); refine gl_ (some 10) Tryd.func35 #[.agg #[.int .i64 a0_0, .string a0_1, .slice A0_2 l0_2.length c0_2, .int .i64 a0_3, .int .i64 a0_4, .slice A0_5 l0_5.length c0_5]] ?_; (with_reducible refine (pentaglotref22_Size.calls kj2 a0_0 a0_1 _ _ l0_2 a0_3 a0_4 _ _ l0_5 t242 _ ?side1 ?side2 ?side3 ?side4 A24.out).mono ?_); (case side1 => exact cs_ (Kd.C_below HR0_2.out HB.out)); (case side2 => exact HC0_2.out); (case side3 => exact cs_ (Kd.C_below HR0_5.out HB.out)); (case side4 => exact HC0_5.out); rintro e w40 ⟨rfl, hb⟩; refine ⟨_, rfl, ?_⟩; replace BK238 := mk_ (bb_ BK238 hb); replace HB := mk_ (below_step (be1_ HB GE238) hb); (try clear hb); (try clear hb2); (try clear hk); (try clear hi)))
     go_ret
     exact ⟨er_, be1_ HB GE238⟩

def pentaglotref26_Last.f (l0_0 : List (S73)) (l0_1 : List Int) (a0_2 : Int) : Option (Int) := some (wrap64 (2 * (l0_1.length : Int)))
theorem pentaglotref26_Last.calls (A0_0 : Option Addr) (c0_0 : Nat) (l0_0 : List (S73)) (A0_1 : Option Addr) (c0_1 : Nat) (l0_1 : List Int) (a0_2 : Int) (r : Int) (w : World) (hr0_0 : Kd.C k73 w A0_0 l0_0.length l0_0) (hc0_0 : l0_0.length ≤ c0_0) (hr0_1 : Kd.C (Kd.int .i64) w A0_1 l0_1.length l0_1) (hc0_1 : l0_1.length ≤ c0_1) (h : pentaglotref26_Last.f l0_0 l0_1 a0_2 = some r) :
  Calls Tryd.prog 19 #[.agg #[.slice A0_0 l0_0.length c0_0, .slice A0_1 l0_1.length c0_1, .int .i64 a0_2]] w fun e w' => e = .returned (.int .i64 r) ∧ Below w.heap.size w w' := by
 have hu25 := Tryd.underlying25
 have HR0_0 := mk_ hr0_0
 have HC0_0 := mk_ hc0_0
 clear hr0_0 hc0_0
 have HR0_1 := mk_ hr0_1
 have HC0_1 := mk_ hc0_1
 clear hr0_1 hc0_1
 have HB := mk_ (Below.refl w.heap.size w)
 have H : (some (wrap64 (2 * (l0_1.length : Int)))) = some r := h
 clear h
 obtain rfl := Option.some.inj H
 go_enter Tryd.func19, Tryd.ntmps19
 go_wp2_with (first | ((with_reducible refine gate_dst (N := 1) rfl ?_); refine bx_ 1 #[.slice A0_0 l0_0.length c0_0, .slice A0_1 l0_1.length c0_1, .int .i64 a0_2] 25 ?_; intro gb245 hg w2 hbox hb; have BK245 := mk_ (hbox); have GW245 := mk_ (gs_ hg (be_ HB)); have GE245 := mk_ (gs_ hg (be_ HB)); replace HB := mk_ (below_step (be_ HB) hb); clear hb hbox hg; obtain ⟨_, _, _, _, _, _⟩ := hb3_ BK245))
 go_ret
 exact ⟨er_, be1_ HB GE245⟩

def pentaglotref26_place.l0 : Nat → Int → Int → List (S73) → List Int → Int → Option (Int)
 | 0, _, _, _, _, _ => none
 | k + 1, x1, x5, x247000, x247001, x247002 => if x5 < (x247001.length : Int) then (if 0 ≤ x5 then (if (rd x247001 x5) = x1 then (some (wrap64 ((wrap64 (2 * x5)) + 1))) else (pentaglotref26_place.l0 k x1 (wrap64 (x5 + 1)) x247000 x247001 x247002)) else (none)) else (some (-1))
def pentaglotref26_place.f (k : Nat) (l0_0 : List (S73)) (l0_1 : List Int) (a0_2 : Int) (a1 : Int) : Option (Int) := pentaglotref26_place.l0 k a1 0 l0_0 l0_1 a0_2
theorem pentaglotref26_place.calls (k : Nat) (A0_0 : Option Addr) (c0_0 : Nat) (l0_0 : List (S73)) (A0_1 : Option Addr) (c0_1 : Nat) (l0_1 : List Int) (a0_2 : Int) (a1 : Int) (r : Int) (w : World) (hr0_0 : Kd.C k73 w A0_0 l0_0.length l0_0) (hc0_0 : l0_0.length ≤ c0_0) (hr0_1 : Kd.C (Kd.int .i64) w A0_1 l0_1.length l0_1) (hc0_1 : l0_1.length ≤ c0_1) (h : pentaglotref26_place.f k l0_0 l0_1 a0_2 a1 = some r) :
  Calls Tryd.prog 46 #[.agg #[.slice A0_0 l0_0.length c0_0, .slice A0_1 l0_1.length c0_1, .int .i64 a0_2], .int .i64 a1] w fun e w' => e = .returned (.int .i64 r) ∧ Below w.heap.size w w' := by
 have hu25 := Tryd.underlying25
 have HR0_0 := mk_ hr0_0
 have HC0_0 := mk_ hc0_0
 clear hr0_0 hc0_0
 have HR0_1 := mk_ hr0_1
 have HC0_1 := mk_ hc0_1
 clear hr0_1 hc0_1
 have HB := mk_ (Below.refl w.heap.size w)
 have H : (pentaglotref26_place.l0 k a1 0 l0_0 l0_1 a0_2) = some r := h
 clear h
 have H' := mk_ H
 clear H
 go_enter Tryd.func46, Tryd.ntmps46
 go_wp2_with (first | ((with_reducible refine gate_dst (N := 2) rfl ?_); refine bx_ 2 #[.slice A0_0 l0_0.length c0_0, .slice A0_1 l0_1.length c0_1, .int .i64 a0_2] 25 ?_; intro gb246 hg w3 hbox hb; have BK246 := mk_ (hbox); have GW246 := mk_ (gs_ hg (be_ HB)); have GE246 := mk_ (gs_ hg (be_ HB)); replace HB := mk_ (below_step (be_ HB) hb); clear hb hbox hg))
 go_loopg [5] k (fun kq v5 w' => ∃ (x5_1 : Int), v5 = .int .i64 x5_1 ∧ Aside0 (pentaglotref26_place.l0 kq a1 x5_1 l0_0 l0_1 a0_2 = some r) ∧ Aside0 (kq ≤ k) ∧ Aside0 (w'.heap[gb246]? = some (.cells #[(.slice A0_0 l0_0.length c0_0), (.slice A0_1 l0_1.length c0_1), .int .i64 a0_2] 25 (0, 0))) ∧ Aside0 (Below w.heap.size w w'))
 case atStart => exact ⟨(0), fi_, H', ⟨Nat.le_refl _⟩, ⟨bq_ BK246⟩, ⟨be1_ HB GE246⟩⟩
 case round =>
  clear H'
  obtain ⟨x5_1, rfl, HA, HK1, BK246, HB⟩ := hrel
  cases gk with
  | zero => exact absurd HA.out (by simp [pentaglotref26_place.l0])
  | succ k1 =>
   have H := HA.out
   clear HA
   simp only [pentaglotref26_place.l0] at H
   by_cases c4 : x5_1 < (l0_1.length : Int)
   ·rw [if_pos c4] at H
    have c4b0 : decide (x5_1 < (l0_1.length : Int)) = true := decide_eq_true c4
    clear c4
    by_cases c5 : 0 ≤ x5_1
    ·rw [if_pos c5] at H
     have c5b0 : decide (0 ≤ x5_1) = true := decide_eq_true c5
     clear c5
     by_cases c6 : (rd l0_1 x5_1) = a1
     ·rw [if_pos c6] at H
      obtain ⟨c6b0, c6b1⟩ := eb_ c6
      clear c6
      obtain rfl := Option.some.inj H
      obtain ⟨_, _, _, _, _, _⟩ := hb3_ BK246
      have p247 : 0 ≤ (x5_1 : Int) := of_decide_eq_true (by first | (with_reducible assumption) | assumption)
      have q247 : x5_1 < (l0_1.length : Int) := of_decide_eq_true (by first | (with_reducible assumption) | assumption)
      obtain ⟨ad247, e247, hx247_0⟩ := Kd.at_int HR0_1.out x5_1 p247 q247
      cases e247
      replace hx247_0 := cb_ HB hx247_0
      replace p247 := eq_true p247
      replace q247 := eq_true q247
      go_wp2
      go_ret
      exact ⟨er_, be1_ HB GE246⟩
     ·rw [if_neg c6] at H
      obtain ⟨c6b0, c6b1⟩ := en_ c6
      have H' := mk_ H
      clear H
      obtain ⟨_, _, _, _, _, _⟩ := hb3_ BK246
      have p247 : 0 ≤ (x5_1 : Int) := of_decide_eq_true (by first | (with_reducible assumption) | assumption)
      have q247 : x5_1 < (l0_1.length : Int) := of_decide_eq_true (by first | (with_reducible assumption) | assumption)
      obtain ⟨ad247, e247, hx247_0⟩ := Kd.at_int HR0_1.out x5_1 p247 q247
      cases e247
      replace hx247_0 := cb_ HB hx247_0
      replace p247 := eq_true p247
      replace q247 := eq_true q247
      go_wp2
      go_roundg k1
      case measure => have := HK1.out; omega
      case rel => exact ⟨(wrap64 (x5_1 + 1)), fi_, H', ⟨by have := HK1.out; omega⟩, ⟨bq_ BK246⟩, ⟨be1_ HB GE246⟩⟩
    ·rw [if_neg c5] at H
     exact absurd H (by simp)
   ·rw [if_neg c4] at H
    have c4b0 : decide (x5_1 < (l0_1.length : Int)) = false := decide_eq_false c4
    clear c4
    obtain rfl := Option.some.inj H
    obtain ⟨_, _, _, _, _, _⟩ := hb3_ BK246
    go_wp2
    go_ret
    exact ⟨er_, be1_ HB GE246⟩

end Go.Proofs.YtolpckflofjfhaaDoor.P
