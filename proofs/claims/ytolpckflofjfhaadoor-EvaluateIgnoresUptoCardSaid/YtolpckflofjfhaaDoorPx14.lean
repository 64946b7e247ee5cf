-- printed by wip/tools/xprint.py
import Derived.Test.YtolpckflofjfhaaDoorPx0
namespace Go.Proofs.YtolpckflofjfhaaDoor.P
open Go.RowKit Go.Proofs.YtolpckflofjfhaaDoorW.PrintWords Go.Proofs.YtolpckflofjfhaaDoorW.PrintLast Go.Proofs.YtolpckflofjfhaaDoorW.PrintMore
attribute [local go_sem] max2_int min2_int max_two min_two max_three min_three max_four min_four
set_option linter.unusedVariables false
set_option maxHeartbeats 8000000
set_option maxRecDepth 100000
set_option linter.unusedSimpArgs false

mutual
def pentaglotref22_Depth.l0 : Nat → Int → Int → Int → ByteArray → List (S92) → Int → Int → List (S32) → Option (Int)
 | 0, _, _, _, _, _, _, _, _ => none
 | k + 1, x3, x4, x216000, x216001, x216002, x216003, x216004, x216005 => if x4 < (x216005.length : Int) then (if 0 ≤ x4 then ((pentaglotref22_Depth.f k ((rd_T32 x216005 x4).f0) ((rd_T32 x216005 x4).f1) ((rd_T32 x216005 x4).f2) ((rd_T32 x216005 x4).f3) ((rd_T32 x216005 x4).f4) ((rd_T32 x216005 x4).f5)).bind fun t217 => (pentaglotref22_Depth.l0 k (mx x3 t217) (wrap64 (x4 + 1)) x216000 x216001 x216002 x216003 x216004 x216005)) else (none)) else (some (wrap64 (x3 + 1)))
def pentaglotref22_Depth.f : Nat → Int → ByteArray → List (S92) → Int → Int → List (S32) → Option (Int)
 | 0, _, _, _, _, _, _ => none
 | k + 1, a0_0, a0_1, l0_2, a0_3, a0_4, l0_5 => pentaglotref22_Depth.l0 k 0 0 a0_0 a0_1 l0_2 a0_3 a0_4 l0_5
end
theorem pentaglotref22_Depth.calls (k : Nat) : ∀ (a0_0 : Int) (a0_1 : ByteArray) (A0_2 : Option Addr) (c0_2 : Nat) (l0_2 : List (S92)) (a0_3 : Int) (a0_4 : Int) (A0_5 : Option Addr) (c0_5 : Nat) (l0_5 : List (S32)) (r : Int) (w : World) (hr0_2 : Kd.C k92 w A0_2 l0_2.length l0_2) (hc0_2 : l0_2.length ≤ c0_2) (hr0_5 : Kd.C k32 w A0_5 l0_5.length l0_5) (hc0_5 : l0_5.length ≤ c0_5) (h : pentaglotref22_Depth.f k a0_0 a0_1 l0_2 a0_3 a0_4 l0_5 = some r),
  Calls Tryd.prog 62 #[.agg #[.int .i64 a0_0, .string a0_1, .slice A0_2 l0_2.length c0_2, .int .i64 a0_3, .int .i64 a0_4, .slice A0_5 l0_5.length c0_5]] w fun e w' => e = .returned (.int .i64 r) ∧ Below w.heap.size w w' := by
 induction k using Nat.strongRecOn with
 | _ k ih =>
 intro a0_0 a0_1 A0_2 c0_2 l0_2 a0_3 a0_4 A0_5 c0_5 l0_5 r w hr0_2 hc0_2 hr0_5 hc0_5 h
 cases k with
 | zero => exact absurd h (by simp [pentaglotref22_Depth.f])
 | succ k =>
 simp only [pentaglotref22_Depth.f] at h
 have hu32 := Tryd.underlying32
 have HR0_2 := mk_ hr0_2
 have HC0_2 := mk_ hc0_2
 clear hr0_2 hc0_2
 have HR0_5 := mk_ hr0_5
 have HC0_5 := mk_ hc0_5
 clear hr0_5 hc0_5
 have HB := mk_ (Below.refl w.heap.size w)
 have H : (pentaglotref22_Depth.l0 k 0 0 a0_0 a0_1 l0_2 a0_3 a0_4 l0_5) = some r := h
 clear h
 have H' := mk_ H
 clear H
 go_enter Tryd.func62, Tryd.ntmps62
 go_wp2_with (first | ((with_reducible refine gate_dst (N := 1) rfl ?_); refine bx_ 1 #[.int .i64 a0_0, .string a0_1, .slice A0_2 l0_2.length c0_2, .int .i64 a0_3, .int .i64 a0_4, .slice A0_5 l0_5.length c0_5] 32 ?_; intro gb215 hg w2 hbox hb; have BK215 := mk_ (hbox); have GW215 := mk_ (gs_ hg (be_ HB)); have GE215 := mk_ (gs_ hg (be_ HB)); replace HB := mk_ (below_step (be_ HB) hb); clear hb hbox hg))
 go_loopg [3, 4] k (fun kq v3 v4 w' => ∃ (x3_1 : Int) (x4_1 : Int), v3 = .int .i64 x3_1 ∧ v4 = .int .i64 x4_1 ∧ Aside0 (pentaglotref22_Depth.l0 kq x3_1 x4_1 a0_0 a0_1 l0_2 a0_3 a0_4 l0_5 = some r) ∧ Aside0 (kq ≤ k) ∧ Aside0 (w'.heap[gb215]? = some (.cells #[.int .i64 a0_0, .string a0_1, (.slice A0_2 l0_2.length c0_2), .int .i64 a0_3, .int .i64 a0_4, (.slice A0_5 l0_5.length c0_5)] 32 (0, 0))) ∧ Aside0 (Below w.heap.size w w'))
 case atStart => exact ⟨(0), (0), fi_, fi_, H', ⟨Nat.le_refl _⟩, ⟨bq_ BK215⟩, ⟨be1_ HB GE215⟩⟩
 case round =>
  clear H'
  obtain ⟨x3_1, x4_1, rfl, rfl, HA, HK1, BK215, HB⟩ := hrel
  cases gk with
  | zero => exact absurd HA.out (by simp [pentaglotref22_Depth.l0])
  | succ k1 =>
   have H := HA.out
   clear HA
   simp only [pentaglotref22_Depth.l0] at H
   by_cases c3 : x4_1 < (l0_5.length : Int)
   ·rw [if_pos c3] at H
    have c3b0 : decide (x4_1 < (l0_5.length : Int)) = true := decide_eq_true c3
    clear c3
    by_cases c4 : 0 ≤ x4_1
    ·rw [if_pos c4] at H
     have c4b0 : decide (0 ≤ x4_1) = true := decide_eq_true c4
     clear c4
     replace H := Option.bind_eq_some_iff.mp H
     obtain ⟨t217, A50, H⟩ := H
     replace H : (pentaglotref22_Depth.l0 k1 (mx x3_1 t217) (wrap64 (x4_1 + 1)) a0_0 a0_1 l0_2 a0_3 a0_4 l0_5) = some r := H
     have A5 := mk_ A50
     clear A50
     obtain ⟨ji6, hji6⟩ : ∃ j_ : Int, (mx x3_1 t217) = j_ := ⟨_, rfl⟩
     replace H : (pentaglotref22_Depth.l0 k1 ji6 (wrap64 (x4_1 + 1)) a0_0 a0_1 l0_2 a0_3 a0_4 l0_5) = some r := by first | (rw [hji6] at H; exact H) | (simp only [hji6] at H ⊢; exact H)
     (try rw [hji6] at A5)
     have hji6_ : (if x3_1 < t217 then t217 else x3_1) = ji6 := hji6
     have H' := mk_ H
     clear H
     obtain ⟨_, _, _, _, _, _, _, _, _, _, _, _⟩ := hb6_ BK215
     have p216 : 0 ≤ (x4_1 : Int) := of_decide_eq_true (by first | (with_reducible assumption) | assumption)
     have q216 : x4_1 < (l0_5.length : Int) := of_decide_eq_true (by first | (with_reducible assumption) | assumption)
     obtain ⟨ad216, A216_2, c216_2, A216_5, c216_5, e216, hx216_0, hx216_1, hx216_2, hx216_3, hx216_4, hx216_5, hl216_2, hi216_2, hl216_5, hi216_5⟩ := at_T32 HR0_5.out x4_1 p216 q216
     cases e216
     replace hx216_0 := cb_ HB hx216_0
     replace hx216_1 := cb_ HB hx216_1
     replace hx216_2 := cb_ HB hx216_2
     replace hx216_3 := cb_ HB hx216_3
     replace hx216_4 := cb_ HB hx216_4
     replace hx216_5 := cb_ HB hx216_5
     have HR216_2 := mk_ hi216_2
     have HC216_2 := mk_ hl216_2
     clear hi216_2 hl216_2
     have HR216_5 := mk_ hi216_5
     have HC216_5 := mk_ hl216_5
     clear hi216_5 hl216_5
     replace p216 := eq_true p216
     replace q216 := eq_true q216
     go_wp2_with (first | ((with_reducible refine gate_callee (f := 62) rfl ?_); refine gl_ (some 18) Tryd.func62 #[.agg #[.int .i64 ((rd_T32 l0_5 x4_1).f0), .string ((rd_T32 l0_5 x4_1).f1), .slice A216_2 ((rd_T32 l0_5 x4_1).f2).length c216_2, .int .i64 ((rd_T32 l0_5 x4_1).f3), .int .i64 ((rd_T32 l0_5 x4_1).f4), .slice A216_5 ((rd_T32 l0_5 x4_1).f5).length c216_5]] ?_; (with_reducible refine (ih k1 (by have := HK1.out; omega) ((rd_T32 l0_5 x4_1).f0) ((rd_T32 l0_5 x4_1).f1) _ _ ((rd_T32 l0_5 x4_1).f2) ((rd_T32 l0_5 x4_1).f3) ((rd_T32 l0_5 x4_1).f4) _ _ ((rd_T32 l0_5 x4_1).f5) t217 _ ?side1 ?side2 ?side3 ?side4 A5.out).mono ?_); (case side1 => exact cs_ (Kd.C_below HR216_2.out HB.out)); (case side2 => exact HC216_2.out); (case side3 => exact cs_ (Kd.C_below HR216_5.out HB.out)); (case side4 => exact HC216_5.out); rintro e w8 ⟨rfl, hb⟩; refine ⟨_, rfl, ?_⟩; replace BK215 := mk_ (bb_ BK215 hb); replace HB := mk_ (below_step (be1_ HB GE215) hb); (try clear hb); (try clear hb2); (try clear hk); (try clear hi)))
     go_roundg k1
     case measure => have := HK1.out; omega
     case rel => exact ⟨(ji6), (wrap64 (x4_1 + 1)), (by first | rfl | (simp; done) | (simp only [← hji6] <;> (first | rfl | simp)) | (simp [*]; done)), fi_, H', ⟨by have := HK1.out; omega⟩, ⟨bq_ BK215⟩, ⟨be1_ HB GE215⟩⟩
    ·rw [if_neg c4] at H
     exact absurd H (by simp)
   ·rw [if_neg c3] at H
    have c3b0 : decide (x4_1 < (l0_5.length : Int)) = false := decide_eq_false c3
    clear c3
    obtain rfl := Option.some.inj H
    obtain ⟨_, _, _, _, _, _, _, _, _, _, _, _⟩ := hb6_ BK215
    go_wp2
    go_ret
    exact ⟨er_, be1_ HB GE215⟩

def pentaglotref22_Binds.f (a0 : Int) : Option (Bool) := if a0 = 8 then (some true) else (some (a0 == 9))
theorem pentaglotref22_Binds.calls (a0 : Int) (r : Bool) (w : World) (h : pentaglotref22_Binds.f a0 = some r) :
  Calls Tryd.prog 28 #[.int .i64 a0] w fun e w' => e = .returned (.bool r) ∧ Drawn0 w w' := by
 have H : (if a0 = 8 then (some true) else (some (a0 == 9))) = some r := h
 clear h
 by_cases c2 : a0 = 8
 ·rw [if_pos c2] at H
  obtain ⟨c2b0, c2b1⟩ := eb_ c2
  clear c2
  obtain rfl := Option.some.inj H
  go_enter Tryd.func28, Tryd.ntmps28
  go_wp2
  go_ret
  exact ⟨by first | rfl | (simp [pw_isEmpty]; done) | (simp; done) | (simp [*]; done), by repeat (first | exact Drawn0.refl _ | apply Drawn0.step)⟩
 ·rw [if_neg c2] at H
  obtain ⟨c2b0, c2b1⟩ := en_ c2
  obtain rfl := Option.some.inj H
  go_enter Tryd.func28, Tryd.ntmps28
  go_wp2
  go_ret
  exact ⟨by first | rfl | (simp [pw_isEmpty]; done) | (simp; done) | (simp [*]; done), by repeat (first | exact Drawn0.refl _ | apply Drawn0.step)⟩

def pentaglotref22_inside.f (a0_0 : Int) (a0_1 : ByteArray) (l0_2 : List (S92)) (a0_3 : Int) (a0_4 : Int) (l0_5 : List (S32)) (a1 : Int) : Option (Int) := (pentaglotref22_Binds.f a0_0).bind fun t219 => (if t219 = true then (some (wrap64 (a1 + 1))) else (some a1))
theorem pentaglotref22_inside.calls (a0_0 : Int) (a0_1 : ByteArray) (A0_2 : Option Addr) (c0_2 : Nat) (l0_2 : List (S92)) (a0_3 : Int) (a0_4 : Int) (A0_5 : Option Addr) (c0_5 : Nat) (l0_5 : List (S32)) (a1 : Int) (r : Int) (w : World) (hr0_2 : Kd.C k92 w A0_2 l0_2.length l0_2) (hc0_2 : l0_2.length ≤ c0_2) (hr0_5 : Kd.C k32 w A0_5 l0_5.length l0_5) (hc0_5 : l0_5.length ≤ c0_5) (h : pentaglotref22_inside.f a0_0 a0_1 l0_2 a0_3 a0_4 l0_5 a1 = some r) :
  Calls Tryd.prog 70 #[.agg #[.int .i64 a0_0, .string a0_1, .slice A0_2 l0_2.length c0_2, .int .i64 a0_3, .int .i64 a0_4, .slice A0_5 l0_5.length c0_5], .int .i64 a1] w fun e w' => e = .returned (.int .i64 r) ∧ Below w.heap.size w w' := by
 have hu32 := Tryd.underlying32
 have HR0_2 := mk_ hr0_2
 have HC0_2 := mk_ hc0_2
 clear hr0_2 hc0_2
 have HR0_5 := mk_ hr0_5
 have HC0_5 := mk_ hc0_5
 clear hr0_5 hc0_5
 have HB := mk_ (Below.refl w.heap.size w)
 have H : ((pentaglotref22_Binds.f a0_0).bind fun t219 => (if t219 = true then (some (wrap64 (a1 + 1))) else (some a1))) = some r := h
 clear h
 replace H := Option.bind_eq_some_iff.mp H
 obtain ⟨t219, A30, H⟩ := H
 replace H : (if t219 = true then (some (wrap64 (a1 + 1))) else (some a1)) = some r := H
 have A3 := mk_ A30
 clear A30
 by_cases c4 : t219 = true
 ·subst c4
  rw [if_pos rfl] at H
  obtain rfl := Option.some.inj H
  go_enter Tryd.func70, Tryd.ntmps70
  go_wp2_with (first | ((with_reducible refine gate_dst (N := 2) rfl ?_); refine bx_ 2 #[.int .i64 a0_0, .string a0_1, .slice A0_2 l0_2.length c0_2, .int .i64 a0_3, .int .i64 a0_4, .slice A0_5 l0_5.length c0_5] 32 ?_; intro gb218 hg w5 hbox hb; have BK218 := mk_ (hbox); have GW218 := mk_ (gs_ hg (be_ HB)); have GE218 := mk_ (gs_ hg (be_ HB)); replace HB := mk_ (below_step (be_ HB) hb); clear hb hbox hg; obtain ⟨_, _, _, _, _, _, _, _, _, _, _, _⟩ := hb6_ BK218) | ((with_reducible refine gate_callee (f := 28) rfl ?_); refine gl_ (some 7) Tryd.func28 #[.int .i64 a0_0] ?_; (with_reducible refine (pentaglotref22_Binds.calls a0_0 true _ A3.out).mono ?_); rintro e w' ⟨rfl, ⟨nd, rfl⟩⟩; refine ⟨_, rfl, ?_⟩))
  go_ret
  exact ⟨er_, be1_ HB GE218⟩
 ·replace c4 := Bool.eq_false_iff.mpr c4
  subst c4
  rw [if_neg nf_] at H
  obtain rfl := Option.some.inj H
  go_enter Tryd.func70, Tryd.ntmps70
  go_wp2_with (first | ((with_reducible refine gate_dst (N := 2) rfl ?_); refine bx_ 2 #[.int .i64 a0_0, .string a0_1, .slice A0_2 l0_2.length c0_2, .int .i64 a0_3, .int .i64 a0_4, .slice A0_5 l0_5.length c0_5] 32 ?_; intro gb218 hg w7 hbox hb; have BK218 := mk_ (hbox); have GW218 := mk_ (gs_ hg (be_ HB)); have GE218 := mk_ (gs_ hg (be_ HB)); replace HB := mk_ (below_step (be_ HB) hb); clear hb hbox hg; obtain ⟨_, _, _, _, _, _, _, _, _, _, _, _⟩ := hb6_ BK218) | ((with_reducible refine gate_callee (f := 28) rfl ?_); refine gl_ (some 7) Tryd.func28 #[.int .i64 a0_0] ?_; (with_reducible refine (pentaglotref22_Binds.calls a0_0 false _ A3.out).mono ?_); rintro e w' ⟨rfl, ⟨nd, rfl⟩⟩; refine ⟨_, rfl, ?_⟩))
  go_ret
  exact ⟨er_, be1_ HB GE218⟩

def pentaglotref22_lower.f (a0 : Int) : Option (Bool) := if a0 ≥ 97 then (some (decide (a0 ≤ 122))) else (some false)
theorem pentaglotref22_lower.calls (a0 : Int) (r : Bool) (w : World) (h : pentaglotref22_lower.f a0 = some r) :
  Calls Tryd.prog 85 #[.int .u8 a0] w fun e w' => e = .returned (.bool r) ∧ Drawn0 w w' := by
 have H : (if a0 ≥ 97 then (some (decide (a0 ≤ 122))) else (some false)) = some r := h
 clear h
 by_cases c2 : a0 ≥ 97
 ·rw [if_pos c2] at H
  have c2b0 : decide (97 ≤ a0) = true := decide_eq_true c2
  clear c2
  obtain rfl := Option.some.inj H
  go_enter Tryd.func85, Tryd.ntmps85
  go_wp2
  go_ret
  exact ⟨by first | rfl | (simp [pw_isEmpty]; done) | (simp; done) | (simp [*]; done), by repeat (first | exact Drawn0.refl _ | apply Drawn0.step)⟩
 ·rw [if_neg c2] at H
  have c2b0 : decide (97 ≤ a0) = false := decide_eq_false c2
  clear c2
  obtain rfl := Option.some.inj H
  go_enter Tryd.func85, Tryd.ntmps85
  go_wp2
  go_ret
  exact ⟨by first | rfl | (simp [pw_isEmpty]; done) | (simp; done) | (simp [*]; done), by repeat (first | exact Drawn0.refl _ | apply Drawn0.step)⟩

def pentaglotref22_tail.f (a0 : Int) : Option (Bool) := (pentaglotref22_lower.f a0).bind fun t220 => (if t220 = true then (some true) else (if a0 ≥ 48 then (if a0 ≤ 57 then (some true) else (some (a0 == 45))) else (some (a0 == 45))))
theorem pentaglotref22_tail.calls (a0 : Int) (r : Bool) (w : World) (h : pentaglotref22_tail.f a0 = some r) :
  Calls Tryd.prog 86 #[.int .u8 a0] w fun e w' => e = .returned (.bool r) ∧ Drawn0 w w' := by
 have H : ((pentaglotref22_lower.f a0).bind fun t220 => (if t220 = true then (some true) else (if a0 ≥ 48 then (if a0 ≤ 57 then (some true) else (some (a0 == 45))) else (some (a0 == 45))))) = some r := h
 clear h
 replace H := Option.bind_eq_some_iff.mp H
 obtain ⟨t220, A20, H⟩ := H
 replace H : (if t220 = true then (some true) else (if a0 ≥ 48 then (if a0 ≤ 57 then (some true) else (some (a0 == 45))) else (some (a0 == 45)))) = some r := H
 have A2 := mk_ A20
 clear A20
 by_cases c3 : t220 = true
 ·subst c3
  rw [if_pos rfl] at H
  obtain rfl := Option.some.inj H
  go_enter Tryd.func86, Tryd.ntmps86
  go_wp2_with (first | ((with_reducible refine gate_callee (f := 85) rfl ?_); refine gl_ (some 4) Tryd.func85 #[.int .u8 a0] ?_; (with_reducible refine (pentaglotref22_lower.calls a0 true _ A2.out).mono ?_); rintro e w' ⟨rfl, ⟨nd, rfl⟩⟩; refine ⟨_, rfl, ?_⟩))
  go_ret
  exact ⟨by first | rfl | (simp [pw_isEmpty]; done) | (simp; done) | (simp [*]; done), by repeat (first | exact Drawn0.refl _ | apply Drawn0.step)⟩
 ·replace c3 := Bool.eq_false_iff.mpr c3
  subst c3
  rw [if_neg nf_] at H
  by_cases c4 : a0 ≥ 48
  ·rw [if_pos c4] at H
   have c4b0 : decide (48 ≤ a0) = true := decide_eq_true c4
   clear c4
   by_cases c5 : a0 ≤ 57
   ·rw [if_pos c5] at H
    have c5b0 : decide (a0 ≤ 57) = true := decide_eq_true c5
    clear c5
    obtain rfl := Option.some.inj H
    go_enter Tryd.func86, Tryd.ntmps86
    go_wp2_with (first | ((with_reducible refine gate_callee (f := 85) rfl ?_); refine gl_ (some 4) Tryd.func85 #[.int .u8 a0] ?_; (with_reducible refine (pentaglotref22_lower.calls a0 false _ A2.out).mono ?_); rintro e w' ⟨rfl, ⟨nd, rfl⟩⟩; refine ⟨_, rfl, ?_⟩))
    go_ret
    exact ⟨by first | rfl | (simp [pw_isEmpty]; done) | (simp; done) | (simp [*]; done), by repeat (first | exact Drawn0.refl _ | apply Drawn0.step)⟩
   ·rw [if_neg c5] at H
    have c5b0 : decide (a0 ≤ 57) = false := decide_eq_false c5
    clear c5
    obtain rfl := Option.some.inj H
    go_enter Tryd.func86, Tryd.ntmps86
    go_wp2_with (first | ((with_reducible refine gate_callee (f := 85) rfl ?_); refine gl_ (some 4) Tryd.func85 #[.int .u8 a0] ?_; (with_reducible refine (pentaglotref22_lower.calls a0 false _ A2.out).mono ?_); rintro e w' ⟨rfl, ⟨nd, rfl⟩⟩; refine ⟨_, rfl, ?_⟩))
    go_ret
    exact ⟨by first | rfl | (simp [pw_isEmpty]; done) | (simp; done) | (simp [*]; done), by repeat (first | exact Drawn0.refl _ | apply Drawn0.step)⟩
  ·rw [if_neg c4] at H
   have c4b0 : decide (48 ≤ a0) = false := decide_eq_false c4
   clear c4
   obtain rfl := Option.some.inj H
   go_enter Tryd.func86, Tryd.ntmps86
   go_wp2_with (first | ((with_reducible refine gate_callee (f := 85) rfl ?_); refine gl_ (some 4) Tryd.func85 #[.int .u8 a0] ?_; (with_reducible refine (pentaglotref22_lower.calls a0 false _ A2.out).mono ?_); rintro e w' ⟨rfl, ⟨nd, rfl⟩⟩; refine ⟨_, rfl, ?_⟩))
   go_ret
   exact ⟨by first | rfl | (simp [pw_isEmpty]; done) | (simp; done) | (simp [*]; done), by repeat (first | exact Drawn0.refl _ | apply Drawn0.step)⟩

def pentaglotref22_Symbol.l0 : Nat → ByteArray → Int → Option (Bool)
 | 0, _, _ => none
 | k + 1, x0, x3 => if x3 < (x0.size : Int) then (if x3 = 0 then (if 0 ≤ x3 then ((pentaglotref22_lower.f (bt x0 x3)).bind fun t221 => (if t221 = true then ((pentaglotref22_tail.f (bt x0 x3)).bind fun t222 => (if t222 = true then (pentaglotref22_Symbol.l0 k x0 (wrap64 (x3 + 1))) else (some false))) else (some false))) else (none)) else (if 0 ≤ x3 then ((pentaglotref22_tail.f (bt x0 x3)).bind fun t223 => (if t223 = true then (pentaglotref22_Symbol.l0 k x0 (wrap64 (x3 + 1))) else (some false))) else (none))) else (some (decide ((x0.size : Int) > 0)))
def pentaglotref22_Symbol.f (k : Nat) (a0 : ByteArray) : Option (Bool) := pentaglotref22_Symbol.l0 k a0 0
theorem pentaglotref22_Symbol.calls (k : Nat) (a0 : ByteArray) (r : Bool) (w : World) (h : pentaglotref22_Symbol.f k a0 = some r) :
  Calls Tryd.prog 79 #[.string a0] w fun e w' => e = .returned (.bool r) ∧ Drawn0 w w' := by
 have H : (pentaglotref22_Symbol.l0 k a0 0) = some r := h
 clear h
 have H' := mk_ H
 clear H
 go_enter Tryd.func79, Tryd.ntmps79
 go_wp2
 go_loopg [3] k (fun kq v3 w' => ∃ (x3_1 : Int), v3 = .int .i64 x3_1 ∧ Aside0 (pentaglotref22_Symbol.l0 kq a0 x3_1 = some r) ∧ Aside0 (kq ≤ k) ∧ Drawn0 w w')
 case atStart => exact ⟨(0), fi_, H', ⟨Nat.le_refl _⟩, by repeat (first | exact Drawn0.refl _ | apply Drawn0.step)⟩
 case round =>
  clear H'
  obtain ⟨x3_1, rfl, HA, HK1, ⟨m1, rfl⟩⟩ := hrel
  cases gk with
  | zero => exact absurd HA.out (by simp [pentaglotref22_Symbol.l0])
  | succ k1 =>
   have H := HA.out
   clear HA
   simp only [pentaglotref22_Symbol.l0] at H
   by_cases c2 : x3_1 < (a0.size : Int)
   ·rw [if_pos c2] at H
    have c2b0 : decide (x3_1 < (a0.size : Int)) = true := decide_eq_true c2
    clear c2
    by_cases c3 : x3_1 = 0
    ·rw [if_pos c3] at H
     obtain ⟨c3b0, c3b1⟩ := eb_ c3
     clear c3
     by_cases c4 : 0 ≤ x3_1
     ·rw [if_pos c4] at H
      have c4b0 : decide (0 ≤ x3_1) = true := decide_eq_true c4
      clear c4
      replace H := Option.bind_eq_some_iff.mp H
      obtain ⟨t221, A60, H⟩ := H
      replace H : (if t221 = true then ((pentaglotref22_tail.f (bt a0 x3_1)).bind fun t222 => (if t222 = true then (pentaglotref22_Symbol.l0 k1 a0 (wrap64 (x3_1 + 1))) else (some false))) else (some false)) = some r := H
      have A6 := mk_ A60
      clear A60
      by_cases c7 : t221 = true
      ·subst c7
       rw [if_pos rfl] at H
       replace H := Option.bind_eq_some_iff.mp H
       obtain ⟨t222, A90, H⟩ := H
       replace H : (if t222 = true then (pentaglotref22_Symbol.l0 k1 a0 (wrap64 (x3_1 + 1))) else (some false)) = some r := H
       have A9 := mk_ A90
       clear A90
       by_cases c10 : t222 = true
       ·subst c10
        rw [if_pos rfl] at H
        have H' := mk_ H
        clear H
        have p5 : 0 ≤ (x3_1 : Int) := of_decide_eq_true (by first | (with_reducible assumption) | assumption)
        have q5 : x3_1 < (a0.size : Int) := of_decide_eq_true (by first | (with_reducible assumption) | assumption)
        have hx5 := bt_at a0 x3_1
        replace p5 := eq_true p5
        replace q5 := eq_true q5
        go_wp2_with (first | (go_at_call 85; (with_reducible refine (pentaglotref22_lower.calls (bt a0 x3_1) true _ A6.out).mono ?_); rintro e w' ⟨rfl, ⟨nd, rfl⟩⟩; have p8 : 0 ≤ (x3_1 : Int) := of_decide_eq_true (by first | (with_reducible assumption) | assumption); have q8 : x3_1 < (a0.size : Int) := of_decide_eq_true (by first | (with_reducible assumption) | assumption); have hx8 := bt_at a0 x3_1; replace p8 := eq_true p8; replace q8 := eq_true q8) | (go_at_call 86; (with_reducible refine (pentaglotref22_tail.calls (bt a0 x3_1) true _ A9.out).mono ?_); rintro e w' ⟨rfl, ⟨nd, rfl⟩⟩))
        go_roundg k1
        case measure => have := HK1.out; omega
        case rel => exact ⟨(wrap64 (x3_1 + 1)), fi_, H', ⟨by have := HK1.out; omega⟩, by repeat (first | exact Drawn0.refl _ | apply Drawn0.step)⟩
       ·replace c10 := Bool.eq_false_iff.mpr c10
        subst c10
        rw [if_neg nf_] at H
        obtain rfl := Option.some.inj H
        have p5 : 0 ≤ (x3_1 : Int) := of_decide_eq_true (by first | (with_reducible assumption) | assumption)
        have q5 : x3_1 < (a0.size : Int) := of_decide_eq_true (by first | (with_reducible assumption) | assumption)
        have hx5 := bt_at a0 x3_1
        replace p5 := eq_true p5
        replace q5 := eq_true q5
        go_wp2_with (first | (go_at_call 85; (with_reducible refine (pentaglotref22_lower.calls (bt a0 x3_1) true _ A6.out).mono ?_); rintro e w' ⟨rfl, ⟨nd, rfl⟩⟩; have p8 : 0 ≤ (x3_1 : Int) := of_decide_eq_true (by first | (with_reducible assumption) | assumption); have q8 : x3_1 < (a0.size : Int) := of_decide_eq_true (by first | (with_reducible assumption) | assumption); have hx8 := bt_at a0 x3_1; replace p8 := eq_true p8; replace q8 := eq_true q8) | (go_at_call 86; (with_reducible refine (pentaglotref22_tail.calls (bt a0 x3_1) false _ A9.out).mono ?_); rintro e w' ⟨rfl, ⟨nd, rfl⟩⟩))
        go_ret
        exact ⟨by first | rfl | (simp [pw_isEmpty]; done) | (simp; done) | (simp [*]; done), by repeat (first | exact Drawn0.refl _ | apply Drawn0.step)⟩
      ·replace c7 := Bool.eq_false_iff.mpr c7
       subst c7
       rw [if_neg nf_] at H
       obtain rfl := Option.some.inj H
       have p5 : 0 ≤ (x3_1 : Int) := of_decide_eq_true (by first | (with_reducible assumption) | assumption)
       have q5 : x3_1 < (a0.size : Int) := of_decide_eq_true (by first | (with_reducible assumption) | assumption)
       have hx5 := bt_at a0 x3_1
       replace p5 := eq_true p5
       replace q5 := eq_true q5
       go_wp2_with (first | (go_at_call 85; (with_reducible refine (pentaglotref22_lower.calls (bt a0 x3_1) false _ A6.out).mono ?_); rintro e w' ⟨rfl, ⟨nd, rfl⟩⟩))
       go_ret
       exact ⟨by first | rfl | (simp [pw_isEmpty]; done) | (simp; done) | (simp [*]; done), by repeat (first | exact Drawn0.refl _ | apply Drawn0.step)⟩
     ·rw [if_neg c4] at H
      exact absurd H (by simp)
    ·rw [if_neg c3] at H
     obtain ⟨c3b0, c3b1⟩ := en_ c3
     by_cases c11 : 0 ≤ x3_1
     ·rw [if_pos c11] at H
      have c11b0 : decide (0 ≤ x3_1) = true := decide_eq_true c11
      clear c11
      replace H := Option.bind_eq_some_iff.mp H
      obtain ⟨t223, A130, H⟩ := H
      replace H : (if t223 = true then (pentaglotref22_Symbol.l0 k1 a0 (wrap64 (x3_1 + 1))) else (some false)) = some r := H
      have A13 := mk_ A130
      clear A130
      by_cases c14 : t223 = true
      ·subst c14
       rw [if_pos rfl] at H
       have H' := mk_ H
       clear H
       have p12 : 0 ≤ (x3_1 : Int) := of_decide_eq_true (by first | (with_reducible assumption) | assumption)
       have q12 : x3_1 < (a0.size : Int) := of_decide_eq_true (by first | (with_reducible assumption) | assumption)
       have hx12 := bt_at a0 x3_1
       replace p12 := eq_true p12
       replace q12 := eq_true q12
       go_wp2_with (first | (go_at_call 86; (with_reducible refine (pentaglotref22_tail.calls (bt a0 x3_1) true _ A13.out).mono ?_); rintro e w' ⟨rfl, ⟨nd, rfl⟩⟩))
       go_roundg k1
       case measure => have := HK1.out; omega
       case rel => exact ⟨(wrap64 (x3_1 + 1)), fi_, H', ⟨by have := HK1.out; omega⟩, by repeat (first | exact Drawn0.refl _ | apply Drawn0.step)⟩
      ·replace c14 := Bool.eq_false_iff.mpr c14
       subst c14
       rw [if_neg nf_] at H
       obtain rfl := Option.some.inj H
       have p12 : 0 ≤ (x3_1 : Int) := of_decide_eq_true (by first | (with_reducible assumption) | assumption)
       have q12 : x3_1 < (a0.size : Int) := of_decide_eq_true (by first | (with_reducible assumption) | assumption)
       have hx12 := bt_at a0 x3_1
       replace p12 := eq_true p12
       replace q12 := eq_true q12
       go_wp2_with (first | (go_at_call 86; (with_reducible refine (pentaglotref22_tail.calls (bt a0 x3_1) false _ A13.out).mono ?_); rintro e w' ⟨rfl, ⟨nd, rfl⟩⟩))
       go_ret
       exact ⟨by first | rfl | (simp [pw_isEmpty]; done) | (simp; done) | (simp [*]; done), by repeat (first | exact Drawn0.refl _ | apply Drawn0.step)⟩
     ·rw [if_neg c11] at H
      exact absurd H (by simp)
   ·rw [if_neg c2] at H
    have c2b0 : decide (x3_1 < (a0.size : Int)) = false := decide_eq_false c2
    clear c2
    obtain rfl := Option.some.inj H
    go_wp2
    go_ret
    exact ⟨by first | rfl | (simp [pw_isEmpty]; done) | (simp; done) | (simp [*]; done), by repeat (first | exact Drawn0.refl _ | apply Drawn0.step)⟩

end Go.Proofs.YtolpckflofjfhaaDoor.P
