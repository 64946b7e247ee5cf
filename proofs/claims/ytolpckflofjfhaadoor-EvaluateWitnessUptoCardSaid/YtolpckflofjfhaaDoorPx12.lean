import Derived.Test.YtolpckflofjfhaaDoorPx0
namespace Go.Proofs.YtolpckflofjfhaaDoor.P
open Go.RowKit Go.Proofs.YtolpckflofjfhaaDoorW.PrintWords Go.Proofs.YtolpckflofjfhaaDoorW.PrintLast Go.Proofs.YtolpckflofjfhaaDoorW.PrintMore
attribute [local go_sem] max2_int min2_int max_two min_two max_three min_three max_four min_four
set_option linter.unusedVariables false
set_option maxHeartbeats 8000000
set_option maxRecDepth 100000
set_option linter.unusedSimpArgs false
mutual
def pentaglotref22_Size.l0 : Nat → Int → Int → Int → ByteArray → List (S92) → Int → Int → List (S32) → Option (Int)
 | 0, _, _, _, _, _, _, _, _ => none
 | k + 1, x3, x4, x206000, x206001, x206002, x206003, x206004, x206005 => if x4 < (x206005.length : Int) then (if 0 ≤ x4 then ((pentaglotref22_Size.f k ((rd_T32 x206005 x4).f0) ((rd_T32 x206005 x4).f1) ((rd_T32 x206005 x4).f2) ((rd_T32 x206005 x4).f3) ((rd_T32 x206005 x4).f4) ((rd_T32 x206005 x4).f5)).bind fun t207 => (pentaglotref22_Size.l0 k (wrap64 (x3 + t207)) (wrap64 (x4 + 1)) x206000 x206001 x206002 x206003 x206004 x206005)) else (none)) else (some x3)
def pentaglotref22_Size.f : Nat → Int → ByteArray → List (S92) → Int → Int → List (S32) → Option (Int)
 | 0, _, _, _, _, _, _ => none
 | k + 1, a0_0, a0_1, l0_2, a0_3, a0_4, l0_5 => pentaglotref22_Size.l0 k 1 0 a0_0 a0_1 l0_2 a0_3 a0_4 l0_5
end
theorem pentaglotref22_Size.calls (k : Nat) : ∀ (a0_0 : Int) (a0_1 : ByteArray) (A0_2 : Option Addr) (c0_2 : Nat) (l0_2 : List (S92)) (a0_3 : Int) (a0_4 : Int) (A0_5 : Option Addr) (c0_5 : Nat) (l0_5 : List (S32)) (r : Int) (w : World) (hr0_2 : Kd.C k92 w A0_2 l0_2.length l0_2) (hc0_2 : l0_2.length ≤ c0_2) (hr0_5 : Kd.C k32 w A0_5 l0_5.length l0_5) (hc0_5 : l0_5.length ≤ c0_5) (h : pentaglotref22_Size.f k a0_0 a0_1 l0_2 a0_3 a0_4 l0_5 = some r),
  Calls Tryd.prog 35 #[.agg #[.int .i64 a0_0, .string a0_1, .slice A0_2 l0_2.length c0_2, .int .i64 a0_3, .int .i64 a0_4, .slice A0_5 l0_5.length c0_5]] w fun e w' => e = .returned (.int .i64 r) ∧ Below w.heap.size w w' := by
 induction k using Nat.strongRecOn with
 | _ k ih =>
 intro a0_0 a0_1 A0_2 c0_2 l0_2 a0_3 a0_4 A0_5 c0_5 l0_5 r w hr0_2 hc0_2 hr0_5 hc0_5 h
 cases k with
 | zero => exact absurd h (by simp [pentaglotref22_Size.f])
 | succ k =>
 simp only [pentaglotref22_Size.f] at h
 have hu32 := Tryd.underlying32
 have HR0_2 := mk_ hr0_2; have HC0_2 := mk_ hc0_2; clear hr0_2 hc0_2
 have HR0_5 := mk_ hr0_5; have HC0_5 := mk_ hc0_5; clear hr0_5 hc0_5
 have HB := mk_ (Below.refl w.heap.size w)
 have H : (pentaglotref22_Size.l0 k 1 0 a0_0 a0_1 l0_2 a0_3 a0_4 l0_5) = some r := h
 clear h
 have H' := mk_ H
 clear H
 go_enter Tryd.func35, Tryd.ntmps35
 go_wp2_with (first | ((with_reducible refine gate_dst (N := 1) rfl ?_); refine bx_ 1 #[.int .i64 a0_0, .string a0_1, .slice A0_2 l0_2.length c0_2, .int .i64 a0_3, .int .i64 a0_4, .slice A0_5 l0_5.length c0_5] 32 ?_; intro gb205 hg w2 hbox hb; have BK205 := mk_ (hbox); have GW205 := mk_ (gs_ hg (be_ HB)); have GE205 := mk_ (gs_ hg (be_ HB)); replace HB := mk_ (below_step (be_ HB) hb); clear hb hbox hg))
 go_loopg [3, 4] k (fun kq v3 v4 w' => ∃ (x3_1 : Int) (x4_1 : Int), v3 = .int .i64 x3_1 ∧ v4 = .int .i64 x4_1 ∧ Aside0 (pentaglotref22_Size.l0 kq x3_1 x4_1 a0_0 a0_1 l0_2 a0_3 a0_4 l0_5 = some r) ∧ Aside0 (kq ≤ k) ∧ Aside0 (w'.heap[gb205]? = some (.cells #[.int .i64 a0_0, .string a0_1, (.slice A0_2 l0_2.length c0_2), .int .i64 a0_3, .int .i64 a0_4, (.slice A0_5 l0_5.length c0_5)] 32 (0, 0))) ∧ Aside0 (Below w.heap.size w w'))
 case atStart => exact ⟨(1), (0), fi_, fi_, H', ⟨Nat.le_refl _⟩, ⟨bq_ BK205⟩, ⟨be1_ HB GE205⟩⟩
 case round =>
  clear H'
  obtain ⟨x3_1, x4_1, rfl, rfl, HA, HK1, BK205, HB⟩ := hrel
  cases gk with
  | zero => exact absurd HA.out (by simp [pentaglotref22_Size.l0])
  | succ k1 =>
   have H := HA.out
   clear HA
   simp only [pentaglotref22_Size.l0] at H
   by_cases c3 : x4_1 < (l0_5.length : Int)
   ·rw [if_pos c3] at H
    have c3b0 : decide (x4_1 < (l0_5.length : Int)) = true := decide_eq_true c3
    clear c3
    by_cases c4 : 0 ≤ x4_1
    ·rw [if_pos c4] at H
     have c4b0 : decide (0 ≤ x4_1) = true := decide_eq_true c4
     clear c4
     replace H := Option.bind_eq_some_iff.mp H
     obtain ⟨t207, A50, H⟩ := H
     replace H : (pentaglotref22_Size.l0 k1 (wrap64 (x3_1 + t207)) (wrap64 (x4_1 + 1)) a0_0 a0_1 l0_2 a0_3 a0_4 l0_5) = some r := H
     have A5 := mk_ A50
     clear A50
     have H' := mk_ H
     clear H
     obtain ⟨_, _, _, _, _, _, _, _, _, _, _, _⟩ := hb6_ BK205
     have p206 : 0 ≤ (x4_1 : Int) := of_decide_eq_true (by first | (with_reducible assumption) | assumption)
     have q206 : x4_1 < (l0_5.length : Int) := of_decide_eq_true (by first | (with_reducible assumption) | assumption)
     obtain ⟨ad206, A206_2, c206_2, A206_5, c206_5, e206, hx206_0, hx206_1, hx206_2, hx206_3, hx206_4, hx206_5, hl206_2, hi206_2, hl206_5, hi206_5⟩ := at_T32 HR0_5.out x4_1 p206 q206
     cases e206
     replace hx206_0 := cb_ HB hx206_0
     replace hx206_1 := cb_ HB hx206_1
     replace hx206_2 := cb_ HB hx206_2
     replace hx206_3 := cb_ HB hx206_3
     replace hx206_4 := cb_ HB hx206_4
     replace hx206_5 := cb_ HB hx206_5
     have HR206_2 := mk_ hi206_2; have HC206_2 := mk_ hl206_2; clear hi206_2 hl206_2
     have HR206_5 := mk_ hi206_5; have HC206_5 := mk_ hl206_5; clear hi206_5 hl206_5
     replace p206 := eq_true p206
     replace q206 := eq_true q206
     go_wp2_with (first | ((with_reducible refine gate_callee (f := 35) rfl ?_); refine gl_ (some 18) Tryd.func35 #[.agg #[.int .i64 ((rd_T32 l0_5 x4_1).f0), .string ((rd_T32 l0_5 x4_1).f1), .slice A206_2 ((rd_T32 l0_5 x4_1).f2).length c206_2, .int .i64 ((rd_T32 l0_5 x4_1).f3), .int .i64 ((rd_T32 l0_5 x4_1).f4), .slice A206_5 ((rd_T32 l0_5 x4_1).f5).length c206_5]] ?_; (with_reducible refine (ih k1 (by have := HK1.out; omega) ((rd_T32 l0_5 x4_1).f0) ((rd_T32 l0_5 x4_1).f1) _ _ ((rd_T32 l0_5 x4_1).f2) ((rd_T32 l0_5 x4_1).f3) ((rd_T32 l0_5 x4_1).f4) _ _ ((rd_T32 l0_5 x4_1).f5) t207 _ ?side1 ?side2 ?side3 ?side4 A5.out).mono ?_); (case side1 => exact cs_ (Kd.C_below HR206_2.out HB.out)); (case side2 => exact HC206_2.out); (case side3 => exact cs_ (Kd.C_below HR206_5.out HB.out)); (case side4 => exact HC206_5.out); rintro e w7 ⟨rfl, hb⟩; refine ⟨_, rfl, ?_⟩; replace BK205 := mk_ (bb_ BK205 hb); replace HB := mk_ (below_step (be1_ HB GE205) hb)))
     go_roundg k1
     case measure => have := HK1.out; omega
     case rel => exact ⟨(wrap64 (x3_1 + t207)), (wrap64 (x4_1 + 1)), fi_, fi_, H', ⟨by have := HK1.out; omega⟩, ⟨bq_ BK205⟩, ⟨be1_ HB GE205⟩⟩
    ·rw [if_neg c4] at H
     exact absurd H (by simp)
   ·rw [if_neg c3] at H
    have c3b0 : decide (x4_1 < (l0_5.length : Int)) = false := decide_eq_false c3
    clear c3
    obtain rfl := Option.some.inj H
    obtain ⟨_, _, _, _, _, _, _, _, _, _, _, _⟩ := hb6_ BK205
    go_wp2
    go_ret
    exact ⟨er_, be1_ HB GE205⟩
mutual
def pentaglotref26_Proper.l0 : Nat → Int → List (S73) → List Int → Int → Option (Bool)
 | 0, _, _, _, _ => none
 | k + 1, x3, x209000, x209001, x209002 => if x3 < (x209001.length : Int) then (if 0 ≤ x3 then (if (rd x209001 x3) < 0 then (some false) else (if (rd x209001 x3) > 1439999999 then (some false) else (if x3 > 0 then (if 0 ≤ (wrap64 (x3 - 1)) then (if (wrap64 (x3 - 1)) < (x209001.length : Int) then (if (rd x209001 x3) ≤ (rd x209001 (wrap64 (x3 - 1))) then (some false) else (pentaglotref26_Proper.l0 k (wrap64 (x3 + 1)) x209000 x209001 x209002)) else (none)) else (none)) else (pentaglotref26_Proper.l0 k (wrap64 (x3 + 1)) x209000 x209001 x209002)))) else (none)) else (pentaglotref26_Proper.l1 k 0 x209000 x209001 x209002)
def pentaglotref26_Proper.l1 : Nat → Int → List (S73) → List Int → Int → Option (Bool)
 | 0, _, _, _, _ => none
 | k + 1, x4, x209000, x209001, x209002 => if x4 < (x209000.length : Int) then (pentaglotref26_Proper.l2 k x4 0 x209000 x209001 x209002) else (if x209002 = 1 then (some true) else (some (x209002 == 2)))
def pentaglotref26_Proper.l2 : Nat → Int → Int → List (S73) → List Int → Int → Option (Bool)
 | 0, _, _, _, _, _ => none
 | k + 1, x4, x5, x209000, x209001, x209002 => if x5 < x4 then (if 0 ≤ x4 then (if x4 < (x209000.length : Int) then (if 0 ≤ x5 then (if x5 < (x209000.length : Int) then (if ((rd_T73 x209000 x4).f0).toList = ((rd_T73 x209000 x5).f0).toList then (some false) else (pentaglotref26_Proper.l2 k x4 (wrap64 (x5 + 1)) x209000 x209001 x209002)) else (none)) else (none)) else (none)) else (none)) else (pentaglotref26_Proper.l1 k (wrap64 (x4 + 1)) x209000 x209001 x209002)
end
def pentaglotref26_Proper.f (k : Nat) (l0_0 : List (S73)) (l0_1 : List Int) (a0_2 : Int) : Option (Bool) := pentaglotref26_Proper.l0 k 0 l0_0 l0_1 a0_2
theorem pentaglotref26_Proper.calls (k : Nat) (A0_0 : Option Addr) (c0_0 : Nat) (l0_0 : List (S73)) (A0_1 : Option Addr) (c0_1 : Nat) (l0_1 : List Int) (a0_2 : Int) (r : Bool) (w : World) (hr0_0 : Kd.C k73 w A0_0 l0_0.length l0_0) (hc0_0 : l0_0.length ≤ c0_0) (hr0_1 : Kd.C (Kd.int .i64) w A0_1 l0_1.length l0_1) (hc0_1 : l0_1.length ≤ c0_1) (h : pentaglotref26_Proper.f k l0_0 l0_1 a0_2 = some r) :
  Calls Tryd.prog 24 #[.agg #[.slice A0_0 l0_0.length c0_0, .slice A0_1 l0_1.length c0_1, .int .i64 a0_2]] w fun e w' => e = .returned (.bool r) ∧ Below w.heap.size w w' := by
 have hu25 := Tryd.underlying25
 have HR0_0 := mk_ hr0_0; have HC0_0 := mk_ hc0_0; clear hr0_0 hc0_0
 have HR0_1 := mk_ hr0_1; have HC0_1 := mk_ hc0_1; clear hr0_1 hc0_1
 have HB := mk_ (Below.refl w.heap.size w)
 have H : (pentaglotref26_Proper.l0 k 0 l0_0 l0_1 a0_2) = some r := h
 clear h
 have H' := mk_ H
 clear H
 go_enter Tryd.func24, Tryd.ntmps24
 go_wp2_with (first | ((with_reducible refine gate_dst (N := 1) rfl ?_); refine bx_ 1 #[.slice A0_0 l0_0.length c0_0, .slice A0_1 l0_1.length c0_1, .int .i64 a0_2] 25 ?_; intro gb208 hg w2 hbox hb; have BK208 := mk_ (hbox); have GW208 := mk_ (gs_ hg (be_ HB)); have GE208 := mk_ (gs_ hg (be_ HB)); replace HB := mk_ (below_step (be_ HB) hb); clear hb hbox hg))
 repeat (go_quiet (first | ((with_reducible refine gate_dst (N := 1) rfl ?_); refine bx_ 1 #[.slice A0_0 l0_0.length c0_0, .slice A0_1 l0_1.length c0_1, .int .i64 a0_2] 25 ?_; intro gb208 hg w2 hbox hb; have BK208 := mk_ (hbox); have GW208 := mk_ (gs_ hg (be_ HB)); have GE208 := mk_ (gs_ hg (be_ HB)); replace HB := mk_ (below_step (be_ HB) hb); clear hb hbox hg)); try go_wp2_with (first | ((with_reducible refine gate_dst (N := 1) rfl ?_); refine bx_ 1 #[.slice A0_0 l0_0.length c0_0, .slice A0_1 l0_1.length c0_1, .int .i64 a0_2] 25 ?_; intro gb208 hg w2 hbox hb; have BK208 := mk_ (hbox); have GW208 := mk_ (gs_ hg (be_ HB)); have GE208 := mk_ (gs_ hg (be_ HB)); replace HB := mk_ (below_step (be_ HB) hb); clear hb hbox hg)))
 go_loopg [3] k (fun kq v3 w' => ∃ (x3_1 : Int), v3 = .int .i64 x3_1 ∧ Aside0 (pentaglotref26_Proper.l0 kq x3_1 l0_0 l0_1 a0_2 = some r) ∧ Aside0 (kq ≤ k) ∧ Aside0 (w'.heap[gb208]? = some (.cells #[(.slice A0_0 l0_0.length c0_0), (.slice A0_1 l0_1.length c0_1), .int .i64 a0_2] 25 (0, 0))) ∧ Aside0 (Below w.heap.size w w'))
 case atStart => exact ⟨(0), fi_, H', ⟨Nat.le_refl _⟩, ⟨bq_ BK208⟩, ⟨be1_ HB GE208⟩⟩
 case round =>
  clear H'
  obtain ⟨x3_1, rfl, HA, HK1, BK208, HB⟩ := hrel
  cases gk with
  | zero => exact absurd HA.out (by simp [pentaglotref26_Proper.l0])
  | succ k1 =>
   have H := HA.out
   clear HA
   simp only [pentaglotref26_Proper.l0] at H
   by_cases c3 : x3_1 < (l0_1.length : Int)
   ·rw [if_pos c3] at H
    have c3b0 : decide (x3_1 < (l0_1.length : Int)) = true := decide_eq_true c3
    clear c3
    by_cases c4 : 0 ≤ x3_1
    ·rw [if_pos c4] at H
     have c4b0 : decide (0 ≤ x3_1) = true := decide_eq_true c4
     clear c4
     by_cases c5 : (rd l0_1 x3_1) < 0
     ·rw [if_pos c5] at H
      have c5b0 : decide ((rd l0_1 x3_1) < 0) = true := decide_eq_true c5
      clear c5
      obtain rfl := Option.some.inj H
      obtain ⟨_, _, _, _, _, _⟩ := hb3_ BK208
      have p209 : 0 ≤ (x3_1 : Int) := of_decide_eq_true (by first | (with_reducible assumption) | assumption)
      have q209 : x3_1 < (l0_1.length : Int) := of_decide_eq_true (by first | (with_reducible assumption) | assumption)
      obtain ⟨ad209, e209, hx209_0⟩ := Kd.at_int HR0_1.out x3_1 p209 q209
      cases e209
      replace hx209_0 := cb_ HB hx209_0
      replace p209 := eq_true p209
      replace q209 := eq_true q209
      go_wp2
      repeat (go_quiet (fail); try go_wp2)
      go_ret
      exact ⟨er_, be1_ HB GE208⟩
     ·rw [if_neg c5] at H
      have c5b0 : decide ((rd l0_1 x3_1) < 0) = false := decide_eq_false c5
      clear c5
      by_cases c7 : (rd l0_1 x3_1) > 1439999999
      ·rw [if_pos c7] at H
       have c7b0 : decide (1439999999 < (rd l0_1 x3_1)) = true := decide_eq_true c7
       clear c7
       obtain rfl := Option.some.inj H
       obtain ⟨_, _, _, _, _, _⟩ := hb3_ BK208
       have p209 : 0 ≤ (x3_1 : Int) := of_decide_eq_true (by first | (with_reducible assumption) | assumption)
       have q209 : x3_1 < (l0_1.length : Int) := of_decide_eq_true (by first | (with_reducible assumption) | assumption)
       obtain ⟨ad209, e209, hx209_0⟩ := Kd.at_int HR0_1.out x3_1 p209 q209
       cases e209
       replace hx209_0 := cb_ HB hx209_0
       replace p209 := eq_true p209
       replace q209 := eq_true q209
       have p210 : 0 ≤ (x3_1 : Int) := of_decide_eq_true (by first | (with_reducible assumption) | assumption)
       have q210 : x3_1 < (l0_1.length : Int) := of_decide_eq_true (by first | (with_reducible assumption) | assumption)
       obtain ⟨ad210, e210, hx210_0⟩ := Kd.at_int HR0_1.out x3_1 p210 q210
       obtain rfl : ad209 = ad210 := (by injection e210)
       replace hx210_0 := cb_ HB hx210_0
       replace p210 := eq_true p210
       replace q210 := eq_true q210
       go_wp2
       repeat (go_quiet (fail); try go_wp2)
       go_ret
       exact ⟨er_, be1_ HB GE208⟩
      ·rw [if_neg c7] at H
       have c7b0 : decide (1439999999 < (rd l0_1 x3_1)) = false := decide_eq_false c7
       clear c7
       by_cases c9 : x3_1 > 0
       ·rw [if_pos c9] at H
        have c9b0 : decide (0 < x3_1) = true := decide_eq_true c9
        clear c9
        obtain ⟨ji10, hji10⟩ : ∃ j_ : Int, (wrap64 (x3_1 - 1)) = j_ := ⟨_, rfl⟩
        replace H : (if 0 ≤ (ji10) then (if (ji10) < (l0_1.length : Int) then (if (rd l0_1 x3_1) ≤ (rd l0_1 (ji10)) then (some false) else (pentaglotref26_Proper.l0 k1 (wrap64 (x3_1 + 1)) l0_0 l0_1 a0_2)) else (none)) else (none)) = some r := by first | (rw [hji10] at H; exact H) | (simp only [hji10] at H ⊢; exact H)
        have hji10w : (IntKind.i64.wrap (x3_1 - 1)) = ji10 := (i64_w _).trans hji10
        by_cases c11 : 0 ≤ (ji10)
        ·rw [if_pos c11] at H
         have c11b0 : decide (0 ≤ (ji10)) = true := decide_eq_true c11
         clear c11
         by_cases c12 : (ji10) < (l0_1.length : Int)
         ·rw [if_pos c12] at H
          have c12b0 : decide ((ji10) < (l0_1.length : Int)) = true := decide_eq_true c12
          clear c12
          by_cases c13 : (rd l0_1 x3_1) ≤ (rd l0_1 (ji10))
          ·rw [if_pos c13] at H
           have c13b0 : decide ((rd l0_1 x3_1) ≤ (rd l0_1 (ji10))) = true := decide_eq_true c13
           clear c13
           obtain rfl := Option.some.inj H
           obtain ⟨_, _, _, _, _, _⟩ := hb3_ BK208
           have p209 : 0 ≤ (x3_1 : Int) := of_decide_eq_true (by first | (with_reducible assumption) | assumption)
           have q209 : x3_1 < (l0_1.length : Int) := of_decide_eq_true (by first | (with_reducible assumption) | assumption)
           obtain ⟨ad209, e209, hx209_0⟩ := Kd.at_int HR0_1.out x3_1 p209 q209
           cases e209
           replace hx209_0 := cb_ HB hx209_0
           replace p209 := eq_true p209
           replace q209 := eq_true q209
           have p210 : 0 ≤ (x3_1 : Int) := of_decide_eq_true (by first | (with_reducible assumption) | assumption)
           have q210 : x3_1 < (l0_1.length : Int) := of_decide_eq_true (by first | (with_reducible assumption) | assumption)
           obtain ⟨ad210, e210, hx210_0⟩ := Kd.at_int HR0_1.out x3_1 p210 q210
           obtain rfl : ad209 = ad210 := (by injection e210)
           replace hx210_0 := cb_ HB hx210_0
           replace p210 := eq_true p210
           replace q210 := eq_true q210
           have p211 : 0 ≤ (x3_1 : Int) := of_decide_eq_true (by first | (with_reducible assumption) | assumption)
           have q211 : x3_1 < (l0_1.length : Int) := of_decide_eq_true (by first | (with_reducible assumption) | assumption)
           obtain ⟨ad211, e211, hx211_0⟩ := Kd.at_int HR0_1.out x3_1 p211 q211
           obtain rfl : ad209 = ad211 := (by injection e211)
           replace hx211_0 := cb_ HB hx211_0
           replace p211 := eq_true p211
           replace q211 := eq_true q211
           have p212 : 0 ≤ ((ji10) : Int) := of_decide_eq_true (by first | (with_reducible assumption) | assumption)
           have q212 : (ji10) < (l0_1.length : Int) := of_decide_eq_true (by first | (with_reducible assumption) | assumption)
           obtain ⟨ad212, e212, hx212_0⟩ := Kd.at_int HR0_1.out (ji10) p212 q212
           obtain rfl : ad209 = ad212 := (by injection e212)
           replace hx212_0 := cb_ HB hx212_0
           replace p212 := eq_true p212
           replace q212 := eq_true q212
           go_wp2
           repeat (go_quiet (fail); try go_wp2)
           go_ret
           exact ⟨by first | rfl | (simp [errW_none, errW_some] <;> rfl) | (simp only [← hji10]; first | rfl | (simp [errW_none, errW_some] <;> rfl)) | (simp [*, errW_none, errW_some] <;> rfl), be1_ HB GE208⟩
          ·rw [if_neg c13] at H
           have c13b0 : decide ((rd l0_1 x3_1) ≤ (rd l0_1 (ji10))) = false := decide_eq_false c13
           clear c13
           have H' := mk_ H
           clear H
           obtain ⟨_, _, _, _, _, _⟩ := hb3_ BK208
           have p209 : 0 ≤ (x3_1 : Int) := of_decide_eq_true (by first | (with_reducible assumption) | assumption)
           have q209 : x3_1 < (l0_1.length : Int) := of_decide_eq_true (by first | (with_reducible assumption) | assumption)
           obtain ⟨ad209, e209, hx209_0⟩ := Kd.at_int HR0_1.out x3_1 p209 q209
           cases e209
           replace hx209_0 := cb_ HB hx209_0
           replace p209 := eq_true p209
           replace q209 := eq_true q209
           have p210 : 0 ≤ (x3_1 : Int) := of_decide_eq_true (by first | (with_reducible assumption) | assumption)
           have q210 : x3_1 < (l0_1.length : Int) := of_decide_eq_true (by first | (with_reducible assumption) | assumption)
           obtain ⟨ad210, e210, hx210_0⟩ := Kd.at_int HR0_1.out x3_1 p210 q210
           obtain rfl : ad209 = ad210 := (by injection e210)
           replace hx210_0 := cb_ HB hx210_0
           replace p210 := eq_true p210
           replace q210 := eq_true q210
           have p211 : 0 ≤ (x3_1 : Int) := of_decide_eq_true (by first | (with_reducible assumption) | assumption)
           have q211 : x3_1 < (l0_1.length : Int) := of_decide_eq_true (by first | (with_reducible assumption) | assumption)
           obtain ⟨ad211, e211, hx211_0⟩ := Kd.at_int HR0_1.out x3_1 p211 q211
           obtain rfl : ad209 = ad211 := (by injection e211)
           replace hx211_0 := cb_ HB hx211_0
           replace p211 := eq_true p211
           replace q211 := eq_true q211
           have p212 : 0 ≤ ((ji10) : Int) := of_decide_eq_true (by first | (with_reducible assumption) | assumption)
           have q212 : (ji10) < (l0_1.length : Int) := of_decide_eq_true (by first | (with_reducible assumption) | assumption)
           obtain ⟨ad212, e212, hx212_0⟩ := Kd.at_int HR0_1.out (ji10) p212 q212
           obtain rfl : ad209 = ad212 := (by injection e212)
           replace hx212_0 := cb_ HB hx212_0
           replace p212 := eq_true p212
           replace q212 := eq_true q212
           go_wp2
           repeat (go_quiet (fail); try go_wp2)
           go_roundg k1
           case measure => have := HK1.out; omega
           case rel => exact ⟨(wrap64 (x3_1 + 1)), fi_, H', ⟨by have := HK1.out; omega⟩, ⟨bq_ BK208⟩, ⟨be1_ HB GE208⟩⟩
         ·rw [if_neg c12] at H
          exact absurd H (by simp)
        ·rw [if_neg c11] at H
         exact absurd H (by simp)
       ·rw [if_neg c9] at H
        have c9b0 : decide (0 < x3_1) = false := decide_eq_false c9
        clear c9
        have H' := mk_ H
        clear H
        obtain ⟨_, _, _, _, _, _⟩ := hb3_ BK208
        have p209 : 0 ≤ (x3_1 : Int) := of_decide_eq_true (by first | (with_reducible assumption) | assumption)
        have q209 : x3_1 < (l0_1.length : Int) := of_decide_eq_true (by first | (with_reducible assumption) | assumption)
        obtain ⟨ad209, e209, hx209_0⟩ := Kd.at_int HR0_1.out x3_1 p209 q209
        cases e209
        replace hx209_0 := cb_ HB hx209_0
        replace p209 := eq_true p209
        replace q209 := eq_true q209
        have p210 : 0 ≤ (x3_1 : Int) := of_decide_eq_true (by first | (with_reducible assumption) | assumption)
        have q210 : x3_1 < (l0_1.length : Int) := of_decide_eq_true (by first | (with_reducible assumption) | assumption)
        obtain ⟨ad210, e210, hx210_0⟩ := Kd.at_int HR0_1.out x3_1 p210 q210
        obtain rfl : ad209 = ad210 := (by injection e210)
        replace hx210_0 := cb_ HB hx210_0
        replace p210 := eq_true p210
        replace q210 := eq_true q210
        go_wp2
        repeat (go_quiet (fail); try go_wp2)
        go_roundg k1
        case measure => have := HK1.out; omega
        case rel => exact ⟨(wrap64 (x3_1 + 1)), fi_, H', ⟨by have := HK1.out; omega⟩, ⟨bq_ BK208⟩, ⟨be1_ HB GE208⟩⟩
    ·rw [if_neg c4] at H
     exact absurd H (by simp)
   ·rw [if_neg c3] at H
    have c3b0 : decide (x3_1 < (l0_1.length : Int)) = false := decide_eq_false c3
    clear c3
    have H' := mk_ H
    clear H
    obtain ⟨_, _, _, _, _, _⟩ := hb3_ BK208
    go_wp2
    repeat (go_quiet (fail); try go_wp2)
    go_loopg [4] k1 (fun kq v4 w' => ∃ (x4_2 : Int), v4 = .int .i64 x4_2 ∧ Aside0 (pentaglotref26_Proper.l1 kq x4_2 l0_0 l0_1 a0_2 = some r) ∧ Aside0 (kq ≤ k1) ∧ Aside0 (w'.heap[gb208]? = some (.cells #[(.slice A0_0 l0_0.length c0_0), (.slice A0_1 l0_1.length c0_1), .int .i64 a0_2] 25 (0, 0))) ∧ Aside0 (Below w.heap.size w w'))
    case atStart => exact ⟨(0), fi_, H', ⟨Nat.le_refl _⟩, ⟨bq_ BK208⟩, ⟨be1_ HB GE208⟩⟩
    case round =>
     clear H'
     obtain ⟨x4_2, rfl, HA, HK2, BK208, HB⟩ := hrel
     cases gk with
     | zero => exact absurd HA.out (by simp [pentaglotref26_Proper.l1])
     | succ k2 =>
      have H := HA.out
      clear HA
      simp only [pentaglotref26_Proper.l1] at H
      by_cases c18 : x4_2 < (l0_0.length : Int)
      ·rw [if_pos c18] at H
       have c18b0 : decide (x4_2 < (l0_0.length : Int)) = true := decide_eq_true c18
       clear c18
       have H' := mk_ H
       clear H
       obtain ⟨_, _, _, _, _, _⟩ := hb3_ BK208
       go_wp2
       repeat (go_quiet (fail); try go_wp2)
       go_loopg [5] k2 (fun kq v5 w' => ∃ (x5_3 : Int), v5 = .int .i64 x5_3 ∧ Aside0 (pentaglotref26_Proper.l2 kq x4_2 x5_3 l0_0 l0_1 a0_2 = some r) ∧ Aside0 (kq ≤ k2) ∧ Aside0 (w'.heap[gb208]? = some (.cells #[(.slice A0_0 l0_0.length c0_0), (.slice A0_1 l0_1.length c0_1), .int .i64 a0_2] 25 (0, 0))) ∧ Aside0 (Below w.heap.size w w'))
       case atStart => exact ⟨(0), fi_, H', ⟨Nat.le_refl _⟩, ⟨bq_ BK208⟩, ⟨be1_ HB GE208⟩⟩
       case round =>
        clear H'
        obtain ⟨x5_3, rfl, HA, HK3, BK208, HB⟩ := hrel
        cases gk with
        | zero => exact absurd HA.out (by simp [pentaglotref26_Proper.l2])
        | succ k3 =>
         have H := HA.out
         clear HA
         simp only [pentaglotref26_Proper.l2] at H
         by_cases c20 : x5_3 < x4_2
         ·rw [if_pos c20] at H
          have c20b0 : decide (x5_3 < x4_2) = true := decide_eq_true c20
          clear c20
          by_cases c21 : 0 ≤ x4_2
          ·rw [if_pos c21] at H
           have c21b0 : decide (0 ≤ x4_2) = true := decide_eq_true c21
           clear c21
           by_cases c22 : x4_2 < (l0_0.length : Int)
           ·rw [if_pos c22] at H
            have c22b0 : decide (x4_2 < (l0_0.length : Int)) = true := decide_eq_true c22
            clear c22
            by_cases c23 : 0 ≤ x5_3
            ·rw [if_pos c23] at H
             have c23b0 : decide (0 ≤ x5_3) = true := decide_eq_true c23
             clear c23
             by_cases c24 : x5_3 < (l0_0.length : Int)
             ·rw [if_pos c24] at H
              have c24b0 : decide (x5_3 < (l0_0.length : Int)) = true := decide_eq_true c24
              clear c24
              by_cases c25 : ((rd_T73 l0_0 x4_2).f0).toList = ((rd_T73 l0_0 x5_3).f0).toList
              ·rw [if_pos c25] at H
               obtain ⟨c25b0, c25b1⟩ := eb_ c25
               clear c25
               obtain rfl := Option.some.inj H
               obtain ⟨_, _, _, _, _, _⟩ := hb3_ BK208
               have p213 : 0 ≤ (x4_2 : Int) := of_decide_eq_true (by first | (with_reducible assumption) | assumption)
               have q213 : x4_2 < (l0_0.length : Int) := of_decide_eq_true (by first | (with_reducible assumption) | assumption)
               obtain ⟨ad213, A213_1, c213_1, e213, hx213_0, hx213_1, hl213_1, hi213_1⟩ := at_T73 HR0_0.out x4_2 p213 q213
               cases e213
               replace hx213_0 := cb_ HB hx213_0
               replace hx213_1 := cb_ HB hx213_1
               have HR213_1 := mk_ hi213_1; have HC213_1 := mk_ hl213_1; clear hi213_1 hl213_1
               replace p213 := eq_true p213
               replace q213 := eq_true q213
               have p214 : 0 ≤ (x5_3 : Int) := of_decide_eq_true (by first | (with_reducible assumption) | assumption)
               have q214 : x5_3 < (l0_0.length : Int) := of_decide_eq_true (by first | (with_reducible assumption) | assumption)
               obtain ⟨ad214, A214_1, c214_1, e214, hx214_0, hx214_1, hl214_1, hi214_1⟩ := at_T73 HR0_0.out x5_3 p214 q214
               obtain rfl : ad213 = ad214 := (by injection e214)
               replace hx214_0 := cb_ HB hx214_0
               replace hx214_1 := cb_ HB hx214_1
               have HR214_1 := mk_ hi214_1; have HC214_1 := mk_ hl214_1; clear hi214_1 hl214_1
               replace p214 := eq_true p214
               replace q214 := eq_true q214
               go_wp2
               repeat (go_quiet (fail); try go_wp2)
               go_ret
               exact ⟨er_, be1_ HB GE208⟩
              ·rw [if_neg c25] at H
               obtain ⟨c25b0, c25b1⟩ := en_ c25
               have H' := mk_ H
               clear H
               obtain ⟨_, _, _, _, _, _⟩ := hb3_ BK208
               have p213 : 0 ≤ (x4_2 : Int) := of_decide_eq_true (by first | (with_reducible assumption) | assumption)
               have q213 : x4_2 < (l0_0.length : Int) := of_decide_eq_true (by first | (with_reducible assumption) | assumption)
               obtain ⟨ad213, A213_1, c213_1, e213, hx213_0, hx213_1, hl213_1, hi213_1⟩ := at_T73 HR0_0.out x4_2 p213 q213
               cases e213
               replace hx213_0 := cb_ HB hx213_0
               replace hx213_1 := cb_ HB hx213_1
               have HR213_1 := mk_ hi213_1; have HC213_1 := mk_ hl213_1; clear hi213_1 hl213_1
               replace p213 := eq_true p213
               replace q213 := eq_true q213
               have p214 : 0 ≤ (x5_3 : Int) := of_decide_eq_true (by first | (with_reducible assumption) | assumption)
               have q214 : x5_3 < (l0_0.length : Int) := of_decide_eq_true (by first | (with_reducible assumption) | assumption)
               obtain ⟨ad214, A214_1, c214_1, e214, hx214_0, hx214_1, hl214_1, hi214_1⟩ := at_T73 HR0_0.out x5_3 p214 q214
               obtain rfl : ad213 = ad214 := (by injection e214)
               replace hx214_0 := cb_ HB hx214_0
               replace hx214_1 := cb_ HB hx214_1
               have HR214_1 := mk_ hi214_1; have HC214_1 := mk_ hl214_1; clear hi214_1 hl214_1
               replace p214 := eq_true p214
               replace q214 := eq_true q214
               go_wp2
               repeat (go_quiet (fail); try go_wp2)
               go_roundg k3
               case measure => have := HK1.out; have := HK2.out; have := HK3.out; omega
               case rel => exact ⟨(wrap64 (x5_3 + 1)), fi_, H', ⟨by have := HK1.out; have := HK2.out; have := HK3.out; omega⟩, ⟨bq_ BK208⟩, ⟨be1_ HB GE208⟩⟩
             ·rw [if_neg c24] at H
              exact absurd H (by simp)
            ·rw [if_neg c23] at H
             exact absurd H (by simp)
           ·rw [if_neg c22] at H
            exact absurd H (by simp)
          ·rw [if_neg c21] at H
           exact absurd H (by simp)
         ·rw [if_neg c20] at H
          have c20b0 : decide (x5_3 < x4_2) = false := decide_eq_false c20
          clear c20
          have H' := mk_ H
          clear H
          go_wp2
          repeat (go_quiet (fail); try go_wp2)
          go_roundg k3
          case measure => have := HK1.out; have := HK2.out; have := HK3.out; omega
          case rel => exact ⟨(wrap64 (x4_2 + 1)), fi_, H', ⟨by have := HK1.out; have := HK2.out; have := HK3.out; omega⟩, ⟨bq_ BK208⟩, ⟨be1_ HB GE208⟩⟩
      ·rw [if_neg c18] at H
       have c18b0 : decide (x4_2 < (l0_0.length : Int)) = false := decide_eq_false c18
       clear c18
       by_cases c28 : a0_2 = 1
       ·rw [if_pos c28] at H
        obtain ⟨c28b0, c28b1⟩ := eb_ c28
        clear c28
        obtain rfl := Option.some.inj H
        obtain ⟨_, _, _, _, _, _⟩ := hb3_ BK208
        go_wp2
        repeat (go_quiet (fail); try go_wp2)
        go_ret
        exact ⟨er_, be1_ HB GE208⟩
       ·rw [if_neg c28] at H
        obtain ⟨c28b0, c28b1⟩ := en_ c28
        obtain rfl := Option.some.inj H
        obtain ⟨_, _, _, _, _, _⟩ := hb3_ BK208
        go_wp2
        repeat (go_quiet (fail); try go_wp2)
        go_ret
        exact ⟨er_, be1_ HB GE208⟩
mutual
def pentaglotref22_Depth.l0 : Nat → Int → Int → Int → ByteArray → List (S92) → Int → Int → List (S32) → Option (Int)
 | 0, _, _, _, _, _, _, _, _ => none
 | k + 1, x3, x4, x216000, x216001, x216002, x216003, x216004, x216005 => if x4 < (x216005.length : Int) then (if 0 ≤ x4 then ((pentaglotref22_Depth.f k ((rd_T32 x216005 x4).f0) ((rd_T32 x216005 x4).f1) ((rd_T32 x216005 x4).f2) ((rd_T32 x216005 x4).f3) ((rd_T32 x216005 x4).f4) ((rd_T32 x216005 x4).f5)).bind fun t217 => (pentaglotref22_Depth.l0 k (mx x3 t217) (wrap64 (x4 + 1)) x216000 x216001 x216002 x216003 x216004 x216005)) else (none)) else (some (wrap64 (x3 + 1)))
def pentaglotref22_Depth.f : Nat → Int → ByteArray → List (S92) → Int → Int → List (S32) → Option (Int)
 | 0, _, _, _, _, _, _ => none
 | k + 1, a0_0, a0_1, l0_2, a0_3, a0_4, l0_5 => pentaglotref22_Depth.l0 k 0 0 a0_0 a0_1 l0_2 a0_3 a0_4 l0_5
end
theorem pentaglotref22_Depth.calls (k : Nat) : ∀ (a0_0 : Int) (a0_1 : ByteArray) (A0_2 : Option Addr) (c0_2 : Nat) (l0_2 : List (S92)) (a0_3 : Int) (a0_4 : Int) (A0_5 : Option Addr) (c0_5 : Nat) (l0_5 : List (S32)) (r : Int) (w : World) (hr0_2 : Kd.C k92 w A0_2 l0_2.length l0_2) (hc0_2 : l0_2.length ≤ c0_2) (hr0_5 : Kd.C k32 w A0_5 l0_5.length l0_5) (hc0_5 : l0_5.length ≤ c0_5) (h : pentaglotref22_Depth.f k a0_0 a0_1 l0_2 a0_3 a0_4 l0_5 = some r),
  Calls Tryd.prog 62 #[.agg #[.int .i64 a0_0, .string a0_1, .slice A0_2 l0_2.length c0_2, .int .i64 a0_3, .int .i64 a0_4, .slice A0_5 l0_5.length c0_5]] w fun e w' => e = .returned (.int .i64 r) ∧ Below w.heap.size w w' := by
 induction k using Nat.strongRecOn with
 | _ k ih =>
 intro a0_0 a0_1 A0_2 c0_2 l0_2 a0_3 a0_4 A0_5 c0_5 l0_5 r w hr0_2 hc0_2 hr0_5 hc0_5 h
 cases k with
 | zero => exact absurd h (by simp [pentaglotref22_Depth.f])
 | succ k =>
 simp only [pentaglotref22_Depth.f] at h
 have hu32 := Tryd.underlying32
 have HR0_2 := mk_ hr0_2; have HC0_2 := mk_ hc0_2; clear hr0_2 hc0_2
 have HR0_5 := mk_ hr0_5; have HC0_5 := mk_ hc0_5; clear hr0_5 hc0_5
 have HB := mk_ (Below.refl w.heap.size w)
 have H : (pentaglotref22_Depth.l0 k 0 0 a0_0 a0_1 l0_2 a0_3 a0_4 l0_5) = some r := h
 clear h
 have H' := mk_ H
 clear H
 go_enter Tryd.func62, Tryd.ntmps62
 go_wp2_with (first | ((with_reducible refine gate_dst (N := 1) rfl ?_); refine bx_ 1 #[.int .i64 a0_0, .string a0_1, .slice A0_2 l0_2.length c0_2, .int .i64 a0_3, .int .i64 a0_4, .slice A0_5 l0_5.length c0_5] 32 ?_; intro gb215 hg w2 hbox hb; have BK215 := mk_ (hbox); have GW215 := mk_ (gs_ hg (be_ HB)); have GE215 := mk_ (gs_ hg (be_ HB)); replace HB := mk_ (below_step (be_ HB) hb); clear hb hbox hg))
 go_loopg [3, 4] k (fun kq v3 v4 w' => ∃ (x3_1 : Int) (x4_1 : Int), v3 = .int .i64 x3_1 ∧ v4 = .int .i64 x4_1 ∧ Aside0 (pentaglotref22_Depth.l0 kq x3_1 x4_1 a0_0 a0_1 l0_2 a0_3 a0_4 l0_5 = some r) ∧ Aside0 (kq ≤ k) ∧ Aside0 (w'.heap[gb215]? = some (.cells #[.int .i64 a0_0, .string a0_1, (.slice A0_2 l0_2.length c0_2), .int .i64 a0_3, .int .i64 a0_4, (.slice A0_5 l0_5.length c0_5)] 32 (0, 0))) ∧ Aside0 (Below w.heap.size w w'))
 case atStart => exact ⟨(0), (0), fi_, fi_, H', ⟨Nat.le_refl _⟩, ⟨bq_ BK215⟩, ⟨be1_ HB GE215⟩⟩
 case round =>
  clear H'
  obtain ⟨x3_1, x4_1, rfl, rfl, HA, HK1, BK215, HB⟩ := hrel
  cases gk with
  | zero => exact absurd HA.out (by simp [pentaglotref22_Depth.l0])
  | succ k1 =>
   have H := HA.out
   clear HA
   simp only [pentaglotref22_Depth.l0] at H
   by_cases c3 : x4_1 < (l0_5.length : Int)
   ·rw [if_pos c3] at H
    have c3b0 : decide (x4_1 < (l0_5.length : Int)) = true := decide_eq_true c3
    clear c3
    by_cases c4 : 0 ≤ x4_1
    ·rw [if_pos c4] at H
     have c4b0 : decide (0 ≤ x4_1) = true := decide_eq_true c4
     clear c4
     replace H := Option.bind_eq_some_iff.mp H
     obtain ⟨t217, A50, H⟩ := H
     replace H : (pentaglotref22_Depth.l0 k1 (mx x3_1 t217) (wrap64 (x4_1 + 1)) a0_0 a0_1 l0_2 a0_3 a0_4 l0_5) = some r := H
     have A5 := mk_ A50
     clear A50
     obtain ⟨ji6, hji6⟩ : ∃ j_ : Int, (mx x3_1 t217) = j_ := ⟨_, rfl⟩
     replace H : (pentaglotref22_Depth.l0 k1 ji6 (wrap64 (x4_1 + 1)) a0_0 a0_1 l0_2 a0_3 a0_4 l0_5) = some r := by first | (rw [hji6] at H; exact H) | (simp only [hji6] at H ⊢; exact H)
     (try rw [hji6] at A5)
     have hji6_ : (if x3_1 < t217 then t217 else x3_1) = ji6 := hji6
     have H' := mk_ H
     clear H
     obtain ⟨_, _, _, _, _, _, _, _, _, _, _, _⟩ := hb6_ BK215
     have p216 : 0 ≤ (x4_1 : Int) := of_decide_eq_true (by first | (with_reducible assumption) | assumption)
     have q216 : x4_1 < (l0_5.length : Int) := of_decide_eq_true (by first | (with_reducible assumption) | assumption)
     obtain ⟨ad216, A216_2, c216_2, A216_5, c216_5, e216, hx216_0, hx216_1, hx216_2, hx216_3, hx216_4, hx216_5, hl216_2, hi216_2, hl216_5, hi216_5⟩ := at_T32 HR0_5.out x4_1 p216 q216
     cases e216
     replace hx216_0 := cb_ HB hx216_0
     replace hx216_1 := cb_ HB hx216_1
     replace hx216_2 := cb_ HB hx216_2
     replace hx216_3 := cb_ HB hx216_3
     replace hx216_4 := cb_ HB hx216_4
     replace hx216_5 := cb_ HB hx216_5
     have HR216_2 := mk_ hi216_2; have HC216_2 := mk_ hl216_2; clear hi216_2 hl216_2
     have HR216_5 := mk_ hi216_5; have HC216_5 := mk_ hl216_5; clear hi216_5 hl216_5
     replace p216 := eq_true p216
     replace q216 := eq_true q216
     go_wp2_with (first | ((with_reducible refine gate_callee (f := 62) rfl ?_); refine gl_ (some 18) Tryd.func62 #[.agg #[.int .i64 ((rd_T32 l0_5 x4_1).f0), .string ((rd_T32 l0_5 x4_1).f1), .slice A216_2 ((rd_T32 l0_5 x4_1).f2).length c216_2, .int .i64 ((rd_T32 l0_5 x4_1).f3), .int .i64 ((rd_T32 l0_5 x4_1).f4), .slice A216_5 ((rd_T32 l0_5 x4_1).f5).length c216_5]] ?_; (with_reducible refine (ih k1 (by have := HK1.out; omega) ((rd_T32 l0_5 x4_1).f0) ((rd_T32 l0_5 x4_1).f1) _ _ ((rd_T32 l0_5 x4_1).f2) ((rd_T32 l0_5 x4_1).f3) ((rd_T32 l0_5 x4_1).f4) _ _ ((rd_T32 l0_5 x4_1).f5) t217 _ ?side1 ?side2 ?side3 ?side4 A5.out).mono ?_); (case side1 => exact cs_ (Kd.C_below HR216_2.out HB.out)); (case side2 => exact HC216_2.out); (case side3 => exact cs_ (Kd.C_below HR216_5.out HB.out)); (case side4 => exact HC216_5.out); rintro e w8 ⟨rfl, hb⟩; refine ⟨_, rfl, ?_⟩; replace BK215 := mk_ (bb_ BK215 hb); replace HB := mk_ (below_step (be1_ HB GE215) hb)))
     go_roundg k1
     case measure => have := HK1.out; omega
     case rel => exact ⟨(ji6), (wrap64 (x4_1 + 1)), (by first | rfl | (simp; done) | (simp only [← hji6] <;> (first | rfl | simp)) | (simp [*]; done)), fi_, H', ⟨by have := HK1.out; omega⟩, ⟨bq_ BK215⟩, ⟨be1_ HB GE215⟩⟩
    ·rw [if_neg c4] at H
     exact absurd H (by simp)
   ·rw [if_neg c3] at H
    have c3b0 : decide (x4_1 < (l0_5.length : Int)) = false := decide_eq_false c3
    clear c3
    obtain rfl := Option.some.inj H
    obtain ⟨_, _, _, _, _, _, _, _, _, _, _, _⟩ := hb6_ BK215
    go_wp2
    go_ret
    exact ⟨er_, be1_ HB GE215⟩
def pentaglotref22_Binds.f (a0 : Int) : Option (Bool) := if a0 = 8 then (some true) else (some (a0 == 9))
theorem pentaglotref22_Binds.calls (a0 : Int) (r : Bool) (w : World) (h : pentaglotref22_Binds.f a0 = some r) :
  Calls Tryd.prog 28 #[.int .i64 a0] w fun e w' => e = .returned (.bool r) ∧ Drawn0 w w' := by
 have H : (if a0 = 8 then (some true) else (some (a0 == 9))) = some r := h
 clear h
 by_cases c2 : a0 = 8
 ·rw [if_pos c2] at H
  obtain ⟨c2b0, c2b1⟩ := eb_ c2
  clear c2
  obtain rfl := Option.some.inj H
  go_enter Tryd.func28, Tryd.ntmps28
  go_wp2
  go_ret
  exact ⟨by first | rfl | (simp [pw_isEmpty]; done) | (simp; done) | (simp [*]; done), by repeat (first | exact Drawn0.refl _ | apply Drawn0.step)⟩
 ·rw [if_neg c2] at H
  obtain ⟨c2b0, c2b1⟩ := en_ c2
  obtain rfl := Option.some.inj H
  go_enter Tryd.func28, Tryd.ntmps28
  go_wp2
  go_ret
  exact ⟨by first | rfl | (simp [pw_isEmpty]; done) | (simp; done) | (simp [*]; done), by repeat (first | exact Drawn0.refl _ | apply Drawn0.step)⟩
def pentaglotref22_inside.f (a0_0 : Int) (a0_1 : ByteArray) (l0_2 : List (S92)) (a0_3 : Int) (a0_4 : Int) (l0_5 : List (S32)) (a1 : Int) : Option (Int) := (pentaglotref22_Binds.f a0_0).bind fun t219 => (if t219 = true then (some (wrap64 (a1 + 1))) else (some a1))
theorem pentaglotref22_inside.calls (a0_0 : Int) (a0_1 : ByteArray) (A0_2 : Option Addr) (c0_2 : Nat) (l0_2 : List (S92)) (a0_3 : Int) (a0_4 : Int) (A0_5 : Option Addr) (c0_5 : Nat) (l0_5 : List (S32)) (a1 : Int) (r : Int) (w : World) (hr0_2 : Kd.C k92 w A0_2 l0_2.length l0_2) (hc0_2 : l0_2.length ≤ c0_2) (hr0_5 : Kd.C k32 w A0_5 l0_5.length l0_5) (hc0_5 : l0_5.length ≤ c0_5) (h : pentaglotref22_inside.f a0_0 a0_1 l0_2 a0_3 a0_4 l0_5 a1 = some r) :
  Calls Tryd.prog 70 #[.agg #[.int .i64 a0_0, .string a0_1, .slice A0_2 l0_2.length c0_2, .int .i64 a0_3, .int .i64 a0_4, .slice A0_5 l0_5.length c0_5], .int .i64 a1] w fun e w' => e = .returned (.int .i64 r) ∧ Below w.heap.size w w' := by
 have hu32 := Tryd.underlying32
 have HR0_2 := mk_ hr0_2; have HC0_2 := mk_ hc0_2; clear hr0_2 hc0_2
 have HR0_5 := mk_ hr0_5; have HC0_5 := mk_ hc0_5; clear hr0_5 hc0_5
 have HB := mk_ (Below.refl w.heap.size w)
 have H : ((pentaglotref22_Binds.f a0_0).bind fun t219 => (if t219 = true then (some (wrap64 (a1 + 1))) else (some a1))) = some r := h
 clear h
 replace H := Option.bind_eq_some_iff.mp H
 obtain ⟨t219, A30, H⟩ := H
 replace H : (if t219 = true then (some (wrap64 (a1 + 1))) else (some a1)) = some r := H
 have A3 := mk_ A30
 clear A30
 by_cases c4 : t219 = true
 ·subst c4
  rw [if_pos rfl] at H
  obtain rfl := Option.some.inj H
  go_enter Tryd.func70, Tryd.ntmps70
  go_wp2_with (first | ((with_reducible refine gate_dst (N := 2) rfl ?_); refine bx_ 2 #[.int .i64 a0_0, .string a0_1, .slice A0_2 l0_2.length c0_2, .int .i64 a0_3, .int .i64 a0_4, .slice A0_5 l0_5.length c0_5] 32 ?_; intro gb218 hg w5 hbox hb; have BK218 := mk_ (hbox); have GW218 := mk_ (gs_ hg (be_ HB)); have GE218 := mk_ (gs_ hg (be_ HB)); replace HB := mk_ (below_step (be_ HB) hb); clear hb hbox hg; obtain ⟨_, _, _, _, _, _, _, _, _, _, _, _⟩ := hb6_ BK218) | ((with_reducible refine gate_callee (f := 28) rfl ?_); refine gl_ (some 7) Tryd.func28 #[.int .i64 a0_0] ?_; (with_reducible refine (pentaglotref22_Binds.calls a0_0 true _ A3.out).mono ?_); rintro e w' ⟨rfl, ⟨nd, rfl⟩⟩; refine ⟨_, rfl, ?_⟩))
  go_ret
  exact ⟨er_, be1_ HB GE218⟩
 ·replace c4 := Bool.eq_false_iff.mpr c4
  subst c4
  rw [if_neg nf_] at H
  obtain rfl := Option.some.inj H
  go_enter Tryd.func70, Tryd.ntmps70
  go_wp2_with (first | ((with_reducible refine gate_dst (N := 2) rfl ?_); refine bx_ 2 #[.int .i64 a0_0, .string a0_1, .slice A0_2 l0_2.length c0_2, .int .i64 a0_3, .int .i64 a0_4, .slice A0_5 l0_5.length c0_5] 32 ?_; intro gb218 hg w7 hbox hb; have BK218 := mk_ (hbox); have GW218 := mk_ (gs_ hg (be_ HB)); have GE218 := mk_ (gs_ hg (be_ HB)); replace HB := mk_ (below_step (be_ HB) hb); clear hb hbox hg; obtain ⟨_, _, _, _, _, _, _, _, _, _, _, _⟩ := hb6_ BK218) | ((with_reducible refine gate_callee (f := 28) rfl ?_); refine gl_ (some 7) Tryd.func28 #[.int .i64 a0_0] ?_; (with_reducible refine (pentaglotref22_Binds.calls a0_0 false _ A3.out).mono ?_); rintro e w' ⟨rfl, ⟨nd, rfl⟩⟩; refine ⟨_, rfl, ?_⟩))
  go_ret
  exact ⟨er_, be1_ HB GE218⟩
def pentaglotref22_lower.f (a0 : Int) : Option (Bool) := if a0 ≥ 97 then (some (decide (a0 ≤ 122))) else (some false)
theorem pentaglotref22_lower.calls (a0 : Int) (r : Bool) (w : World) (h : pentaglotref22_lower.f a0 = some r) :
  Calls Tryd.prog 85 #[.int .u8 a0] w fun e w' => e = .returned (.bool r) ∧ Drawn0 w w' := by
 have H : (if a0 ≥ 97 then (some (decide (a0 ≤ 122))) else (some false)) = some r := h
 clear h
 by_cases c2 : a0 ≥ 97
 ·rw [if_pos c2] at H
  have c2b0 : decide (97 ≤ a0) = true := decide_eq_true c2
  clear c2
  obtain rfl := Option.some.inj H
  go_enter Tryd.func85, Tryd.ntmps85
  go_wp2
  go_ret
  exact ⟨by first | rfl | (simp [pw_isEmpty]; done) | (simp; done) | (simp [*]; done), by repeat (first | exact Drawn0.refl _ | apply Drawn0.step)⟩
 ·rw [if_neg c2] at H
  have c2b0 : decide (97 ≤ a0) = false := decide_eq_false c2
  clear c2
  obtain rfl := Option.some.inj H
  go_enter Tryd.func85, Tryd.ntmps85
  go_wp2
  go_ret
  exact ⟨by first | rfl | (simp [pw_isEmpty]; done) | (simp; done) | (simp [*]; done), by repeat (first | exact Drawn0.refl _ | apply Drawn0.step)⟩
def pentaglotref22_tail.f (a0 : Int) : Option (Bool) := (pentaglotref22_lower.f a0).bind fun t220 => (if t220 = true then (some true) else (if a0 ≥ 48 then (if a0 ≤ 57 then (some true) else (some (a0 == 45))) else (some (a0 == 45))))
theorem pentaglotref22_tail.calls (a0 : Int) (r : Bool) (w : World) (h : pentaglotref22_tail.f a0 = some r) :
  Calls Tryd.prog 86 #[.int .u8 a0] w fun e w' => e = .returned (.bool r) ∧ Drawn0 w w' := by
 have H : ((pentaglotref22_lower.f a0).bind fun t220 => (if t220 = true then (some true) else (if a0 ≥ 48 then (if a0 ≤ 57 then (some true) else (some (a0 == 45))) else (some (a0 == 45))))) = some r := h
 clear h
 replace H := Option.bind_eq_some_iff.mp H
 obtain ⟨t220, A20, H⟩ := H
 replace H : (if t220 = true then (some true) else (if a0 ≥ 48 then (if a0 ≤ 57 then (some true) else (some (a0 == 45))) else (some (a0 == 45)))) = some r := H
 have A2 := mk_ A20
 clear A20
 by_cases c3 : t220 = true
 ·subst c3
  rw [if_pos rfl] at H
  obtain rfl := Option.some.inj H
  go_enter Tryd.func86, Tryd.ntmps86
  go_wp2_with (first | ((with_reducible refine gate_callee (f := 85) rfl ?_); refine gl_ (some 4) Tryd.func85 #[.int .u8 a0] ?_; (with_reducible refine (pentaglotref22_lower.calls a0 true _ A2.out).mono ?_); rintro e w' ⟨rfl, ⟨nd, rfl⟩⟩; refine ⟨_, rfl, ?_⟩))
  go_ret
  exact ⟨by first | rfl | (simp [pw_isEmpty]; done) | (simp; done) | (simp [*]; done), by repeat (first | exact Drawn0.refl _ | apply Drawn0.step)⟩
 ·replace c3 := Bool.eq_false_iff.mpr c3
  subst c3
  rw [if_neg nf_] at H
  by_cases c4 : a0 ≥ 48
  ·rw [if_pos c4] at H
   have c4b0 : decide (48 ≤ a0) = true := decide_eq_true c4
   clear c4
   by_cases c5 : a0 ≤ 57
   ·rw [if_pos c5] at H
    have c5b0 : decide (a0 ≤ 57) = true := decide_eq_true c5
    clear c5
    obtain rfl := Option.some.inj H
    go_enter Tryd.func86, Tryd.ntmps86
    go_wp2_with (first | ((with_reducible refine gate_callee (f := 85) rfl ?_); refine gl_ (some 4) Tryd.func85 #[.int .u8 a0] ?_; (with_reducible refine (pentaglotref22_lower.calls a0 false _ A2.out).mono ?_); rintro e w' ⟨rfl, ⟨nd, rfl⟩⟩; refine ⟨_, rfl, ?_⟩))
    go_ret
    exact ⟨by first | rfl | (simp [pw_isEmpty]; done) | (simp; done) | (simp [*]; done), by repeat (first | exact Drawn0.refl _ | apply Drawn0.step)⟩
   ·rw [if_neg c5] at H
    have c5b0 : decide (a0 ≤ 57) = false := decide_eq_false c5
    clear c5
    obtain rfl := Option.some.inj H
    go_enter Tryd.func86, Tryd.ntmps86
    go_wp2_with (first | ((with_reducible refine gate_callee (f := 85) rfl ?_); refine gl_ (some 4) Tryd.func85 #[.int .u8 a0] ?_; (with_reducible refine (pentaglotref22_lower.calls a0 false _ A2.out).mono ?_); rintro e w' ⟨rfl, ⟨nd, rfl⟩⟩; refine ⟨_, rfl, ?_⟩))
    go_ret
    exact ⟨by first | rfl | (simp [pw_isEmpty]; done) | (simp; done) | (simp [*]; done), by repeat (first | exact Drawn0.refl _ | apply Drawn0.step)⟩
  ·rw [if_neg c4] at H
   have c4b0 : decide (48 ≤ a0) = false := decide_eq_false c4
   clear c4
   obtain rfl := Option.some.inj H
   go_enter Tryd.func86, Tryd.ntmps86
   go_wp2_with (first | ((with_reducible refine gate_callee (f := 85) rfl ?_); refine gl_ (some 4) Tryd.func85 #[.int .u8 a0] ?_; (with_reducible refine (pentaglotref22_lower.calls a0 false _ A2.out).mono ?_); rintro e w' ⟨rfl, ⟨nd, rfl⟩⟩; refine ⟨_, rfl, ?_⟩))
   go_ret
   exact ⟨by first | rfl | (simp [pw_isEmpty]; done) | (simp; done) | (simp [*]; done), by repeat (first | exact Drawn0.refl _ | apply Drawn0.step)⟩
def pentaglotref22_Symbol.l0 : Nat → ByteArray → Int → Option (Bool)
 | 0, _, _ => none
 | k + 1, x0, x3 => if x3 < (x0.size : Int) then (if x3 = 0 then (if 0 ≤ x3 then ((pentaglotref22_lower.f (bt x0 x3)).bind fun t221 => (if t221 = true then ((pentaglotref22_tail.f (bt x0 x3)).bind fun t222 => (if t222 = true then (pentaglotref22_Symbol.l0 k x0 (wrap64 (x3 + 1))) else (some false))) else (some false))) else (none)) else (if 0 ≤ x3 then ((pentaglotref22_tail.f (bt x0 x3)).bind fun t223 => (if t223 = true then (pentaglotref22_Symbol.l0 k x0 (wrap64 (x3 + 1))) else (some false))) else (none))) else (some (decide ((x0.size : Int) > 0)))
def pentaglotref22_Symbol.f (k : Nat) (a0 : ByteArray) : Option (Bool) := pentaglotref22_Symbol.l0 k a0 0
theorem pentaglotref22_Symbol.calls (k : Nat) (a0 : ByteArray) (r : Bool) (w : World) (h : pentaglotref22_Symbol.f k a0 = some r) :
  Calls Tryd.prog 79 #[.string a0] w fun e w' => e = .returned (.bool r) ∧ Drawn0 w w' := by
 have H : (pentaglotref22_Symbol.l0 k a0 0) = some r := h
 clear h
 have H' := mk_ H
 clear H
 go_enter Tryd.func79, Tryd.ntmps79
 go_wp2
 go_loopg [3] k (fun kq v3 w' => ∃ (x3_1 : Int), v3 = .int .i64 x3_1 ∧ Aside0 (pentaglotref22_Symbol.l0 kq a0 x3_1 = some r) ∧ Aside0 (kq ≤ k) ∧ Drawn0 w w')
 case atStart => exact ⟨(0), fi_, H', ⟨Nat.le_refl _⟩, by repeat (first | exact Drawn0.refl _ | apply Drawn0.step)⟩
 case round =>
  clear H'
  obtain ⟨x3_1, rfl, HA, HK1, ⟨m1, rfl⟩⟩ := hrel
  cases gk with
  | zero => exact absurd HA.out (by simp [pentaglotref22_Symbol.l0])
  | succ k1 =>
   have H := HA.out
   clear HA
   simp only [pentaglotref22_Symbol.l0] at H
   by_cases c2 : x3_1 < (a0.size : Int)
   ·rw [if_pos c2] at H
    have c2b0 : decide (x3_1 < (a0.size : Int)) = true := decide_eq_true c2
    clear c2
    by_cases c3 : x3_1 = 0
    ·rw [if_pos c3] at H
     obtain ⟨c3b0, c3b1⟩ := eb_ c3
     clear c3
     by_cases c4 : 0 ≤ x3_1
     ·rw [if_pos c4] at H
      have c4b0 : decide (0 ≤ x3_1) = true := decide_eq_true c4
      clear c4
      replace H := Option.bind_eq_some_iff.mp H
      obtain ⟨t221, A60, H⟩ := H
      replace H : (if t221 = true then ((pentaglotref22_tail.f (bt a0 x3_1)).bind fun t222 => (if t222 = true then (pentaglotref22_Symbol.l0 k1 a0 (wrap64 (x3_1 + 1))) else (some false))) else (some false)) = some r := H
      have A6 := mk_ A60
      clear A60
      by_cases c7 : t221 = true
      ·subst c7
       rw [if_pos rfl] at H
       replace H := Option.bind_eq_some_iff.mp H
       obtain ⟨t222, A90, H⟩ := H
       replace H : (if t222 = true then (pentaglotref22_Symbol.l0 k1 a0 (wrap64 (x3_1 + 1))) else (some false)) = some r := H
       have A9 := mk_ A90
       clear A90
       by_cases c10 : t222 = true
       ·subst c10
        rw [if_pos rfl] at H
        have H' := mk_ H
        clear H
        have p5 : 0 ≤ (x3_1 : Int) := of_decide_eq_true (by first | (with_reducible assumption) | assumption)
        have q5 : x3_1 < (a0.size : Int) := of_decide_eq_true (by first | (with_reducible assumption) | assumption)
        have hx5 := bt_at a0 x3_1
        replace p5 := eq_true p5
        replace q5 := eq_true q5
        go_wp2_with (first | (go_at_call 85; (with_reducible refine (pentaglotref22_lower.calls (bt a0 x3_1) true _ A6.out).mono ?_); rintro e w' ⟨rfl, ⟨nd, rfl⟩⟩; have p8 : 0 ≤ (x3_1 : Int) := of_decide_eq_true (by first | (with_reducible assumption) | assumption); have q8 : x3_1 < (a0.size : Int) := of_decide_eq_true (by first | (with_reducible assumption) | assumption); have hx8 := bt_at a0 x3_1; replace p8 := eq_true p8; replace q8 := eq_true q8) | (go_at_call 86; (with_reducible refine (pentaglotref22_tail.calls (bt a0 x3_1) true _ A9.out).mono ?_); rintro e w' ⟨rfl, ⟨nd, rfl⟩⟩))
        go_roundg k1
        case measure => have := HK1.out; omega
        case rel => exact ⟨(wrap64 (x3_1 + 1)), fi_, H', ⟨by have := HK1.out; omega⟩, by repeat (first | exact Drawn0.refl _ | apply Drawn0.step)⟩
       ·replace c10 := Bool.eq_false_iff.mpr c10
        subst c10
        rw [if_neg nf_] at H
        obtain rfl := Option.some.inj H
        have p5 : 0 ≤ (x3_1 : Int) := of_decide_eq_true (by first | (with_reducible assumption) | assumption)
        have q5 : x3_1 < (a0.size : Int) := of_decide_eq_true (by first | (with_reducible assumption) | assumption)
        have hx5 := bt_at a0 x3_1
        replace p5 := eq_true p5
        replace q5 := eq_true q5
        go_wp2_with (first | (go_at_call 85; (with_reducible refine (pentaglotref22_lower.calls (bt a0 x3_1) true _ A6.out).mono ?_); rintro e w' ⟨rfl, ⟨nd, rfl⟩⟩; have p8 : 0 ≤ (x3_1 : Int) := of_decide_eq_true (by first | (with_reducible assumption) | assumption); have q8 : x3_1 < (a0.size : Int) := of_decide_eq_true (by first | (with_reducible assumption) | assumption); have hx8 := bt_at a0 x3_1; replace p8 := eq_true p8; replace q8 := eq_true q8) | (go_at_call 86; (with_reducible refine (pentaglotref22_tail.calls (bt a0 x3_1) false _ A9.out).mono ?_); rintro e w' ⟨rfl, ⟨nd, rfl⟩⟩))
        go_ret
        exact ⟨by first | rfl | (simp [pw_isEmpty]; done) | (simp; done) | (simp [*]; done), by repeat (first | exact Drawn0.refl _ | apply Drawn0.step)⟩
      ·replace c7 := Bool.eq_false_iff.mpr c7
       subst c7
       rw [if_neg nf_] at H
       obtain rfl := Option.some.inj H
       have p5 : 0 ≤ (x3_1 : Int) := of_decide_eq_true (by first | (with_reducible assumption) | assumption)
       have q5 : x3_1 < (a0.size : Int) := of_decide_eq_true (by first | (with_reducible assumption) | assumption)
       have hx5 := bt_at a0 x3_1
       replace p5 := eq_true p5
       replace q5 := eq_true q5
       go_wp2_with (first | (go_at_call 85; (with_reducible refine (pentaglotref22_lower.calls (bt a0 x3_1) false _ A6.out).mono ?_); rintro e w' ⟨rfl, ⟨nd, rfl⟩⟩))
       go_ret
       exact ⟨by first | rfl | (simp [pw_isEmpty]; done) | (simp; done) | (simp [*]; done), by repeat (first | exact Drawn0.refl _ | apply Drawn0.step)⟩
     ·rw [if_neg c4] at H
      exact absurd H (by simp)
    ·rw [if_neg c3] at H
     obtain ⟨c3b0, c3b1⟩ := en_ c3
     by_cases c11 : 0 ≤ x3_1
     ·rw [if_pos c11] at H
      have c11b0 : decide (0 ≤ x3_1) = true := decide_eq_true c11
      clear c11
      replace H := Option.bind_eq_some_iff.mp H
      obtain ⟨t223, A130, H⟩ := H
      replace H : (if t223 = true then (pentaglotref22_Symbol.l0 k1 a0 (wrap64 (x3_1 + 1))) else (some false)) = some r := H
      have A13 := mk_ A130
      clear A130
      by_cases c14 : t223 = true
      ·subst c14
       rw [if_pos rfl] at H
       have H' := mk_ H
       clear H
       have p12 : 0 ≤ (x3_1 : Int) := of_decide_eq_true (by first | (with_reducible assumption) | assumption)
       have q12 : x3_1 < (a0.size : Int) := of_decide_eq_true (by first | (with_reducible assumption) | assumption)
       have hx12 := bt_at a0 x3_1
       replace p12 := eq_true p12
       replace q12 := eq_true q12
       go_wp2_with (first | (go_at_call 86; (with_reducible refine (pentaglotref22_tail.calls (bt a0 x3_1) true _ A13.out).mono ?_); rintro e w' ⟨rfl, ⟨nd, rfl⟩⟩))
       go_roundg k1
       case measure => have := HK1.out; omega
       case rel => exact ⟨(wrap64 (x3_1 + 1)), fi_, H', ⟨by have := HK1.out; omega⟩, by repeat (first | exact Drawn0.refl _ | apply Drawn0.step)⟩
      ·replace c14 := Bool.eq_false_iff.mpr c14
       subst c14
       rw [if_neg nf_] at H
       obtain rfl := Option.some.inj H
       have p12 : 0 ≤ (x3_1 : Int) := of_decide_eq_true (by first | (with_reducible assumption) | assumption)
       have q12 : x3_1 < (a0.size : Int) := of_decide_eq_true (by first | (with_reducible assumption) | assumption)
       have hx12 := bt_at a0 x3_1
       replace p12 := eq_true p12
       replace q12 := eq_true q12
       go_wp2_with (first | (go_at_call 86; (with_reducible refine (pentaglotref22_tail.calls (bt a0 x3_1) false _ A13.out).mono ?_); rintro e w' ⟨rfl, ⟨nd, rfl⟩⟩))
       go_ret
       exact ⟨by first | rfl | (simp [pw_isEmpty]; done) | (simp; done) | (simp [*]; done), by repeat (first | exact Drawn0.refl _ | apply Drawn0.step)⟩
     ·rw [if_neg c11] at H
      exact absurd H (by simp)
   ·rw [if_neg c2] at H
    have c2b0 : decide (x3_1 < (a0.size : Int)) = false := decide_eq_false c2
    clear c2
    obtain rfl := Option.some.inj H
    go_wp2
    go_ret
    exact ⟨by first | rfl | (simp [pw_isEmpty]; done) | (simp; done) | (simp [*]; done), by repeat (first | exact Drawn0.refl _ | apply Drawn0.step)⟩
def pentaglotref22_Reference.f (k : Nat) (a0_0 : Int) (a0_1 : Int) (a0_2 : ByteArray) (a1 : Int) : Option (Bool) := if a0_0 = 1 then (if a0_2.toList = ([] : List UInt8) then (if a0_1 ≥ 0 then (some (decide (a0_1 < a1))) else (some false)) else (some false)) else (if a0_0 = 2 then ((pentaglotref22_Symbol.f k a0_2).bind fun t225 => (if t225 = true then (some (a0_1 == 0)) else (some false))) else (if a0_0 = 3 then (if a0_2.toList = ([] : List UInt8) then (if a0_1 ≥ 0 then (some (decide (a0_1 ≤ 1439999999))) else (some false)) else (some false)) else (if a0_0 = 4 then (if a0_2.toList = ([] : List UInt8) then (if a0_1 ≥ 0 then (some (decide (a0_1 ≤ 1099511627776))) else (some false)) else (some false)) else (some false))))
theorem pentaglotref22_Reference.calls (k : Nat) (a0_0 : Int) (a0_1 : Int) (a0_2 : ByteArray) (a1 : Int) (r : Bool) (w : World) (h : pentaglotref22_Reference.f k a0_0 a0_1 a0_2 a1 = some r) :
  Calls Tryd.prog 78 #[.agg #[.int .i64 a0_0, .int .i64 a0_1, .string a0_2], .int .i64 a1] w fun e w' => e = .returned (.bool r) ∧ Below w.heap.size w w' := by
 have hu92 := Tryd.underlying92
 have HB := mk_ (Below.refl w.heap.size w)
 have H : (if a0_0 = 1 then (if a0_2.toList = ([] : List UInt8) then (if a0_1 ≥ 0 then (some (decide (a0_1 < a1))) else (some false)) else (some false)) else (if a0_0 = 2 then ((pentaglotref22_Symbol.f k a0_2).bind fun t225 => (if t225 = true then (some (a0_1 == 0)) else (some false))) else (if a0_0 = 3 then (if a0_2.toList = ([] : List UInt8) then (if a0_1 ≥ 0 then (some (decide (a0_1 ≤ 1439999999))) else (some false)) else (some false)) else (if a0_0 = 4 then (if a0_2.toList = ([] : List UInt8) then (if a0_1 ≥ 0 then (some (decide (a0_1 ≤ 1099511627776))) else (some false)) else (some false)) else (some false))))) = some r := h
 clear h
 by_cases c3 : a0_0 = 1
 ·rw [if_pos c3] at H
  obtain ⟨c3b0, c3b1⟩ := eb_ c3
  clear c3
  by_cases c4 : a0_2.toList = ([] : List UInt8)
  ·rw [if_pos c4] at H
   obtain ⟨c4b0, c4b1⟩ := eb_ c4
   clear c4
   by_cases c5 : a0_1 ≥ 0
   ·rw [if_pos c5] at H
    have c5b0 : decide (0 ≤ a0_1) = true := decide_eq_true c5
    clear c5
    obtain rfl := Option.some.inj H
    go_enter Tryd.func78, Tryd.ntmps78
    go_wp2_with (first | ((with_reducible refine gate_dst (N := 2) rfl ?_); refine bx_ 2 #[.int .i64 a0_0, .int .i64 a0_1, .string a0_2] 92 ?_; intro gb224 hg w6 hbox hb; have BK224 := mk_ (hbox); have GW224 := mk_ (gs_ hg (be_ HB)); have GE224 := mk_ (gs_ hg (be_ HB)); replace HB := mk_ (below_step (be_ HB) hb); clear hb hbox hg; obtain ⟨_, _, _, _, _, _⟩ := hb3_ BK224))
    go_ret
    exact ⟨er_, be1_ HB GE224⟩
   ·rw [if_neg c5] at H
    have c5b0 : decide (0 ≤ a0_1) = false := decide_eq_false c5
    clear c5
    obtain rfl := Option.some.inj H
    go_enter Tryd.func78, Tryd.ntmps78
    go_wp2_with (first | ((with_reducible refine gate_dst (N := 2) rfl ?_); refine bx_ 2 #[.int .i64 a0_0, .int .i64 a0_1, .string a0_2] 92 ?_; intro gb224 hg w8 hbox hb; have BK224 := mk_ (hbox); have GW224 := mk_ (gs_ hg (be_ HB)); have GE224 := mk_ (gs_ hg (be_ HB)); replace HB := mk_ (below_step (be_ HB) hb); clear hb hbox hg; obtain ⟨_, _, _, _, _, _⟩ := hb3_ BK224))
    go_ret
    exact ⟨er_, be1_ HB GE224⟩
  ·rw [if_neg c4] at H
   obtain ⟨c4b0, c4b1⟩ := en_ c4
   obtain rfl := Option.some.inj H
   go_enter Tryd.func78, Tryd.ntmps78
   go_wp2_with (first | ((with_reducible refine gate_dst (N := 2) rfl ?_); refine bx_ 2 #[.int .i64 a0_0, .int .i64 a0_1, .string a0_2] 92 ?_; intro gb224 hg w10 hbox hb; have BK224 := mk_ (hbox); have GW224 := mk_ (gs_ hg (be_ HB)); have GE224 := mk_ (gs_ hg (be_ HB)); replace HB := mk_ (below_step (be_ HB) hb); clear hb hbox hg; obtain ⟨_, _, _, _, _, _⟩ := hb3_ BK224))
   go_ret
   exact ⟨er_, be1_ HB GE224⟩
 ·rw [if_neg c3] at H
  obtain ⟨c3b0, c3b1⟩ := en_ c3
  by_cases c12 : a0_0 = 2
  ·rw [if_pos c12] at H
   obtain ⟨c12b0, c12b1⟩ := eb_ c12
   clear c12
   replace H := Option.bind_eq_some_iff.mp H
   obtain ⟨t225, A130, H⟩ := H
   replace H : (if t225 = true then (some (a0_1 == 0)) else (some false)) = some r := H
   have A13 := mk_ A130
   clear A130
   by_cases c14 : t225 = true
   ·subst c14
    rw [if_pos rfl] at H
    obtain rfl := Option.some.inj H
    go_enter Tryd.func78, Tryd.ntmps78
    go_wp2_with (first | ((with_reducible refine gate_dst (N := 2) rfl ?_); refine bx_ 2 #[.int .i64 a0_0, .int .i64 a0_1, .string a0_2] 92 ?_; intro gb224 hg w15 hbox hb; have BK224 := mk_ (hbox); have GW224 := mk_ (gs_ hg (be_ HB)); have GE224 := mk_ (gs_ hg (be_ HB)); replace HB := mk_ (below_step (be_ HB) hb); clear hb hbox hg; obtain ⟨_, _, _, _, _, _⟩ := hb3_ BK224) | ((with_reducible refine gate_callee (f := 79) rfl ?_); refine gl_ (some 27) Tryd.func79 #[.string a0_2] ?_; (with_reducible refine (pentaglotref22_Symbol.calls k a0_2 true _ A13.out).mono ?_); rintro e w' ⟨rfl, ⟨nd, rfl⟩⟩; refine ⟨_, rfl, ?_⟩))
    go_ret
    exact ⟨er_, be1_ HB GE224⟩
   ·replace c14 := Bool.eq_false_iff.mpr c14
    subst c14
    rw [if_neg nf_] at H
    obtain rfl := Option.some.inj H
    go_enter Tryd.func78, Tryd.ntmps78
    go_wp2_with (first | ((with_reducible refine gate_dst (N := 2) rfl ?_); refine bx_ 2 #[.int .i64 a0_0, .int .i64 a0_1, .string a0_2] 92 ?_; intro gb224 hg w17 hbox hb; have BK224 := mk_ (hbox); have GW224 := mk_ (gs_ hg (be_ HB)); have GE224 := mk_ (gs_ hg (be_ HB)); replace HB := mk_ (below_step (be_ HB) hb); clear hb hbox hg; obtain ⟨_, _, _, _, _, _⟩ := hb3_ BK224) | ((with_reducible refine gate_callee (f := 79) rfl ?_); refine gl_ (some 27) Tryd.func79 #[.string a0_2] ?_; (with_reducible refine (pentaglotref22_Symbol.calls k a0_2 false _ A13.out).mono ?_); rintro e w' ⟨rfl, ⟨nd, rfl⟩⟩; refine ⟨_, rfl, ?_⟩))
    go_ret
    exact ⟨er_, be1_ HB GE224⟩
  ·rw [if_neg c12] at H
   obtain ⟨c12b0, c12b1⟩ := en_ c12
   by_cases c19 : a0_0 = 3
   ·rw [if_pos c19] at H
    obtain ⟨c19b0, c19b1⟩ := eb_ c19
    clear c19
    by_cases c20 : a0_2.toList = ([] : List UInt8)
    ·rw [if_pos c20] at H
     obtain ⟨c20b0, c20b1⟩ := eb_ c20
     clear c20
     by_cases c21 : a0_1 ≥ 0
     ·rw [if_pos c21] at H
      have c21b0 : decide (0 ≤ a0_1) = true := decide_eq_true c21
      clear c21
      obtain rfl := Option.some.inj H
      go_enter Tryd.func78, Tryd.ntmps78
      go_wp2_with (first | ((with_reducible refine gate_dst (N := 2) rfl ?_); refine bx_ 2 #[.int .i64 a0_0, .int .i64 a0_1, .string a0_2] 92 ?_; intro gb224 hg w22 hbox hb; have BK224 := mk_ (hbox); have GW224 := mk_ (gs_ hg (be_ HB)); have GE224 := mk_ (gs_ hg (be_ HB)); replace HB := mk_ (below_step (be_ HB) hb); clear hb hbox hg; obtain ⟨_, _, _, _, _, _⟩ := hb3_ BK224))
      go_ret
      exact ⟨er_, be1_ HB GE224⟩
     ·rw [if_neg c21] at H
      have c21b0 : decide (0 ≤ a0_1) = false := decide_eq_false c21
      clear c21
      obtain rfl := Option.some.inj H
      go_enter Tryd.func78, Tryd.ntmps78
      go_wp2_with (first | ((with_reducible refine gate_dst (N := 2) rfl ?_); refine bx_ 2 #[.int .i64 a0_0, .int .i64 a0_1, .string a0_2] 92 ?_; intro gb224 hg w24 hbox hb; have BK224 := mk_ (hbox); have GW224 := mk_ (gs_ hg (be_ HB)); have GE224 := mk_ (gs_ hg (be_ HB)); replace HB := mk_ (below_step (be_ HB) hb); clear hb hbox hg; obtain ⟨_, _, _, _, _, _⟩ := hb3_ BK224))
      go_ret
      exact ⟨er_, be1_ HB GE224⟩
    ·rw [if_neg c20] at H
     obtain ⟨c20b0, c20b1⟩ := en_ c20
     obtain rfl := Option.some.inj H
     go_enter Tryd.func78, Tryd.ntmps78
     go_wp2_with (first | ((with_reducible refine gate_dst (N := 2) rfl ?_); refine bx_ 2 #[.int .i64 a0_0, .int .i64 a0_1, .string a0_2] 92 ?_; intro gb224 hg w26 hbox hb; have BK224 := mk_ (hbox); have GW224 := mk_ (gs_ hg (be_ HB)); have GE224 := mk_ (gs_ hg (be_ HB)); replace HB := mk_ (below_step (be_ HB) hb); clear hb hbox hg; obtain ⟨_, _, _, _, _, _⟩ := hb3_ BK224))
     go_ret
     exact ⟨er_, be1_ HB GE224⟩
   ·rw [if_neg c19] at H
    obtain ⟨c19b0, c19b1⟩ := en_ c19
    by_cases c28 : a0_0 = 4
    ·rw [if_pos c28] at H
     obtain ⟨c28b0, c28b1⟩ := eb_ c28
     clear c28
     by_cases c29 : a0_2.toList = ([] : List UInt8)
     ·rw [if_pos c29] at H
      obtain ⟨c29b0, c29b1⟩ := eb_ c29
      clear c29
      by_cases c30 : a0_1 ≥ 0
      ·rw [if_pos c30] at H
       have c30b0 : decide (0 ≤ a0_1) = true := decide_eq_true c30
       clear c30
       obtain rfl := Option.some.inj H
       go_enter Tryd.func78, Tryd.ntmps78
       go_wp2_with (first | ((with_reducible refine gate_dst (N := 2) rfl ?_); refine bx_ 2 #[.int .i64 a0_0, .int .i64 a0_1, .string a0_2] 92 ?_; intro gb224 hg w31 hbox hb; have BK224 := mk_ (hbox); have GW224 := mk_ (gs_ hg (be_ HB)); have GE224 := mk_ (gs_ hg (be_ HB)); replace HB := mk_ (below_step (be_ HB) hb); clear hb hbox hg; obtain ⟨_, _, _, _, _, _⟩ := hb3_ BK224))
       go_ret
       exact ⟨er_, be1_ HB GE224⟩
      ·rw [if_neg c30] at H
       have c30b0 : decide (0 ≤ a0_1) = false := decide_eq_false c30
       clear c30
       obtain rfl := Option.some.inj H
       go_enter Tryd.func78, Tryd.ntmps78
       go_wp2_with (first | ((with_reducible refine gate_dst (N := 2) rfl ?_); refine bx_ 2 #[.int .i64 a0_0, .int .i64 a0_1, .string a0_2] 92 ?_; intro gb224 hg w33 hbox hb; have BK224 := mk_ (hbox); have GW224 := mk_ (gs_ hg (be_ HB)); have GE224 := mk_ (gs_ hg (be_ HB)); replace HB := mk_ (below_step (be_ HB) hb); clear hb hbox hg; obtain ⟨_, _, _, _, _, _⟩ := hb3_ BK224))
       go_ret
       exact ⟨er_, be1_ HB GE224⟩
     ·rw [if_neg c29] at H
      obtain ⟨c29b0, c29b1⟩ := en_ c29
      obtain rfl := Option.some.inj H
      go_enter Tryd.func78, Tryd.ntmps78
      go_wp2_with (first | ((with_reducible refine gate_dst (N := 2) rfl ?_); refine bx_ 2 #[.int .i64 a0_0, .int .i64 a0_1, .string a0_2] 92 ?_; intro gb224 hg w35 hbox hb; have BK224 := mk_ (hbox); have GW224 := mk_ (gs_ hg (be_ HB)); have GE224 := mk_ (gs_ hg (be_ HB)); replace HB := mk_ (below_step (be_ HB) hb); clear hb hbox hg; obtain ⟨_, _, _, _, _, _⟩ := hb3_ BK224))
      go_ret
      exact ⟨er_, be1_ HB GE224⟩
    ·rw [if_neg c28] at H
     obtain ⟨c28b0, c28b1⟩ := en_ c28
     obtain rfl := Option.some.inj H
     go_enter Tryd.func78, Tryd.ntmps78
     go_wp2_with (first | ((with_reducible refine gate_dst (N := 2) rfl ?_); refine bx_ 2 #[.int .i64 a0_0, .int .i64 a0_1, .string a0_2] 92 ?_; intro gb224 hg w37 hbox hb; have BK224 := mk_ (hbox); have GW224 := mk_ (gs_ hg (be_ HB)); have GE224 := mk_ (gs_ hg (be_ HB)); replace HB := mk_ (below_step (be_ HB) hb); clear hb hbox hg; obtain ⟨_, _, _, _, _, _⟩ := hb3_ BK224))
     go_ret
     exact ⟨er_, be1_ HB GE224⟩
def pentaglotref22_moment.f (a0 : Int) : Option (Bool) := if a0 ≥ (-1) then (some (decide (a0 ≤ 1439999999))) else (some false)
theorem pentaglotref22_moment.calls (a0 : Int) (r : Bool) (w : World) (h : pentaglotref22_moment.f a0 = some r) :
  Calls Tryd.prog 80 #[.int .i64 a0] w fun e w' => e = .returned (.bool r) ∧ Drawn0 w w' := by
 have H : (if a0 ≥ (-1) then (some (decide (a0 ≤ 1439999999))) else (some false)) = some r := h
 clear h
 by_cases c2 : a0 ≥ (-1)
 ·rw [if_pos c2] at H
  have c2b0 : decide ((-1) ≤ a0) = true := decide_eq_true c2
  clear c2
  obtain rfl := Option.some.inj H
  go_enter Tryd.func80, Tryd.ntmps80
  go_wp2
  go_ret
  exact ⟨by first | rfl | (simp [pw_isEmpty]; done) | (simp; done) | (simp [*]; done), by repeat (first | exact Drawn0.refl _ | apply Drawn0.step)⟩
 ·rw [if_neg c2] at H
  have c2b0 : decide ((-1) ≤ a0) = false := decide_eq_false c2
  clear c2
  obtain rfl := Option.some.inj H
  go_enter Tryd.func80, Tryd.ntmps80
  go_wp2
  go_ret
  exact ⟨by first | rfl | (simp [pw_isEmpty]; done) | (simp; done) | (simp [*]; done), by repeat (first | exact Drawn0.refl _ | apply Drawn0.step)⟩
end Go.Proofs.YtolpckflofjfhaaDoor.P
