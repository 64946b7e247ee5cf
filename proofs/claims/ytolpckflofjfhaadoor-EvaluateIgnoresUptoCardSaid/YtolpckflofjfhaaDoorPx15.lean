-- printed by wip/tools/xprint.py
import Derived.Test.YtolpckflofjfhaaDoorPx0
import Derived.Test.YtolpckflofjfhaaDoorPx14
namespace Go.Proofs.YtolpckflofjfhaaDoor.P
open Go.RowKit Go.Proofs.YtolpckflofjfhaaDoorW.PrintWords Go.Proofs.YtolpckflofjfhaaDoorW.PrintLast Go.Proofs.YtolpckflofjfhaaDoorW.PrintMore
attribute [local go_sem] max2_int min2_int max_two min_two max_three min_three max_four min_four
set_option linter.unusedVariables false
set_option maxHeartbeats 8000000
set_option maxRecDepth 100000
set_option linter.unusedSimpArgs false

def pentaglotref22_Reference.f (k : Nat) (a0_0 : Int) (a0_1 : Int) (a0_2 : ByteArray) (a1 : Int) : Option (Bool) := if a0_0 = 1 then (if a0_2.toList = ([] : List UInt8) then (if a0_1 ≥ 0 then (some (decide (a0_1 < a1))) else (some false)) else (some false)) else (if a0_0 = 2 then ((pentaglotref22_Symbol.f k a0_2).bind fun t225 => (if t225 = true then (some (a0_1 == 0)) else (some false))) else (if a0_0 = 3 then (if a0_2.toList = ([] : List UInt8) then (if a0_1 ≥ 0 then (some (decide (a0_1 ≤ 1439999999))) else (some false)) else (some false)) else (if a0_0 = 4 then (if a0_2.toList = ([] : List UInt8) then (if a0_1 ≥ 0 then (some (decide (a0_1 ≤ 1099511627776))) else (some false)) else (some false)) else (some false))))
theorem pentaglotref22_Reference.calls (k : Nat) (a0_0 : Int) (a0_1 : Int) (a0_2 : ByteArray) (a1 : Int) (r : Bool) (w : World) (h : pentaglotref22_Reference.f k a0_0 a0_1 a0_2 a1 = some r) :
  Calls Tryd.prog 78 #[.agg #[.int .i64 a0_0, .int .i64 a0_1, .string a0_2], .int .i64 a1] w fun e w' => e = .returned (.bool r) ∧ Below w.heap.size w w' := by
 have hu92 := Tryd.underlying92
 have HB := mk_ (Below.refl w.heap.size w)
 have H : (if a0_0 = 1 then (if a0_2.toList = ([] : List UInt8) then (if a0_1 ≥ 0 then (some (decide (a0_1 < a1))) else (some false)) else (some false)) else (if a0_0 = 2 then ((pentaglotref22_Symbol.f k a0_2).bind fun t225 => (if t225 = true then (some (a0_1 == 0)) else (some false))) else (if a0_0 = 3 then (if a0_2.toList = ([] : List UInt8) then (if a0_1 ≥ 0 then (some (decide (a0_1 ≤ 1439999999))) else (some false)) else (some false)) else (if a0_0 = 4 then (if a0_2.toList = ([] : List UInt8) then (if a0_1 ≥ 0 then (some (decide (a0_1 ≤ 1099511627776))) else (some false)) else (some false)) else (some false))))) = some r := h
 clear h
 by_cases c3 : a0_0 = 1
 ·rw [if_pos c3] at H
  obtain ⟨c3b0, c3b1⟩ := eb_ c3
  clear c3
  by_cases c4 : a0_2.toList = ([] : List UInt8)
  ·rw [if_pos c4] at H
   obtain ⟨c4b0, c4b1⟩ := eb_ c4
   clear c4
   by_cases c5 : a0_1 ≥ 0
   ·rw [if_pos c5] at H
    have c5b0 : decide (0 ≤ a0_1) = true := decide_eq_true c5
    clear c5
    obtain rfl := Option.some.inj H
    go_enter Tryd.func78, Tryd.ntmps78
    go_wp2_with (first | ((with_reducible refine gate_dst (N := 2) rfl ?_); refine bx_ 2 #[.int .i64 a0_0, .int .i64 a0_1, .string a0_2] 92 ?_; intro gb224 hg w6 hbox hb; have BK224 := mk_ (hbox); have GW224 := mk_ (gs_ hg (be_ HB)); have GE224 := mk_ (gs_ hg (be_ HB)); replace HB := mk_ (below_step (be_ HB) hb); clear hb hbox hg; obtain ⟨_, _, _, _, _, _⟩ := hb3_ BK224))
    go_ret
    exact ⟨er_, be1_ HB GE224⟩
   ·rw [if_neg c5] at H
    have c5b0 : decide (0 ≤ a0_1) = false := decide_eq_false c5
    clear c5
    obtain rfl := Option.some.inj H
    go_enter Tryd.func78, Tryd.ntmps78
    go_wp2_with (first | ((with_reducible refine gate_dst (N := 2) rfl ?_); refine bx_ 2 #[.int .i64 a0_0, .int .i64 a0_1, .string a0_2] 92 ?_; intro gb224 hg w8 hbox hb; have BK224 := mk_ (hbox); have GW224 := mk_ (gs_ hg (be_ HB)); have GE224 := mk_ (gs_ hg (be_ HB)); replace HB := mk_ (below_step (be_ HB) hb); clear hb hbox hg; obtain ⟨_, _, _, _, _, _⟩ := hb3_ BK224))
    go_ret
    exact ⟨er_, be1_ HB GE224⟩
  ·rw [if_neg c4] at H
   obtain ⟨c4b0, c4b1⟩ := en_ c4
   obtain rfl := Option.some.inj H
   go_enter Tryd.func78, Tryd.ntmps78
   go_wp2_with (first | ((with_reducible refine gate_dst (N := 2) rfl ?_); refine bx_ 2 #[.int .i64 a0_0, .int .i64 a0_1, .string a0_2] 92 ?_; intro gb224 hg w10 hbox hb; have BK224 := mk_ (hbox); have GW224 := mk_ (gs_ hg (be_ HB)); have GE224 := mk_ (gs_ hg (be_ HB)); replace HB := mk_ (below_step (be_ HB) hb); clear hb hbox hg; obtain ⟨_, _, _, _, _, _⟩ := hb3_ BK224))
   go_ret
   exact ⟨er_, be1_ HB GE224⟩
 ·rw [if_neg c3] at H
  obtain ⟨c3b0, c3b1⟩ := en_ c3
  by_cases c12 : a0_0 = 2
  ·rw [if_pos c12] at H
   obtain ⟨c12b0, c12b1⟩ := eb_ c12
   clear c12
   replace H := Option.bind_eq_some_iff.mp H
   obtain ⟨t225, A130, H⟩ := H
   replace H : (if t225 = true then (some (a0_1 == 0)) else (some false)) = some r := H
   have A13 := mk_ A130
   clear A130
   by_cases c14 : t225 = true
   ·subst c14
    rw [if_pos rfl] at H
    obtain rfl := Option.some.inj H
    go_enter Tryd.func78, Tryd.ntmps78
    go_wp2_with (first | ((with_reducible refine gate_dst (N := 2) rfl ?_); refine bx_ 2 #[.int .i64 a0_0, .int .i64 a0_1, .string a0_2] 92 ?_; intro gb224 hg w15 hbox hb; have BK224 := mk_ (hbox); have GW224 := mk_ (gs_ hg (be_ HB)); have GE224 := mk_ (gs_ hg (be_ HB)); replace HB := mk_ (below_step (be_ HB) hb); clear hb hbox hg; obtain ⟨_, _, _, _, _, _⟩ := hb3_ BK224) | ((with_reducible refine gate_callee (f := 79) rfl ?_); refine gl_ (some 27) Tryd.func79 #[.string a0_2] ?_; (with_reducible refine (pentaglotref22_Symbol.calls k a0_2 true _ A13.out).mono ?_); rintro e w' ⟨rfl, ⟨nd, rfl⟩⟩; refine ⟨_, rfl, ?_⟩))
    go_ret
    exact ⟨er_, be1_ HB GE224⟩
   ·replace c14 := Bool.eq_false_iff.mpr c14
    subst c14
    rw [if_neg nf_] at H
    obtain rfl := Option.some.inj H
    go_enter Tryd.func78, Tryd.ntmps78
    go_wp2_with (first | ((with_reducible refine gate_dst (N := 2) rfl ?_); refine bx_ 2 #[.int .i64 a0_0, .int .i64 a0_1, .string a0_2] 92 ?_; intro gb224 hg w17 hbox hb; have BK224 := mk_ (hbox); have GW224 := mk_ (gs_ hg (be_ HB)); have GE224 := mk_ (gs_ hg (be_ HB)); replace HB := mk_ (below_step (be_ HB) hb); clear hb hbox hg; obtain ⟨_, _, _, _, _, _⟩ := hb3_ BK224) | ((with_reducible refine gate_callee (f := 79) rfl ?_); refine gl_ (some 27) Tryd.func79 #[.string a0_2] ?_; (with_reducible refine (pentaglotref22_Symbol.calls k a0_2 false _ A13.out).mono ?_); rintro e w' ⟨rfl, ⟨nd, rfl⟩⟩; refine ⟨_, rfl, ?_⟩))
    go_ret
    exact ⟨er_, be1_ HB GE224⟩
  ·rw [if_neg c12] at H
   obtain ⟨c12b0, c12b1⟩ := en_ c12
   by_cases c19 : a0_0 = 3
   ·rw [if_pos c19] at H
    obtain ⟨c19b0, c19b1⟩ := eb_ c19
    clear c19
    by_cases c20 : a0_2.toList = ([] : List UInt8)
    ·rw [if_pos c20] at H
     obtain ⟨c20b0, c20b1⟩ := eb_ c20
     clear c20
     by_cases c21 : a0_1 ≥ 0
     ·rw [if_pos c21] at H
      have c21b0 : decide (0 ≤ a0_1) = true := decide_eq_true c21
      clear c21
      obtain rfl := Option.some.inj H
      go_enter Tryd.func78, Tryd.ntmps78
      go_wp2_with (first | ((with_reducible refine gate_dst (N := 2) rfl ?_); refine bx_ 2 #[.int .i64 a0_0, .int .i64 a0_1, .string a0_2] 92 ?_; intro gb224 hg w22 hbox hb; have BK224 := mk_ (hbox); have GW224 := mk_ (gs_ hg (be_ HB)); have GE224 := mk_ (gs_ hg (be_ HB)); replace HB := mk_ (below_step (be_ HB) hb); clear hb hbox hg; obtain ⟨_, _, _, _, _, _⟩ := hb3_ BK224))
      go_ret
      exact ⟨er_, be1_ HB GE224⟩
     ·rw [if_neg c21] at H
      have c21b0 : decide (0 ≤ a0_1) = false := decide_eq_false c21
      clear c21
      obtain rfl := Option.some.inj H
      go_enter Tryd.func78, Tryd.ntmps78
      go_wp2_with (first | ((with_reducible refine gate_dst (N := 2) rfl ?_); refine bx_ 2 #[.int .i64 a0_0, .int .i64 a0_1, .string a0_2] 92 ?_; intro gb224 hg w24 hbox hb; have BK224 := mk_ (hbox); have GW224 := mk_ (gs_ hg (be_ HB)); have GE224 := mk_ (gs_ hg (be_ HB)); replace HB := mk_ (below_step (be_ HB) hb); clear hb hbox hg; obtain ⟨_, _, _, _, _, _⟩ := hb3_ BK224))
      go_ret
      exact ⟨er_, be1_ HB GE224⟩
    ·rw [if_neg c20] at H
     obtain ⟨c20b0, c20b1⟩ := en_ c20
     obtain rfl := Option.some.inj H
     go_enter Tryd.func78, Tryd.ntmps78
     go_wp2_with (first | ((with_reducible refine gate_dst (N := 2) rfl ?_); refine bx_ 2 #[.int .i64 a0_0, .int .i64 a0_1, .string a0_2] 92 ?_; intro gb224 hg w26 hbox hb; have BK224 := mk_ (hbox); have GW224 := mk_ (gs_ hg (be_ HB)); have GE224 := mk_ (gs_ hg (be_ HB)); replace HB := mk_ (below_step (be_ HB) hb); clear hb hbox hg; obtain ⟨_, _, _, _, _, _⟩ := hb3_ BK224))
     go_ret
     exact ⟨er_, be1_ HB GE224⟩
   ·rw [if_neg c19] at H
    obtain ⟨c19b0, c19b1⟩ := en_ c19
    by_cases c28 : a0_0 = 4
    ·rw [if_pos c28] at H
     obtain ⟨c28b0, c28b1⟩ := eb_ c28
     clear c28
     by_cases c29 : a0_2.toList = ([] : List UInt8)
     ·rw [if_pos c29] at H
      obtain ⟨c29b0, c29b1⟩ := eb_ c29
      clear c29
      by_cases c30 : a0_1 ≥ 0
      ·rw [if_pos c30] at H
       have c30b0 : decide (0 ≤ a0_1) = true := decide_eq_true c30
       clear c30
       obtain rfl := Option.some.inj H
       go_enter Tryd.func78, Tryd.ntmps78
       go_wp2_with (first | ((with_reducible refine gate_dst (N := 2) rfl ?_); refine bx_ 2 #[.int .i64 a0_0, .int .i64 a0_1, .string a0_2] 92 ?_; intro gb224 hg w31 hbox hb; have BK224 := mk_ (hbox); have GW224 := mk_ (gs_ hg (be_ HB)); have GE224 := mk_ (gs_ hg (be_ HB)); replace HB := mk_ (below_step (be_ HB) hb); clear hb hbox hg; obtain ⟨_, _, _, _, _, _⟩ := hb3_ BK224))
       go_ret
       exact ⟨er_, be1_ HB GE224⟩
      ·rw [if_neg c30] at H
       have c30b0 : decide (0 ≤ a0_1) = false := decide_eq_false c30
       clear c30
       obtain rfl := Option.some.inj H
       go_enter Tryd.func78, Tryd.ntmps78
       go_wp2_with (first | ((with_reducible refine gate_dst (N := 2) rfl ?_); refine bx_ 2 #[.int .i64 a0_0, .int .i64 a0_1, .string a0_2] 92 ?_; intro gb224 hg w33 hbox hb; have BK224 := mk_ (hbox); have GW224 := mk_ (gs_ hg (be_ HB)); have GE224 := mk_ (gs_ hg (be_ HB)); replace HB := mk_ (below_step (be_ HB) hb); clear hb hbox hg; obtain ⟨_, _, _, _, _, _⟩ := hb3_ BK224))
       go_ret
       exact ⟨er_, be1_ HB GE224⟩
     ·rw [if_neg c29] at H
      obtain ⟨c29b0, c29b1⟩ := en_ c29
      obtain rfl := Option.some.inj H
      go_enter Tryd.func78, Tryd.ntmps78
      go_wp2_with (first | ((with_reducible refine gate_dst (N := 2) rfl ?_); refine bx_ 2 #[.int .i64 a0_0, .int .i64 a0_1, .string a0_2] 92 ?_; intro gb224 hg w35 hbox hb; have BK224 := mk_ (hbox); have GW224 := mk_ (gs_ hg (be_ HB)); have GE224 := mk_ (gs_ hg (be_ HB)); replace HB := mk_ (below_step (be_ HB) hb); clear hb hbox hg; obtain ⟨_, _, _, _, _, _⟩ := hb3_ BK224))
      go_ret
      exact ⟨er_, be1_ HB GE224⟩
    ·rw [if_neg c28] at H
     obtain ⟨c28b0, c28b1⟩ := en_ c28
     obtain rfl := Option.some.inj H
     go_enter Tryd.func78, Tryd.ntmps78
     go_wp2_with (first | ((with_reducible refine gate_dst (N := 2) rfl ?_); refine bx_ 2 #[.int .i64 a0_0, .int .i64 a0_1, .string a0_2] 92 ?_; intro gb224 hg w37 hbox hb; have BK224 := mk_ (hbox); have GW224 := mk_ (gs_ hg (be_ HB)); have GE224 := mk_ (gs_ hg (be_ HB)); replace HB := mk_ (below_step (be_ HB) hb); clear hb hbox hg; obtain ⟨_, _, _, _, _, _⟩ := hb3_ BK224))
     go_ret
     exact ⟨er_, be1_ HB GE224⟩

def pentaglotref22_moment.f (a0 : Int) : Option (Bool) := if a0 ≥ (-1) then (some (decide (a0 ≤ 1439999999))) else (some false)
theorem pentaglotref22_moment.calls (a0 : Int) (r : Bool) (w : World) (h : pentaglotref22_moment.f a0 = some r) :
  Calls Tryd.prog 80 #[.int .i64 a0] w fun e w' => e = .returned (.bool r) ∧ Drawn0 w w' := by
 have H : (if a0 ≥ (-1) then (some (decide (a0 ≤ 1439999999))) else (some false)) = some r := h
 clear h
 by_cases c2 : a0 ≥ (-1)
 ·rw [if_pos c2] at H
  have c2b0 : decide ((-1) ≤ a0) = true := decide_eq_true c2
  clear c2
  obtain rfl := Option.some.inj H
  go_enter Tryd.func80, Tryd.ntmps80
  go_wp2
  go_ret
  exact ⟨by first | rfl | (simp [pw_isEmpty]; done) | (simp; done) | (simp [*]; done), by repeat (first | exact Drawn0.refl _ | apply Drawn0.step)⟩
 ·rw [if_neg c2] at H
  have c2b0 : decide ((-1) ≤ a0) = false := decide_eq_false c2
  clear c2
  obtain rfl := Option.some.inj H
  go_enter Tryd.func80, Tryd.ntmps80
  go_wp2
  go_ret
  exact ⟨by first | rfl | (simp [pw_isEmpty]; done) | (simp; done) | (simp [*]; done), by repeat (first | exact Drawn0.refl _ | apply Drawn0.step)⟩

end Go.Proofs.YtolpckflofjfhaaDoor.P
