-- Written by the session's own program wip/tools/xprint.py out of the translation, with the kit's print.py on a scratch copy; functions given by hand stand among them.
import Derived.Test.YtfampmajmbediaaPx0
import Derived.Test.YtfampmajmbediaaPx13
import Derived.Test.YtfampmajmbediaaPx14
import Derived.Test.YtfampmajmbediaaPx17
import Derived.Test.YtfampmajmbediaaPx22
namespace Go.Proofs.Ytfampmajmbediaa.P
open Go.RowKit Go.Proofs.YtfampmajmbediaaW.PrintWords Go.Proofs.YtfampmajmbediaaW.PrintLast Go.Proofs.YtfampmajmbediaaW.PrintMore
attribute [local go_sem] max2_int min2_int max_two min_two max_three min_three max_four min_four   -- for this text's walks alone
set_option linter.unusedVariables false
set_option linter.unusedSimpArgs false

/-! ### pentaglotlaw46_AnaphoraPrefixes: function 9 -/
mutual
def pentaglotlaw46_AnaphoraPrefixes.j0 : Nat → List (S27) → Int → Bool → Option (Bool)
 | 0, _, _, _ => none
 | k + 1, x0, x1, x23 => if x23 = true then (some true) else ((anaphora_Resolve.f k x0).bind fun bt636 => (if bt636.2 = 0 then (pentaglotlaw46_AnaphoraPrefixes.j1 k x0 x1 bt636.1 bt636.2 ((bt636.1.length : Int) != (x0.length : Int))) else (pentaglotlaw46_AnaphoraPrefixes.j1 k x0 x1 bt636.1 bt636.2 true)))
def pentaglotlaw46_AnaphoraPrefixes.j1 : Nat → List (S27) → Int → List (S27) → Int → Bool → Option (Bool)
 | 0, _, _, _, _, _ => none
 | k + 1, x0, x1, x5, x6, x37 => if x37 = true then (some (x6 != 0)) else (if 0 ≤ x1 then (if x1 ≤ (x0.length : Int) then ((anaphora_Resolve.f k (x0.take (x1 : Int).toNat)).bind fun bt644 => (if bt644.2 = 0 then (if x1 ≤ (x5.length : Int) then ((pentaglotref31_SameAll.f bt644.1 (x5.take (x1 : Int).toNat)).bind fun t653 => (some t653)) else (none)) else (some false))) else (none)) else (none))
end
def pentaglotlaw46_AnaphoraPrefixes.f (k : Nat) (l0 : List (S27)) (a1 : Int) : Option (Bool) := (pentaglotlaw46_awake.f k).bind fun t634 => (if t634 = true then ((pentaglotlaw46_notice.f k l0).bind fun t635 => (if t635 = true then (if a1 < 0 then (pentaglotlaw46_AnaphoraPrefixes.j0 k l0 a1 true) else (pentaglotlaw46_AnaphoraPrefixes.j0 k l0 a1 (decide (a1 > (l0.length : Int))))) else (pentaglotlaw46_AnaphoraPrefixes.j0 k l0 a1 true))) else (some false))
theorem pentaglotlaw46_AnaphoraPrefixes.mono_l : ∀ k, (∀ y0 y1 y2, LeO (pentaglotlaw46_AnaphoraPrefixes.j0 k y0 y1 y2) (pentaglotlaw46_AnaphoraPrefixes.j0 (k + 1) y0 y1 y2)) ∧ (∀ y0 y1 y2 y3 y4, LeO (pentaglotlaw46_AnaphoraPrefixes.j1 k y0 y1 y2 y3 y4) (pentaglotlaw46_AnaphoraPrefixes.j1 (k + 1) y0 y1 y2 y3 y4))
 | 0 => ⟨fun _ _ _ r h => by simp [pentaglotlaw46_AnaphoraPrefixes.j0] at h, fun _ _ _ _ _ r h => by simp [pentaglotlaw46_AnaphoraPrefixes.j1] at h⟩
 | k + 1 => by
  obtain ⟨ih0, ih1⟩ := pentaglotlaw46_AnaphoraPrefixes.mono_l k
  refine ⟨?_, ?_⟩
  ·intro y0 y1 y2
   unfold pentaglotlaw46_AnaphoraPrefixes.j0
   repeat' first
   | (with_reducible exact ih0 _ _ _)
   | (with_reducible exact ih1 _ _ _ _ _)
   | (with_reducible exact anaphora_Resolve.mono _ _)
   | (with_reducible exact pentaglotlaw46_awake.mono _)
   | (with_reducible exact pentaglotlaw46_notice.mono _ _)
   | (with_reducible exact LeO.refl _)
   | (with_reducible exact LeO.none _)
   | (with_reducible refine LeO.ite ?_ ?_)
   | (with_reducible refine LeO.bind ?_ (fun _ => ?_))
   | exact ih0 _ _ _
   | exact ih1 _ _ _ _ _
   | exact anaphora_Resolve.mono _ _
   | exact pentaglotlaw46_awake.mono _
   | exact pentaglotlaw46_notice.mono _ _
   | exact LeO.none _
   | refine LeO.ite ?_ ?_
   | refine LeO.bind ?_ (fun _ => ?_)
  ·intro y0 y1 y2 y3 y4
   unfold pentaglotlaw46_AnaphoraPrefixes.j1
   repeat' first
   | (with_reducible exact ih0 _ _ _)
   | (with_reducible exact ih1 _ _ _ _ _)
   | (with_reducible exact anaphora_Resolve.mono _ _)
   | (with_reducible exact pentaglotlaw46_awake.mono _)
   | (with_reducible exact pentaglotlaw46_notice.mono _ _)
   | (with_reducible exact LeO.refl _)
   | (with_reducible exact LeO.none _)
   | (with_reducible refine LeO.ite ?_ ?_)
   | (with_reducible refine LeO.bind ?_ (fun _ => ?_))
   | exact ih0 _ _ _
   | exact ih1 _ _ _ _ _
   | exact anaphora_Resolve.mono _ _
   | exact pentaglotlaw46_awake.mono _
   | exact pentaglotlaw46_notice.mono _ _
   | exact LeO.none _
   | refine LeO.ite ?_ ?_
   | refine LeO.bind ?_ (fun _ => ?_)
theorem pentaglotlaw46_AnaphoraPrefixes.mono : ∀ a0 a1 k, LeO (pentaglotlaw46_AnaphoraPrefixes.f k a0 a1) (pentaglotlaw46_AnaphoraPrefixes.f (k + 1) a0 a1) := by
 intro a0 a1 k
 obtain ⟨ih0, ih1⟩ := pentaglotlaw46_AnaphoraPrefixes.mono_l k
 unfold pentaglotlaw46_AnaphoraPrefixes.f
 repeat' first
   | (with_reducible exact ih0 _ _ _)
   | (with_reducible exact ih1 _ _ _ _ _)
   | (with_reducible exact anaphora_Resolve.mono _ _)
   | (with_reducible exact pentaglotlaw46_awake.mono _)
   | (with_reducible exact pentaglotlaw46_notice.mono _ _)
   | (with_reducible exact LeO.refl _)
   | (with_reducible exact LeO.none _)
   | (with_reducible refine LeO.ite ?_ ?_)
   | (with_reducible refine LeO.bind ?_ (fun _ => ?_))
   | exact ih0 _ _ _
   | exact ih1 _ _ _ _ _
   | exact anaphora_Resolve.mono _ _
   | exact pentaglotlaw46_awake.mono _
   | exact pentaglotlaw46_notice.mono _ _
   | exact LeO.none _
   | refine LeO.ite ?_ ?_
   | refine LeO.bind ?_ (fun _ => ?_)
set_option maxHeartbeats 8000000 in
set_option maxRecDepth 100000 in
theorem pentaglotlaw46_AnaphoraPrefixes.calls (k : Nat) (A0 : Option Addr) (c0 : Nat) (l0 : List (S27)) (a1 : Int) (r : Bool) (w : World) (hr0 : Kd.C k27 w A0 l0.length l0) (hc0 : l0.length ≤ c0) (h : pentaglotlaw46_AnaphoraPrefixes.f k l0 a1 = some r) :
  Calls Try.prog 9 #[.slice A0 l0.length c0, .int .i64 a1] w fun e w' => e = .returned (.bool r) ∧ Below w.heap.size w w' := by
 have HR0 := Aside0.mk hr0
 have HC0 := Aside0.mk hc0
 clear hr0 hc0
 have HB := Aside0.mk (Below.refl w.heap.size w)
 have H : ((pentaglotlaw46_awake.f k).bind fun t634 => (if t634 = true then ((pentaglotlaw46_notice.f k l0).bind fun t635 => (if t635 = true then (if a1 < 0 then (pentaglotlaw46_AnaphoraPrefixes.j0 k l0 a1 true) else (pentaglotlaw46_AnaphoraPrefixes.j0 k l0 a1 (decide (a1 > (l0.length : Int))))) else (pentaglotlaw46_AnaphoraPrefixes.j0 k l0 a1 true))) else (some false))) = some r := h
 clear h
 replace H := Option.bind_eq_some_iff.mp H
 obtain ⟨t634, A30, H⟩ := H
 replace H : (if t634 = true then ((pentaglotlaw46_notice.f k l0).bind fun t635 => (if t635 = true then (if a1 < 0 then (pentaglotlaw46_AnaphoraPrefixes.j0 k l0 a1 true) else (pentaglotlaw46_AnaphoraPrefixes.j0 k l0 a1 (decide (a1 > (l0.length : Int))))) else (pentaglotlaw46_AnaphoraPrefixes.j0 k l0 a1 true))) else (some false)) = some r := H
 have A3 := Aside0.mk A30
 clear A30
 by_cases c4 : t634 = true
 ·subst c4
  have H1 : ((pentaglotlaw46_notice.f k l0).bind fun t635 => (if t635 = true then (if a1 < 0 then (pentaglotlaw46_AnaphoraPrefixes.j0 k l0 a1 true) else (pentaglotlaw46_AnaphoraPrefixes.j0 k l0 a1 (decide (a1 > (l0.length : Int))))) else (pentaglotlaw46_AnaphoraPrefixes.j0 k l0 a1 true))) = some r := by rw [if_pos rfl] at H; exact H
  clear H
  have H := H1
  clear H1
  have HC5 := Aside0.mk H
  clear H
  go_enter Try.func9, Try.ntmps9
  go_upto_region 3 with (first | ((with_reducible refine gate_callee (f := 12) rfl ?_); refine goesL_ (some 9) rfl rfl Try.func12 (by kernel_rfl) rfl #[] rfl (by (try simp only [List.map_toArray, List.map_cons, List.map_nil]); first | done | rfl | (simp only [List.length_drop, List.length_take]; rfl)) ?_; (with_reducible refine (pentaglotlaw46_awake.calls k  true _ A3.out).mono ?_); rintro e w6 ⟨rfl, hb⟩; refine ⟨_, rfl, ?_⟩; have n0_ := Aside0.mk (below_step (be_ HB) hb); clear HB; have HB := n0_; clear n0_; (try clear hb); (try clear hb2); (try clear hk); (try clear hi)))
  (try simp only [Act.put, List.setIfInBounds_toArray, List.set_cons_zero, List.set_cons_succ])
  go_cut [23] (fun v23 wc => ∃ (kq : Nat) (x23_4 : Bool), v23 = .bool x23_4 ∧ Aside0 (pentaglotlaw46_AnaphoraPrefixes.j0 kq l0 a1 x23_4 = some r) ∧ Aside0 (kq ≤ k) ∧ Aside0 (Below w.heap.size w wc))
  case first =>
   have H := HC5.out
   clear HC5
   replace H := Option.bind_eq_some_iff.mp H
   obtain ⟨t635, A70, H⟩ := H
   replace H : (if t635 = true then (if a1 < 0 then (pentaglotlaw46_AnaphoraPrefixes.j0 k l0 a1 true) else (pentaglotlaw46_AnaphoraPrefixes.j0 k l0 a1 (decide (a1 > (l0.length : Int))))) else (pentaglotlaw46_AnaphoraPrefixes.j0 k l0 a1 true)) = some r := H
   have A7 := Aside0.mk A70
   clear A70
   by_cases c8 : t635 = true
   ·subst c8
    have H1 : (if a1 < 0 then (pentaglotlaw46_AnaphoraPrefixes.j0 k l0 a1 true) else (pentaglotlaw46_AnaphoraPrefixes.j0 k l0 a1 (decide (a1 > (l0.length : Int))))) = some r := by rw [if_pos rfl] at H; exact H
    clear H
    have H := H1
    clear H1
    by_cases c9 : a1 < 0
    ·rw [if_pos c9] at H
     have c9b0 : decide (a1 < 0) = true := decide_eq_true c9
     clear c9
     (first | rw [c9b0] | (simp only [i64_w, i32_w]; rw [c9b0]) | skip)
     have H' := Aside0.mk H
     clear H
     go_wp2_with (first | ((with_reducible refine gate_callee (f := 13) rfl ?_); refine goesL_ (some 12) rfl rfl Try.func13 (by kernel_rfl) rfl #[.slice A0 l0.length c0] rfl (by (try simp only [List.map_toArray, List.map_cons, List.map_nil]); first | done | rfl | (simp only [List.length_drop, List.length_take]; rfl)) ?_; (with_reducible refine (pentaglotlaw46_notice.calls k _ _ l0 true _ ?side1 ?side2 A7.out).mono ?_); (case side1 => exact cs_ (Kd.C_below HR0.out HB.out)); (case side2 => exact HC0.out); rintro e w10 ⟨rfl, hb⟩; refine ⟨_, rfl, ?_⟩; have n0_ := Aside0.mk (below_step (be_ HB) hb); clear HB; have HB := n0_; clear n0_; (try clear hb); (try clear hb2); (try clear hk); (try clear hi)))
     go_meet
     case rel => exact ⟨_, (true), fi_, H', ⟨by first | omega | exact Nat.le_refl _⟩, ⟨be_ HB⟩⟩
    ·rw [if_neg c9] at H
     have c9b0 : decide (a1 < 0) = false := decide_eq_false c9
     clear c9
     (first | rw [c9b0] | (simp only [i64_w, i32_w]; rw [c9b0]) | skip)
     have H' := Aside0.mk H
     clear H
     go_wp2_with (first | ((with_reducible refine gate_callee (f := 13) rfl ?_); refine goesL_ (some 12) rfl rfl Try.func13 (by kernel_rfl) rfl #[.slice A0 l0.length c0] rfl (by (try simp only [List.map_toArray, List.map_cons, List.map_nil]); first | done | rfl | (simp only [List.length_drop, List.length_take]; rfl)) ?_; (with_reducible refine (pentaglotlaw46_notice.calls k _ _ l0 true _ ?side1 ?side2 A7.out).mono ?_); (case side1 => exact cs_ (Kd.C_below HR0.out HB.out)); (case side2 => exact HC0.out); rintro e w11 ⟨rfl, hb⟩; refine ⟨_, rfl, ?_⟩; have n0_ := Aside0.mk (below_step (be_ HB) hb); clear HB; have HB := n0_; clear n0_; (try clear hb); (try clear hb2); (try clear hk); (try clear hi)))
     go_meet
     case rel => exact ⟨_, (decide (a1 > (l0.length : Int))), fi_, H', ⟨by first | omega | exact Nat.le_refl _⟩, ⟨be_ HB⟩⟩
   ·replace c8 := Bool.eq_false_iff.mpr c8
    subst c8
    have H1 : (pentaglotlaw46_AnaphoraPrefixes.j0 k l0 a1 true) = some r := by rw [if_neg (show ¬ (false = true) by decide)] at H; exact H
    clear H
    have H := H1
    clear H1
    have H' := Aside0.mk H
    clear H
    go_wp2_with (first | ((with_reducible refine gate_callee (f := 13) rfl ?_); refine goesL_ (some 12) rfl rfl Try.func13 (by kernel_rfl) rfl #[.slice A0 l0.length c0] rfl (by (try simp only [List.map_toArray, List.map_cons, List.map_nil]); first | done | rfl | (simp only [List.length_drop, List.length_take]; rfl)) ?_; (with_reducible refine (pentaglotlaw46_notice.calls k _ _ l0 false _ ?side1 ?side2 A7.out).mono ?_); (case side1 => exact cs_ (Kd.C_below HR0.out HB.out)); (case side2 => exact HC0.out); rintro e w12 ⟨rfl, hb⟩; refine ⟨_, rfl, ?_⟩; have n0_ := Aside0.mk (below_step (be_ HB) hb); clear HB; have HB := n0_; clear n0_; (try clear hb); (try clear hb2); (try clear hk); (try clear hi)))
    go_meet
    case rel => exact ⟨_, (true), fi_, H', ⟨by first | omega | exact Nat.le_refl _⟩, ⟨be_ HB⟩⟩
  case rest =>
   clear HC5
   try clear c1
   try clear p2
   try clear c4
   try clear c8
   try clear c9
   try clear c9b0
   try clear c12
   obtain ⟨kq, x23_4, rfl, HA, HJ4, HB⟩ := hcut
   cases kq with
   | zero => exact absurd HA.out (by simp [pentaglotlaw46_AnaphoraPrefixes.j0])
   | succ kj4 =>
    have H := HA.out
    clear HA
    simp only [pentaglotlaw46_AnaphoraPrefixes.j0] at H
    by_cases c13 : x23_4 = true
    ·subst c13
     have H1 : (some true) = some r := by rw [if_pos rfl] at H; exact H
     clear H
     have H := H1
     clear H1
     obtain rfl := Option.some.inj H
     go_wp2
     go_ret
     exact ⟨er_, be_ HB⟩
    ·replace c13 := Bool.eq_false_iff.mpr c13
     subst c13
     have H1 : ((anaphora_Resolve.f kj4 l0).bind fun bt636 => (if bt636.2 = 0 then (pentaglotlaw46_AnaphoraPrefixes.j1 kj4 l0 a1 bt636.1 bt636.2 ((bt636.1.length : Int) != (l0.length : Int))) else (pentaglotlaw46_AnaphoraPrefixes.j1 kj4 l0 a1 bt636.1 bt636.2 true))) = some r := by rw [if_neg (show ¬ (false = true) by decide)] at H; exact H
     clear H
     have H := H1
     clear H1
     replace H := Option.bind_eq_some_iff.mp H
     obtain ⟨⟨t636, t639⟩, A140, H⟩ := H
     replace H : (if t639 = 0 then (pentaglotlaw46_AnaphoraPrefixes.j1 kj4 l0 a1 t636 t639 ((t636.length : Int) != (l0.length : Int))) else (pentaglotlaw46_AnaphoraPrefixes.j1 kj4 l0 a1 t636 t639 true)) = some r := H
     have A14 := Aside0.mk A140
     clear A140
     have HC15 := Aside0.mk H
     clear H
     go_upto_region 6 with (first | ((with_reducible refine gate_callee (f := 17) rfl ?_); refine goesL_ (some 26) rfl rfl Try.func17 (by kernel_rfl) rfl #[.slice A0 l0.length c0] rfl (by (try simp only [List.map_toArray, List.map_cons, List.map_nil]); first | done | rfl | (simp only [List.length_drop, List.length_take]; rfl)) ?_; (with_reducible refine (anaphora_Resolve.calls kj4 _ _ l0 t636 t639 _ ?side1 ?side2 A14.out).mono ?_); (case side1 => exact cs_ (Kd.C_below HR0.out HB.out)); (case side2 => exact HC0.out); rintro e w16 ⟨v637, rfl, ho0, hb⟩; refine ⟨_, rfl, ?_⟩; have n0_ := Aside0.mk (Kd.N_lower (Kd.N_mono (ok' := fun k_ => True) ho0 (fun k_ hk_ => trivial)) (below_size (be_ HB))); have n1_ := Aside0.mk (below_step (be_ HB) hb); clear HB; have HO638 := n0_; have HB := n1_; clear n0_ n1_; (try clear hb); (try clear hb2); (try clear hk); (try clear hi); (try clear ho0)))
     (try simp only [Act.put, List.setIfInBounds_toArray, List.set_cons_zero, List.set_cons_succ])
     go_cut [37] (fun v37 wc => ∃ (kq : Nat) (x37_14 : Bool), v37 = .bool x37_14 ∧ Aside0 (pentaglotlaw46_AnaphoraPrefixes.j1 kq l0 a1 t636 t639 x37_14 = some r) ∧ Aside0 (kq ≤ kj4) ∧ Aside0 (Kd.N k27 27 wc w.heap.size (fun _ => True) v637 t636) ∧ Aside0 (Below w.heap.size w wc))
     case first =>
      have H := HC15.out
      clear HC15
      by_cases c17 : t639 = 0
      ·rw [if_pos c17] at H
       have c17b0 : (t639 == 0) = true := beq_iff_eq.mpr c17
       have c17b1 : (t639 != 0) = false := bne_eq_false_iff_eq.mpr c17
       clear c17
       (first | rw [c17b0] | (simp only [i64_w, i32_w]; rw [c17b0]) | skip)
       have H' := Aside0.mk H
       clear H
       obtain ⟨Ao18, co18, eo18⟩ := Kd.N_slice HO638.out
       subst eo18
       go_wp2
       go_meet
       case rel => exact ⟨_, (((t636.length : Int) != (l0.length : Int))), fi_, H', ⟨by have := HJ4.out; first | omega | exact Nat.le_refl _⟩, ⟨nq_ HO638⟩, ⟨be_ HB⟩⟩
      ·rw [if_neg c17] at H
       have c17b0 : (t639 == 0) = false := beq_eq_false_iff_ne.mpr c17
       have c17b1 : (t639 != 0) = true := bne_iff_ne.mpr c17
       (first | rw [c17b0] | (simp only [i64_w, i32_w]; rw [c17b0]) | skip)
       have H' := Aside0.mk H
       clear H
       go_wp2
       go_meet
       case rel => exact ⟨_, (true), fi_, H', ⟨by have := HJ4.out; first | omega | exact Nat.le_refl _⟩, ⟨nq_ HO638⟩, ⟨be_ HB⟩⟩
     case rest =>
      clear HC15
      try clear c1
      try clear p2
      try clear c4
      try clear c8
      try clear c9
      try clear c9b0
      try clear c12
      try clear c13
      try clear c17
      try clear c17b0
      try clear c17b1
      try clear p2
      obtain ⟨kq, x37_14, rfl, HA, HJ14, HO_5, HB⟩ := hcut
      cases kq with
      | zero => exact absurd HA.out (by simp [pentaglotlaw46_AnaphoraPrefixes.j1])
      | succ kj14 =>
       have H := HA.out
       clear HA
       simp only [pentaglotlaw46_AnaphoraPrefixes.j1] at H
       by_cases c19 : x37_14 = true
       ·subst c19
        have H1 : (some (t639 != 0)) = some r := by rw [if_pos rfl] at H; exact H
        clear H
        have H := H1
        clear H1
        obtain rfl := Option.some.inj H
        go_wp2
        go_ret
        exact ⟨er_, be_ HB⟩
       ·replace c19 := Bool.eq_false_iff.mpr c19
        subst c19
        have H1 : (if 0 ≤ a1 then (if a1 ≤ (l0.length : Int) then ((anaphora_Resolve.f kj14 (l0.take (a1 : Int).toNat)).bind fun bt644 => (if bt644.2 = 0 then (if a1 ≤ (t636.length : Int) then ((pentaglotref31_SameAll.f bt644.1 (t636.take (a1 : Int).toNat)).bind fun t653 => (some t653)) else (none)) else (some false))) else (none)) else (none)) = some r := by rw [if_neg (show ¬ (false = true) by decide)] at H; exact H
        clear H
        have H := H1
        clear H1
        by_cases c20 : 0 ≤ a1
        ·rw [if_pos c20] at H
         have c20b0 := eq_true c20
         have c20b1 : decide (0 ≤ a1) = true := decide_eq_true c20
         clear c20
         by_cases c21 : a1 ≤ (l0.length : Int)
         ·rw [if_pos c21] at H
          have c21b0 := eq_true c21
          have c21b1 : decide (a1 ≤ (l0.length : Int)) = true := decide_eq_true c21
          clear c21
          obtain ⟨y640, hy640⟩ : ∃ y_ : List (S27), y_ = (l0.take (a1 : Int).toNat) := ⟨_, rfl⟩
          replace H : ((anaphora_Resolve.f kj14 y640).bind fun bt644 => (if bt644.2 = 0 then (if a1 ≤ (t636.length : Int) then ((pentaglotref31_SameAll.f bt644.1 (t636.take (a1 : Int).toNat)).bind fun t653 => (some t653)) else (none)) else (some false))) = some r := by first | (rw [hy640]; with_reducible exact H) | (have H2_ := (Option.bind_some _ _).symm.trans H; rw [hy640]; with_reducible exact H2_) | (have H2_ := (Option.bind_some _ _).symm.trans H; with_reducible exact H2_) | with_reducible exact H | (rw [hy640]; exact H) | exact H
          have Ny640 := Aside0.mk hy640
          clear hy640
          replace H := Option.bind_eq_some_iff.mp H
          obtain ⟨⟨t644, t647⟩, A220, H⟩ := H
          replace H : (if t647 = 0 then (if a1 ≤ (t636.length : Int) then ((pentaglotref31_SameAll.f t644 (t636.take (a1 : Int).toNat)).bind fun t653 => (some t653)) else (none)) else (some false)) = some r := H
          have A22 := Aside0.mk A220
          clear A220
          by_cases c23 : t647 = 0
          ·rw [if_pos c23] at H
           have c23b0 : (t647 == 0) = true := beq_iff_eq.mpr c23
           have c23b1 : (t647 != 0) = false := bne_eq_false_iff_eq.mpr c23
           clear c23
           have c24b0 := eq_true (of_decide_eq_true (by first | (with_reducible assumption) | assumption) : 0 ≤ a1)
           by_cases c25 : a1 ≤ (t636.length : Int)
           ·rw [if_pos c25] at H
            have c25b0 := eq_true c25
            have c25b1 : decide (a1 ≤ (t636.length : Int)) = true := decide_eq_true c25
            clear c25
            obtain ⟨y648, hy648⟩ : ∃ y_ : List (S27), y_ = (t636.take (a1 : Int).toNat) := ⟨_, rfl⟩
            replace H : ((pentaglotref31_SameAll.f t644 y648).bind fun t653 => (some t653)) = some r := by first | (rw [hy648]; with_reducible exact H) | (have H2_ := (Option.bind_some _ _).symm.trans H; rw [hy648]; with_reducible exact H2_) | (have H2_ := (Option.bind_some _ _).symm.trans H; with_reducible exact H2_) | with_reducible exact H | (rw [hy648]; exact H) | exact H
            have Ny648 := Aside0.mk hy648
            clear hy648
            replace H := Option.bind_eq_some_iff.mp H
            obtain ⟨t653, A260, H⟩ := H
            replace H : (some t653) = some r := H
            have A26 := Aside0.mk A260
            clear A260
            obtain rfl := Option.some.inj H
            have q27 : (a1 : Int) ≤ ((l0.length : Int) : Int) := of_decide_eq_true (by first | (with_reducible assumption) | assumption)
            obtain ⟨i027, hi027, _, hsz27, _⟩ := info_parts info27
            have hroom27 : l0.length ≤ c0 := HC0.out
            have hC27 : Kd.C k27 _ A0 l0.length l0 := HR0.out
            have hcut27 := cut_to (P := Try.prog) 22 27 .i64 Try.underlying22 hi027 A0 l0.length c0 a1 (of_decide_eq_true (by first | (with_reducible assumption) | assumption)) q27 hroom27
            have hr27 := Kd.C_take (m := (a1 : Int).toNat) hC27 (by omega)
            have hy27 : y640.length = (a1 : Int).toNat := (by rw [Ny640.out, List.length_take]; omega)
            rw [← Ny640.out] at hr27
            rw [← hy27] at hcut27
            have HR643 := Aside0.mk hr27
            have HC643 := Aside0.mk (show y640.length ≤ c0 from by omega)
            clear hr27 hC27 hroom27 hi027 hsz27
            have KY27 := Aside0.mk hy27
            clear hy27
            replace q27 := eq_true q27
            go_wp2_with (first | ((with_reducible refine gate_callee (f := 17) rfl ?_); refine goesL_ (some 44) rfl rfl Try.func17 (by kernel_rfl) rfl #[.slice A0 y640.length c0] rfl (by (try simp only [List.map_toArray, List.map_cons, List.map_nil]); first | done | rfl | (simp only [List.length_drop, List.length_take]; rfl)) ?_; (with_reducible refine (anaphora_Resolve.calls kj14 _ _ y640 t644 t647 _ ?side1 ?side2 A22.out).mono ?_); (case side1 => exact cs_ (Kd.C_below HR643.out HB.out)); (case side2 => exact HC643.out); rintro e w28 ⟨v645, rfl, ho0, hb⟩; refine ⟨_, rfl, ?_⟩; have n0_ := Aside0.mk (Kd.N_elder' (nq_ HO_5) (Kd.N_base ho0) hb); have n1_ := Aside0.mk (Kd.N_lower (Kd.N_mono (ok' := fun k_ => some k_ ≠ (v637 : Value).ownBlock) ho0 (fun k_ hk_ => (Kd.fresh' (Kd.N_lt (nq_ HO_5)) k_ hk_))) (below_size (be_ HB))); have n2_ := Aside0.mk (below_step (be_ HB) hb); clear HO_5; clear HB; have HO_5 := n0_; have HO646 := n1_; have HB := n2_; clear n0_ n1_ n2_; (try clear hb); (try clear hb2); (try clear hk); (try clear hi); (try clear ho0); obtain ⟨Ao30, co30, eo30⟩ := Kd.N_slice HO_5.out; subst eo30; have q29 : (a1 : Int) ≤ ((t636.length : Int) : Int) := of_decide_eq_true (by first | (with_reducible assumption) | assumption); obtain ⟨i029, hi029, _, hsz29, _⟩ := info_parts info27; have hroom29 : t636.length ≤ co30 := (Kd.N_reads' HO_5.out).2.1; have hC29 : Kd.F k27 _ _ Ao30 t636.length t636 := (Kd.V_at (base := w.heap.size) (Kd.N_V HO_5.out)).2.2; have hcut29 := cut_to (P := Try.prog) 22 27 .i64 Try.underlying22 hi029 Ao30 t636.length co30 a1 (of_decide_eq_true (by first | (with_reducible assumption) | assumption)) q29 hroom29; have hr29 := Kd.F_take (m := (a1 : Int).toNat) hC29 (by omega); have hy29 : y648.length = (a1 : Int).toNat := (by rw [Ny648.out, List.length_take]; omega); rw [← Ny648.out] at hr29; rw [← hy29] at hcut29; have HO652 := Aside0.mk (show Kd.V k27 27 _ w.heap.size _ (.slice Ao30 y648.length co30) y648 from Kd.V_mk (by omega) hr29); have HC652 := Aside0.mk (show y648.length ≤ co30 from by omega); clear hr29 hC29 hroom29 hi029 hsz29; have KY29 := Aside0.mk hy29; clear hy29; replace q29 := eq_true q29; obtain ⟨Ao31, co31, eo31⟩ := Kd.N_slice HO646.out; subst eo31) | (go_at_call 19; (with_reducible refine (pentaglotref31_SameAll.calls _ _ t644 _ _ y648 t653 _ ?side1 ?side2 ?side3 ?side4 A26.out).mono ?_); (case side1 => repeat (first | exact (Kd.N_reads' HO646.out).2.2 | (with_reducible refine Kd.C_alloc ?_ _) | (with_reducible refine Kd.C_drewN ?_ _) | (with_reducible refine Kd.C_drew ?_))); (case side2 => exact (Kd.N_reads' HO646.out).2.1); (case side3 => repeat (first | exact (Kd.V_reads' HO652.out).2.2 | (with_reducible refine Kd.C_alloc ?_ _) | (with_reducible refine Kd.C_drewN ?_ _) | (with_reducible refine Kd.C_drew ?_))); (case side4 => exact (Kd.V_reads' HO652.out).2.1); rintro e w32 ⟨rfl, hb⟩; have n0_ := Aside0.mk (Kd.N_below (nq_ HO_5) hb); have n1_ := Aside0.mk (Kd.N_below (nq_ HO646) hb); have n2_ := Aside0.mk (Kd.V_below (vq_ HO652) hb); have n3_ := Aside0.mk (below_step (be_ HB) hb); clear HO_5; clear HO646; clear HO652; clear HB; have HO_5 := n0_; have HO646 := n1_; have HO652 := n2_; have HB := n3_; clear n0_ n1_ n2_ n3_; (try clear hb); (try clear hb2); (try clear hk); (try clear hi)))
            go_ret
            exact ⟨er_, be_ HB⟩
           ·rw [if_neg c25] at H
            exact absurd H (by simp)
          ·rw [if_neg c23] at H
           have c23b0 : (t647 == 0) = false := beq_eq_false_iff_ne.mpr c23
           have c23b1 : (t647 != 0) = true := bne_iff_ne.mpr c23
           obtain rfl := Option.some.inj H
           have q33 : (a1 : Int) ≤ ((l0.length : Int) : Int) := of_decide_eq_true (by first | (with_reducible assumption) | assumption)
           obtain ⟨i033, hi033, _, hsz33, _⟩ := info_parts info27
           have hroom33 : l0.length ≤ c0 := HC0.out
           have hC33 : Kd.C k27 _ A0 l0.length l0 := HR0.out
           have hcut33 := cut_to (P := Try.prog) 22 27 .i64 Try.underlying22 hi033 A0 l0.length c0 a1 (of_decide_eq_true (by first | (with_reducible assumption) | assumption)) q33 hroom33
           have hr33 := Kd.C_take (m := (a1 : Int).toNat) hC33 (by omega)
           have hy33 : y640.length = (a1 : Int).toNat := (by rw [Ny640.out, List.length_take]; omega)
           rw [← Ny640.out] at hr33
           rw [← hy33] at hcut33
           have HR643 := Aside0.mk hr33
           have HC643 := Aside0.mk (show y640.length ≤ c0 from by omega)
           clear hr33 hC33 hroom33 hi033 hsz33
           have KY33 := Aside0.mk hy33
           clear hy33
           replace q33 := eq_true q33
           go_wp2_with (first | ((with_reducible refine gate_callee (f := 17) rfl ?_); refine goesL_ (some 44) rfl rfl Try.func17 (by kernel_rfl) rfl #[.slice A0 y640.length c0] rfl (by (try simp only [List.map_toArray, List.map_cons, List.map_nil]); first | done | rfl | (simp only [List.length_drop, List.length_take]; rfl)) ?_; (with_reducible refine (anaphora_Resolve.calls kj14 _ _ y640 t644 t647 _ ?side1 ?side2 A22.out).mono ?_); (case side1 => exact cs_ (Kd.C_below HR643.out HB.out)); (case side2 => exact HC643.out); rintro e w34 ⟨v645, rfl, ho0, hb⟩; refine ⟨_, rfl, ?_⟩; have n0_ := Aside0.mk (Kd.N_elder' (nq_ HO_5) (Kd.N_base ho0) hb); have n1_ := Aside0.mk (Kd.N_lower (Kd.N_mono (ok' := fun k_ => some k_ ≠ (v637 : Value).ownBlock) ho0 (fun k_ hk_ => (Kd.fresh' (Kd.N_lt (nq_ HO_5)) k_ hk_))) (below_size (be_ HB))); have n2_ := Aside0.mk (below_step (be_ HB) hb); clear HO_5; clear HB; have HO_5 := n0_; have HO646 := n1_; have HB := n2_; clear n0_ n1_ n2_; (try clear hb); (try clear hb2); (try clear hk); (try clear hi); (try clear ho0)))
           go_ret
           exact ⟨er_, be_ HB⟩
         ·rw [if_neg c21] at H
          exact absurd H (by simp)
        ·rw [if_neg c20] at H
         exact absurd H (by simp)
 ·replace c4 := Bool.eq_false_iff.mpr c4
  subst c4
  have H1 : (some false) = some r := by rw [if_neg (show ¬ (false = true) by decide)] at H; exact H
  clear H
  have H := H1
  clear H1
  obtain rfl := Option.some.inj H
  go_enter Try.func9, Try.ntmps9
  go_wp2_with (first | ((with_reducible refine gate_callee (f := 12) rfl ?_); refine goesL_ (some 9) rfl rfl Try.func12 (by kernel_rfl) rfl #[] rfl (by (try simp only [List.map_toArray, List.map_cons, List.map_nil]); first | done | rfl | (simp only [List.length_drop, List.length_take]; rfl)) ?_; (with_reducible refine (pentaglotlaw46_awake.calls k  false _ A3.out).mono ?_); rintro e w35 ⟨rfl, hb⟩; refine ⟨_, rfl, ?_⟩; have n0_ := Aside0.mk (below_step (be_ HB) hb); clear HB; have HB := n0_; clear n0_; (try clear hb); (try clear hb2); (try clear hk); (try clear hi)))
  go_ret
  exact ⟨er_, be_ HB⟩

/-- THE ONE PURE STATEMENT of pentaglotlaw46_AnaphoraPrefixes. -/
def pentaglotlaw46_AnaphoraPrefixes.Pure : Prop := ∀ (p0 : List (S27)) (p1 : Int), (∀ a ∈ p0, wf27 a) → (Lit.int .i64 p1).wf = true → ((p0.map bulk27).sum + 1) + 1 ≤ 1048576 → ∃ k, pentaglotlaw46_AnaphoraPrefixes.f k p0 p1 = some true


end Go.Proofs.Ytfampmajmbediaa.P
