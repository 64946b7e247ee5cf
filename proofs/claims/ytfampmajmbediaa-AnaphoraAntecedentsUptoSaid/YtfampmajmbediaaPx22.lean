-- Written by the session's own program wip/tools/xprint.py out of the translation, with the kit's print.py on a scratch copy; functions given by hand stand among them.
import Derived.Test.YtfampmajmbediaaPx0
import Derived.Test.YtfampmajmbediaaPx21
namespace Go.Proofs.Ytfampmajmbediaa.P
open Go.RowKit Go.Proofs.YtfampmajmbediaaW.PrintWords Go.Proofs.YtfampmajmbediaaW.PrintLast Go.Proofs.YtfampmajmbediaaW.PrintMore
attribute [local go_sem] max2_int min2_int max_two min_two max_three min_three max_four min_four   -- for this text's walks alone
set_option linter.unusedVariables false
set_option linter.unusedSimpArgs false

/-! ### pentaglotref46_Sentences: function 34 -/
def pentaglotref46_Sentences.l0 : Nat → List (S27) → Int → Option (Bool)
 | 0, _, _ => none
 | k + 1, x0, x3 => if x3 < (x0.length : Int) then (if 0 ≤ x3 then ((pentaglotref39_Sentence.f k ((rd_T27 x0 x3).f0) ((rd_T27 x0 x3).f1) ((rd_T27 x0 x3).f2)).bind fun t270 => (if t270 = true then (pentaglotref46_Sentences.l0 k x0 (wrap64 (x3 + 1))) else (some false))) else (none)) else (some true)
def pentaglotref46_Sentences.f (k : Nat) (l0 : List (S27)) : Option (Bool) := pentaglotref46_Sentences.l0 k l0 0
theorem pentaglotref46_Sentences.mono_l : ∀ k, (∀ y0 y1, LeO (pentaglotref46_Sentences.l0 k y0 y1) (pentaglotref46_Sentences.l0 (k + 1) y0 y1))
 | 0 => fun _ _ r h => by simp [pentaglotref46_Sentences.l0] at h
 | k + 1 => by
  have ih0 := pentaglotref46_Sentences.mono_l k
  ·intro y0 y1
   unfold pentaglotref46_Sentences.l0
   repeat' first
   | (with_reducible exact ih0 _ _)
   | (with_reducible exact pentaglotref39_Sentence.mono _ _ _ _)
   | (with_reducible exact LeO.refl _)
   | (with_reducible exact LeO.none _)
   | (with_reducible refine LeO.ite ?_ ?_)
   | (with_reducible refine LeO.bind ?_ (fun _ => ?_))
   | exact ih0 _ _
   | exact pentaglotref39_Sentence.mono _ _ _ _
   | exact LeO.none _
   | refine LeO.ite ?_ ?_
   | refine LeO.bind ?_ (fun _ => ?_)
theorem pentaglotref46_Sentences.mono : ∀ a0 k, LeO (pentaglotref46_Sentences.f k a0) (pentaglotref46_Sentences.f (k + 1) a0) := by
 intro a0 k
 have ih0 := pentaglotref46_Sentences.mono_l k
 unfold pentaglotref46_Sentences.f
 repeat' first
   | (with_reducible exact ih0 _ _)
   | (with_reducible exact pentaglotref39_Sentence.mono _ _ _ _)
   | (with_reducible exact LeO.refl _)
   | (with_reducible exact LeO.none _)
   | (with_reducible refine LeO.ite ?_ ?_)
   | (with_reducible refine LeO.bind ?_ (fun _ => ?_))
   | exact ih0 _ _
   | exact pentaglotref39_Sentence.mono _ _ _ _
   | exact LeO.none _
   | refine LeO.ite ?_ ?_
   | refine LeO.bind ?_ (fun _ => ?_)
set_option maxHeartbeats 8000000 in
set_option maxRecDepth 100000 in
theorem pentaglotref46_Sentences.calls (k : Nat) (A0 : Option Addr) (c0 : Nat) (l0 : List (S27)) (r : Bool) (w : World) (hr0 : Kd.C k27 w A0 l0.length l0) (hc0 : l0.length ≤ c0) (h : pentaglotref46_Sentences.f k l0 = some r) :
  Calls Try.prog 34 #[.slice A0 l0.length c0] w fun e w' => e = .returned (.bool r) ∧ Below w.heap.size w w' := by
 have hu27 := Try.underlying27
 have HR0 := Aside0.mk hr0
 have HC0 := Aside0.mk hc0
 clear hr0 hc0
 have HB := Aside0.mk (Below.refl w.heap.size w)
 have H : (pentaglotref46_Sentences.l0 k l0 0) = some r := h
 clear h
 have H' := Aside0.mk H
 clear H
 go_enter Try.func34, Try.ntmps34
 go_wp2
 go_loopg [3] k (fun kq v3 w' => ∃ (x3_1 : Int), v3 = .int .i64 x3_1 ∧ Aside0 (pentaglotref46_Sentences.l0 kq l0 x3_1 = some r) ∧ Aside0 (kq ≤ k) ∧ Aside0 (Below w.heap.size w w'))
 case atStart => exact ⟨(0), fi_, H', ⟨Nat.le_refl _⟩, ⟨be_ HB⟩⟩
 case round =>
  clear H'
  obtain ⟨x3_1, rfl, HA, HK1, HB⟩ := hrel
  cases gk with
  | zero => exact absurd HA.out (by simp [pentaglotref46_Sentences.l0])
  | succ k1 =>
   have H := HA.out
   clear HA
   simp only [pentaglotref46_Sentences.l0] at H
   by_cases c2 : x3_1 < (l0.length : Int)
   ·rw [if_pos c2] at H
    have c2b0 : decide (x3_1 < (l0.length : Int)) = true := decide_eq_true c2
    clear c2
    by_cases c3 : 0 ≤ x3_1
    ·rw [if_pos c3] at H
     have c3b0 : decide (0 ≤ x3_1) = true := decide_eq_true c3
     clear c3
     replace H := Option.bind_eq_some_iff.mp H
     obtain ⟨t270, A40, H⟩ := H
     replace H : (if t270 = true then (pentaglotref46_Sentences.l0 k1 l0 (wrap64 (x3_1 + 1))) else (some false)) = some r := H
     have A4 := Aside0.mk A40
     clear A40
     by_cases c5 : t270 = true
     ·subst c5
      have H1 : (pentaglotref46_Sentences.l0 k1 l0 (wrap64 (x3_1 + 1))) = some r := by rw [if_pos rfl] at H; exact H
      clear H
      have H := H1
      clear H1
      have H' := Aside0.mk H
      clear H
      have p269 : 0 ≤ (x3_1 : Int) := of_decide_eq_true (by first | (with_reducible assumption) | assumption)
      have q269 : x3_1 < (l0.length : Int) := of_decide_eq_true (by first | (with_reducible assumption) | assumption)
      obtain ⟨ad269, A269_1, c269_1, A269_2, c269_2, e269, hx269_0, hx269_1, hx269_2, hl269_1, hi269_1, hl269_2, hi269_2⟩ := at_T27 HR0.out x3_1 p269 q269
      cases e269
      replace hx269_0 := (HB.out.cell (World.block_lt_of_cell? w _ hx269_0)).trans hx269_0
      replace hx269_1 := (HB.out.cell (World.block_lt_of_cell? w _ hx269_1)).trans hx269_1
      replace hx269_2 := (HB.out.cell (World.block_lt_of_cell? w _ hx269_2)).trans hx269_2
      have HR269_1 := Aside0.mk hi269_1
      have HC269_1 := Aside0.mk hl269_1
      clear hi269_1 hl269_1
      have HR269_2 := Aside0.mk hi269_2
      have HC269_2 := Aside0.mk hl269_2
      clear hi269_2 hl269_2
      replace p269 := eq_true p269
      replace q269 := eq_true q269
      go_wp2_with (first | ((with_reducible refine gate_callee (f := 21) rfl ?_); refine goesL_ (some 14) rfl rfl Try.func21 (by kernel_rfl) rfl #[.agg #[.string ((rd_T27 l0 x3_1).f0), .slice A269_1 ((rd_T27 l0 x3_1).f1).length c269_1, .slice A269_2 ((rd_T27 l0 x3_1).f2).length c269_2]] rfl (by (try simp only [List.map_toArray, List.map_cons, List.map_nil]); first | done | rfl | (simp only [List.length_drop, List.length_take]; rfl)) ?_; (with_reducible refine (pentaglotref39_Sentence.calls k1 ((rd_T27 l0 x3_1).f0) _ _ ((rd_T27 l0 x3_1).f1) _ _ ((rd_T27 l0 x3_1).f2) true _ ?side1 ?side2 ?side3 ?side4 A4.out).mono ?_); (case side1 => exact cs_ (Kd.C_below HR269_1.out HB.out)); (case side2 => exact HC269_1.out); (case side3 => exact cs_ (Kd.C_below HR269_2.out HB.out)); (case side4 => exact HC269_2.out); rintro e w6 ⟨rfl, hb⟩; refine ⟨_, rfl, ?_⟩; have n0_ := Aside0.mk (below_step (be_ HB) hb); clear HB; have HB := n0_; clear n0_; (try clear hb); (try clear hb2); (try clear hk); (try clear hi)))
      go_roundg k1
      case measure => have := HK1.out; omega
      case rel => exact ⟨(wrap64 (x3_1 + 1)), fi_, H', ⟨by have := HK1.out; omega⟩, ⟨be_ HB⟩⟩
     ·replace c5 := Bool.eq_false_iff.mpr c5
      subst c5
      have H1 : (some false) = some r := by rw [if_neg (show ¬ (false = true) by decide)] at H; exact H
      clear H
      have H := H1
      clear H1
      obtain rfl := Option.some.inj H
      have p269 : 0 ≤ (x3_1 : Int) := of_decide_eq_true (by first | (with_reducible assumption) | assumption)
      have q269 : x3_1 < (l0.length : Int) := of_decide_eq_true (by first | (with_reducible assumption) | assumption)
      obtain ⟨ad269, A269_1, c269_1, A269_2, c269_2, e269, hx269_0, hx269_1, hx269_2, hl269_1, hi269_1, hl269_2, hi269_2⟩ := at_T27 HR0.out x3_1 p269 q269
      cases e269
      replace hx269_0 := (HB.out.cell (World.block_lt_of_cell? w _ hx269_0)).trans hx269_0
      replace hx269_1 := (HB.out.cell (World.block_lt_of_cell? w _ hx269_1)).trans hx269_1
      replace hx269_2 := (HB.out.cell (World.block_lt_of_cell? w _ hx269_2)).trans hx269_2
      have HR269_1 := Aside0.mk hi269_1
      have HC269_1 := Aside0.mk hl269_1
      clear hi269_1 hl269_1
      have HR269_2 := Aside0.mk hi269_2
      have HC269_2 := Aside0.mk hl269_2
      clear hi269_2 hl269_2
      replace p269 := eq_true p269
      replace q269 := eq_true q269
      go_wp2_with (first | ((with_reducible refine gate_callee (f := 21) rfl ?_); refine goesL_ (some 14) rfl rfl Try.func21 (by kernel_rfl) rfl #[.agg #[.string ((rd_T27 l0 x3_1).f0), .slice A269_1 ((rd_T27 l0 x3_1).f1).length c269_1, .slice A269_2 ((rd_T27 l0 x3_1).f2).length c269_2]] rfl (by (try simp only [List.map_toArray, List.map_cons, List.map_nil]); first | done | rfl | (simp only [List.length_drop, List.length_take]; rfl)) ?_; (with_reducible refine (pentaglotref39_Sentence.calls k1 ((rd_T27 l0 x3_1).f0) _ _ ((rd_T27 l0 x3_1).f1) _ _ ((rd_T27 l0 x3_1).f2) false _ ?side1 ?side2 ?side3 ?side4 A4.out).mono ?_); (case side1 => exact cs_ (Kd.C_below HR269_1.out HB.out)); (case side2 => exact HC269_1.out); (case side3 => exact cs_ (Kd.C_below HR269_2.out HB.out)); (case side4 => exact HC269_2.out); rintro e w7 ⟨rfl, hb⟩; refine ⟨_, rfl, ?_⟩; have n0_ := Aside0.mk (below_step (be_ HB) hb); clear HB; have HB := n0_; clear n0_; (try clear hb); (try clear hb2); (try clear hk); (try clear hi)))
      go_ret
      exact ⟨er_, be_ HB⟩
    ·rw [if_neg c3] at H
     exact absurd H (by simp)
   ·rw [if_neg c2] at H
    have c2b0 : decide (x3_1 < (l0.length : Int)) = false := decide_eq_false c2
    clear c2
    obtain rfl := Option.some.inj H
    go_wp2
    go_ret
    exact ⟨er_, be_ HB⟩

/-! ### pentaglotlaw46_notice: function 13 -/
def pentaglotlaw46_notice.f (k : Nat) (l0 : List (S27)) : Option (Bool) := if (l0.length : Int) ≤ 8 then ((pentaglotref46_Sentences.f k l0).bind fun t271 => (some t271)) else (some false)
theorem pentaglotlaw46_notice.mono : ∀ a0 k, LeO (pentaglotlaw46_notice.f k a0) (pentaglotlaw46_notice.f (k + 1) a0) := by
 intro a0 k
 unfold pentaglotlaw46_notice.f
 repeat' first
   | (with_reducible exact pentaglotref46_Sentences.mono _ _)
   | (with_reducible exact LeO.refl _)
   | (with_reducible exact LeO.none _)
   | (with_reducible refine LeO.ite ?_ ?_)
   | (with_reducible refine LeO.bind ?_ (fun _ => ?_))
   | exact pentaglotref46_Sentences.mono _ _
   | exact LeO.none _
   | refine LeO.ite ?_ ?_
   | refine LeO.bind ?_ (fun _ => ?_)
set_option maxHeartbeats 8000000 in
set_option maxRecDepth 100000 in
theorem pentaglotlaw46_notice.calls (k : Nat) (A0 : Option Addr) (c0 : Nat) (l0 : List (S27)) (r : Bool) (w : World) (hr0 : Kd.C k27 w A0 l0.length l0) (hc0 : l0.length ≤ c0) (h : pentaglotlaw46_notice.f k l0 = some r) :
  Calls Try.prog 13 #[.slice A0 l0.length c0] w fun e w' => e = .returned (.bool r) ∧ Below w.heap.size w w' := by
 have HR0 := Aside0.mk hr0
 have HC0 := Aside0.mk hc0
 clear hr0 hc0
 have HB := Aside0.mk (Below.refl w.heap.size w)
 have H : (if (l0.length : Int) ≤ 8 then ((pentaglotref46_Sentences.f k l0).bind fun t271 => (some t271)) else (some false)) = some r := h
 clear h
 by_cases c2 : (l0.length : Int) ≤ 8
 ·rw [if_pos c2] at H
  have c2b0 : decide ((l0.length : Int) ≤ 8) = true := decide_eq_true c2
  have c2b1 : decide (l0.length ≤ 8) = true := decide_eq_true (by omega)
  clear c2
  replace H := Option.bind_eq_some_iff.mp H
  obtain ⟨t271, A30, H⟩ := H
  replace H : (some t271) = some r := H
  have A3 := Aside0.mk A30
  clear A30
  obtain rfl := Option.some.inj H
  go_enter Try.func13, Try.ntmps13
  go_wp2_with (first | (go_at_call 34; (with_reducible refine (pentaglotref46_Sentences.calls k _ _ l0 t271 _ ?side1 ?side2 A3.out).mono ?_); (case side1 => exact cs_ HR0.out); (case side2 => exact HC0.out); rintro e w4 ⟨rfl, hb⟩; have n0_ := Aside0.mk (below_step (be_ HB) hb); clear HB; have HB := n0_; clear n0_; (try clear hb); (try clear hb2); (try clear hk); (try clear hi)))
  go_ret
  exact ⟨er_, be_ HB⟩
 ·rw [if_neg c2] at H
  have c2b0 : decide ((l0.length : Int) ≤ 8) = false := decide_eq_false c2
  have c2b1 : decide (l0.length ≤ 8) = false := decide_eq_false (by omega)
  clear c2
  obtain rfl := Option.some.inj H
  go_enter Try.func13, Try.ntmps13
  go_wp2
  go_ret
  exact ⟨er_, be_ HB⟩

end Go.Proofs.Ytfampmajmbediaa.P
