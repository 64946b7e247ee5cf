-- printed by wip/tools/xprint.py
import Derived.Test.YtolpckflofjfhaaDoorPx0
import Derived.Test.YtolpckflofjfhaaDoorPx14
import Derived.Test.YtolpckflofjfhaaDoorPx16
namespace Go.Proofs.YtolpckflofjfhaaDoor.P
open Go.RowKit Go.Proofs.YtolpckflofjfhaaDoorW.PrintWords Go.Proofs.YtolpckflofjfhaaDoorW.PrintLast Go.Proofs.YtolpckflofjfhaaDoorW.PrintMore
attribute [local go_sem] max2_int min2_int max_two min_two max_three min_three max_four min_four
set_option linter.unusedVariables false
set_option maxHeartbeats 8000000
set_option maxRecDepth 100000
set_option linter.unusedSimpArgs false

mutual
def pentaglotref22_Formed.l0 : Nat → Int → Int → Int → ByteArray → List (S92) → Int → Int → List (S32) → Option (Bool)
 | 0, _, _, _, _, _, _, _, _ => none
 | k + 1, x1, x5, x234000, x234001, x234002, x234003, x234004, x234005 => if x5 < (x234005.length : Int) then (if 0 ≤ x5 then ((pentaglotref22_inside.f x234000 x234001 x234002 x234003 x234004 x234005 x1).bind fun t236 => ((pentaglotref22_Formed.f k ((rd_T32 x234005 x5).f0) ((rd_T32 x234005 x5).f1) ((rd_T32 x234005 x5).f2) ((rd_T32 x234005 x5).f3) ((rd_T32 x234005 x5).f4) ((rd_T32 x234005 x5).f5) t236).bind fun t237 => (if t237 = true then (pentaglotref22_Formed.l0 k x1 (wrap64 (x5 + 1)) x234000 x234001 x234002 x234003 x234004 x234005) else (some false)))) else (none)) else ((pentaglotref22_fields.f k x234000 x234001 x234002 x234003 x234004 x234005 x1).bind fun t234 => (some t234))
def pentaglotref22_Formed.f : Nat → Int → ByteArray → List (S92) → Int → Int → List (S32) → Int → Option (Bool)
 | 0, _, _, _, _, _, _, _ => none
 | k + 1, a0_0, a0_1, l0_2, a0_3, a0_4, l0_5, a1 => pentaglotref22_Formed.l0 k a1 0 a0_0 a0_1 l0_2 a0_3 a0_4 l0_5
end
def pentaglotref22_Formed.T4 : Bool × List (List Nat × List Nat) := (true, [([], []), ([0], [0]), ([], []), ([1, 2], [1, 2]), ([3], [3]), ([], []), ([], []), ([5, 6], [5, 6]), ([4, 7, 7], [4, 7]), ([8], [8])])
def pentaglotref22_Formed.B4 : List Nat := [0, 1, 0, 7, 15, 0, 0, 96, 255, 511]
theorem pentaglotref22_Formed.tab4 : rtab .any (opsOf Tryd.f63 4) = pentaglotref22_Formed.T4 := by kernel_rfl
theorem pentaglotref22_Formed.bits4 : waitsOk pentaglotref22_Formed.T4.2 pentaglotref22_Formed.B4 = true := by kernel_rfl
theorem pentaglotref22_Formed.calls (k : Nat) : ∀ (a0_0 : Int) (a0_1 : ByteArray) (A0_2 : Option Addr) (c0_2 : Nat) (l0_2 : List (S92)) (a0_3 : Int) (a0_4 : Int) (A0_5 : Option Addr) (c0_5 : Nat) (l0_5 : List (S32)) (a1 : Int) (r : Bool) (w : World) (hr0_2 : Kd.C k92 w A0_2 l0_2.length l0_2) (hc0_2 : l0_2.length ≤ c0_2) (hr0_5 : Kd.C k32 w A0_5 l0_5.length l0_5) (hc0_5 : l0_5.length ≤ c0_5) (h : pentaglotref22_Formed.f k a0_0 a0_1 l0_2 a0_3 a0_4 l0_5 a1 = some r),
  Calls Tryd.prog 63 #[.agg #[.int .i64 a0_0, .string a0_1, .slice A0_2 l0_2.length c0_2, .int .i64 a0_3, .int .i64 a0_4, .slice A0_5 l0_5.length c0_5], .int .i64 a1] w fun e w' => e = .returned (.bool r) ∧ Below w.heap.size w w' := by
 induction k using Nat.strongRecOn with
 | _ k ih =>
 intro a0_0 a0_1 A0_2 c0_2 l0_2 a0_3 a0_4 A0_5 c0_5 l0_5 a1 r w hr0_2 hc0_2 hr0_5 hc0_5 h
 cases k with
 | zero => exact absurd h (by simp [pentaglotref22_Formed.f])
 | succ k =>
 simp only [pentaglotref22_Formed.f] at h
 have hu32 := Tryd.underlying32
 have HR0_2 := mk_ hr0_2
 have HC0_2 := mk_ hc0_2
 clear hr0_2 hc0_2
 have HR0_5 := mk_ hr0_5
 have HC0_5 := mk_ hc0_5
 clear hr0_5 hc0_5
 have HB := mk_ (Below.refl w.heap.size w)
 have H : (pentaglotref22_Formed.l0 k a1 0 a0_0 a0_1 l0_2 a0_3 a0_4 l0_5) = some r := h
 clear h
 have H' := mk_ H
 clear H
 go_enter Tryd.func63, Tryd.ntmps63
 go_wp2_with (first | ((with_reducible refine gate_dst (N := 2) rfl ?_); refine bx_ 2 #[.int .i64 a0_0, .string a0_1, .slice A0_2 l0_2.length c0_2, .int .i64 a0_3, .int .i64 a0_4, .slice A0_5 l0_5.length c0_5] 32 ?_; intro gb233 hg w3 hbox hb; have BK233 := mk_ (hbox); have GW233 := mk_ (gs_ hg (be_ HB)); have GE233 := mk_ (gs_ hg (be_ HB)); replace HB := mk_ (below_step (be_ HB) hb); clear hb hbox hg))
 go_loopg [5] k (fun kq v5 w' => ∃ (x5_1 : Int), v5 = .int .i64 x5_1 ∧ Aside0 (pentaglotref22_Formed.l0 kq a1 x5_1 a0_0 a0_1 l0_2 a0_3 a0_4 l0_5 = some r) ∧ Aside0 (kq ≤ k) ∧ Aside0 (w'.heap[gb233]? = some (.cells #[.int .i64 a0_0, .string a0_1, (.slice A0_2 l0_2.length c0_2), .int .i64 a0_3, .int .i64 a0_4, (.slice A0_5 l0_5.length c0_5)] 32 (0, 0))) ∧ Aside0 (Below w.heap.size w w'))
 case atStart => exact ⟨(0), fi_, H', ⟨Nat.le_refl _⟩, ⟨bq_ BK233⟩, ⟨be1_ HB GE233⟩⟩
 case round =>
  clear H'
  obtain ⟨x5_1, rfl, HA, HK1, BK233, HB⟩ := hrel
  cases gk with
  | zero => exact absurd HA.out (by simp [pentaglotref22_Formed.l0])
  | succ k1 =>
   have H := HA.out
   clear HA
   simp only [pentaglotref22_Formed.l0] at H
   by_cases c4 : x5_1 < (l0_5.length : Int)
   ·rw [if_pos c4] at H
    have c4b0 : decide (x5_1 < (l0_5.length : Int)) = true := decide_eq_true c4
    clear c4
    by_cases c5 : 0 ≤ x5_1
    ·rw [if_pos c5] at H
     have c5b0 : decide (0 ≤ x5_1) = true := decide_eq_true c5
     clear c5
     replace H := Option.bind_eq_some_iff.mp H
     obtain ⟨t236, A60, H⟩ := H
     replace H : ((pentaglotref22_Formed.f k1 ((rd_T32 l0_5 x5_1).f0) ((rd_T32 l0_5 x5_1).f1) ((rd_T32 l0_5 x5_1).f2) ((rd_T32 l0_5 x5_1).f3) ((rd_T32 l0_5 x5_1).f4) ((rd_T32 l0_5 x5_1).f5) t236).bind fun t237 => (if t237 = true then (pentaglotref22_Formed.l0 k1 a1 (wrap64 (x5_1 + 1)) a0_0 a0_1 l0_2 a0_3 a0_4 l0_5) else (some false))) = some r := H
     have A6 := mk_ A60
     clear A60
     replace H := Option.bind_eq_some_iff.mp H
     obtain ⟨t237, A70, H⟩ := H
     replace H : (if t237 = true then (pentaglotref22_Formed.l0 k1 a1 (wrap64 (x5_1 + 1)) a0_0 a0_1 l0_2 a0_3 a0_4 l0_5) else (some false)) = some r := H
     have A7 := mk_ A70
     clear A70
     by_cases c8 : t237 = true
     ·subst c8
      rw [if_pos rfl] at H
      have H' := mk_ H
      clear H
      obtain ⟨_, _, _, _, _, _, _, _, _, _, _, _⟩ := hb6_ BK233
      try go_wp2
      have n0_ := mk_ (blk_drew BK233.out)
      have n1_ := mk_ (below_drew1 HB.out)
      clear BK233
      clear HB
      have BK233 := n0_
      have HB := n1_
      clear n0_ n1_
      have p235 : 0 ≤ (x5_1 : Int) := of_decide_eq_true (by first | (with_reducible assumption) | assumption)
      have q235 : x5_1 < (l0_5.length : Int) := of_decide_eq_true (by first | (with_reducible assumption) | assumption)
      obtain ⟨ad235, A235_2, c235_2, A235_5, c235_5, e235, hx235_0, hx235_1, hx235_2, hx235_3, hx235_4, hx235_5, hl235_2, hi235_2, hl235_5, hi235_5⟩ := at_T32 HR0_5.out x5_1 p235 q235
      have hw235_5 := hx235_5
      have hw235_4 := hx235_4
      have hw235_3 := hx235_3
      have hw235_2 := hx235_2
      have hw235_1 := hx235_1
      have hw235_0 := hx235_0
      cases e235
      replace hx235_0 := cb_ HB hx235_0
      replace hx235_1 := cb_ HB hx235_1
      replace hx235_2 := cb_ HB hx235_2
      replace hx235_3 := cb_ HB hx235_3
      replace hx235_4 := cb_ HB hx235_4
      replace hx235_5 := cb_ HB hx235_5
      have HR235_2 := mk_ hi235_2
      have HC235_2 := mk_ hl235_2
      clear hi235_2 hl235_2
      have HR235_5 := mk_ hi235_5
      have HC235_5 := mk_ hl235_5
      clear hi235_5 hl235_5
      replace p235 := eq_true p235
      replace q235 := eq_true q235
      refine start_ (n := 10) (S := fun w' => w'.cell? ⟨gb233, 0, none⟩ = some (.int .i64 a0_0) ∧ w'.cell? ⟨gb233, 1, none⟩ = some (.string a0_1) ∧ w'.cell? ⟨gb233, 2, none⟩ = some (.slice A0_2 l0_2.length c0_2) ∧ w'.cell? ⟨gb233, 3, none⟩ = some (.int .i64 a0_3) ∧ w'.cell? ⟨gb233, 4, none⟩ = some (.int .i64 a0_4) ∧ w'.cell? ⟨gb233, 5, none⟩ = some (.slice (some ad235) l0_5.length c0_5) ∧ w'.cell? (ad235.add ((x5_1).toNat * 6)) = some (.int .i64 ((rd_T32 l0_5 x5_1).f0)) ∧ w'.cell? ⟨(ad235.add ((x5_1).toNat * 6)).block, (ad235.add ((x5_1).toNat * 6)).off + 1, none⟩ = some (.string ((rd_T32 l0_5 x5_1).f1)) ∧ w'.cell? ⟨(ad235.add ((x5_1).toNat * 6)).block, (ad235.add ((x5_1).toNat * 6)).off + 2, none⟩ = some (.slice A235_2 ((rd_T32 l0_5 x5_1).f2).length c235_2) ∧ w'.cell? ⟨(ad235.add ((x5_1).toNat * 6)).block, (ad235.add ((x5_1).toNat * 6)).off + 3, none⟩ = some (.int .i64 ((rd_T32 l0_5 x5_1).f3)) ∧ w'.cell? ⟨(ad235.add ((x5_1).toNat * 6)).block, (ad235.add ((x5_1).toNat * 6)).off + 4, none⟩ = some (.int .i64 ((rd_T32 l0_5 x5_1).f4)) ∧ w'.cell? ⟨(ad235.add ((x5_1).toNat * 6)).block, (ad235.add ((x5_1).toNat * 6)).off + 5, none⟩ = some (.slice A235_5 ((rd_T32 l0_5 x5_1).f5).length c235_5)) (ds := []) #[false, false, false, false, false, false, false, false, false, false] (by kernel_rfl) rfl rfl ⟨(blk_cell BK233.out 0).trans rfl, (blk_cell BK233.out 1).trans rfl, (blk_cell BK233.out 2).trans rfl, (blk_cell BK233.out 3).trans rfl, (blk_cell BK233.out 4).trans rfl, (blk_cell BK233.out 5).trans rfl, ((HB.out.cell (World.block_lt_of_cell? w _ hw235_0)).trans hw235_0), ((HB.out.cell (World.block_lt_of_cell? w _ hw235_1)).trans hw235_1), ((HB.out.cell (World.block_lt_of_cell? w _ hw235_2)).trans hw235_2), ((HB.out.cell (World.block_lt_of_cell? w _ hw235_3)).trans hw235_3), ((HB.out.cell (World.block_lt_of_cell? w _ hw235_4)).trans hw235_4), ((HB.out.cell (World.block_lt_of_cell? w _ hw235_5)).trans hw235_5)⟩ (fun hHeld => ?_); refine with_tabW pentaglotref22_Formed.tab4 pentaglotref22_Formed.bits4 (fun HT_ HW_ => ?_)
      generalize wr.drew = w10 at BK233 HB HR235_2 HR235_5 hx235_0 hx235_1 hx235_2 hx235_3 hx235_4 hx235_5 hHeld ⊢
      refine pu_ 0 (some 13) ?_
      refine pu_ 2 (some 15) ?_
      refine pu_ 6 (some 19) ?_
      refine tk_ 1 (some 14) hHeld ?_
      refine pu_ 3 (some 16) ?_
      refine tk_ 4 (some 17) hHeld ?_
      refine tk_ 5 (some 18) hHeld ?_
      refine on_ 7 (some 20) (fun K hK => ?_)
      refine goes_ Tryd.func70 (by kernel_rfl) rfl #[.agg #[.int .i64 a0_0, .string a0_1, .slice A0_2 l0_2.length c0_2, .int .i64 a0_3, .int .i64 a0_4, .slice (some ad235) l0_5.length c0_5], .int .i64 a1] (by rfl) rfl rfl (by (try simp only [List.map_toArray, List.map_cons, List.map_nil]); first | done | rfl | (simp only [List.length_drop, List.length_take]; rfl)) ?_
      with_reducible refine (pentaglotref22_inside.calls a0_0 a0_1 _ _ l0_2 a0_3 a0_4 _ _ l0_5 a1 t236 _ ?side1 ?side2 ?side3 ?side4 A6.out).mono ?_
      (case side1 => exact cs_ (Kd.C_below HR0_2.out HB.out))
      (case side2 => exact HC0_2.out)
      (case side3 => exact cs_ (Kd.C_below HR0_5.out HB.out))
      (case side4 => exact HC0_5.out)
      rintro e w11 ⟨rfl, hb⟩
      refine ⟨_, rfl, ?_⟩
      have n0_ := mk_ (bb_ BK233 hb)
      have n1_ := mk_ (below_step (be1_ HB GE233) hb)
      clear BK233
      clear HB
      have BK233 := n0_
      have HB := n1_
      clear n0_ n1_
      (try clear hb)
      (try clear hb2)
      (try clear hk)
      (try clear hi)
      refine hK.out _ _ ⟨(blk_cell BK233.out 0).trans rfl, (blk_cell BK233.out 1).trans rfl, (blk_cell BK233.out 2).trans rfl, (blk_cell BK233.out 3).trans rfl, (blk_cell BK233.out 4).trans rfl, (blk_cell BK233.out 5).trans rfl, ((HB.out.cell (World.block_lt_of_cell? w _ hw235_0)).trans hw235_0), ((HB.out.cell (World.block_lt_of_cell? w _ hw235_1)).trans hw235_1), ((HB.out.cell (World.block_lt_of_cell? w _ hw235_2)).trans hw235_2), ((HB.out.cell (World.block_lt_of_cell? w _ hw235_3)).trans hw235_3), ((HB.out.cell (World.block_lt_of_cell? w _ hw235_4)).trans hw235_4), ((HB.out.cell (World.block_lt_of_cell? w _ hw235_5)).trans hw235_5)⟩ (fun hHeld => ?_)
      clear hK K
      refine no_ (N := some 20) ?_
      refine on_ 8 (some 21) (fun K hK => ?_)
      refine goes_ Tryd.func63 (by kernel_rfl) rfl #[.agg #[.int .i64 ((rd_T32 l0_5 x5_1).f0), .string ((rd_T32 l0_5 x5_1).f1), .slice A235_2 ((rd_T32 l0_5 x5_1).f2).length c235_2, .int .i64 ((rd_T32 l0_5 x5_1).f3), .int .i64 ((rd_T32 l0_5 x5_1).f4), .slice A235_5 ((rd_T32 l0_5 x5_1).f5).length c235_5], .int .i64 t236] (by rfl) rfl rfl (by (try simp only [List.map_toArray, List.map_cons, List.map_nil]); first | done | rfl | (simp only [List.length_drop, List.length_take]; rfl)) ?_
      with_reducible refine (ih k1 (by have := HK1.out; omega) ((rd_T32 l0_5 x5_1).f0) ((rd_T32 l0_5 x5_1).f1) _ _ ((rd_T32 l0_5 x5_1).f2) ((rd_T32 l0_5 x5_1).f3) ((rd_T32 l0_5 x5_1).f4) _ _ ((rd_T32 l0_5 x5_1).f5) t236 true _ ?side1 ?side2 ?side3 ?side4 A7.out).mono ?_
      (case side1 => exact cs_ (Kd.C_below HR235_2.out HB.out))
      (case side2 => exact HC235_2.out)
      (case side3 => exact cs_ (Kd.C_below HR235_5.out HB.out))
      (case side4 => exact HC235_5.out)
      rintro e w12 ⟨rfl, hb⟩
      refine ⟨_, rfl, ?_⟩
      have n0_ := mk_ (bb_ BK233 hb)
      have n1_ := mk_ (below_step (be1_ HB GE233) hb)
      clear BK233
      clear HB
      have BK233 := n0_
      have HB := n1_
      clear n0_ n1_
      (try clear hb)
      (try clear hb2)
      (try clear hk)
      (try clear hi)
      refine hK.out _ _ ⟨(blk_cell BK233.out 0).trans rfl, (blk_cell BK233.out 1).trans rfl, (blk_cell BK233.out 2).trans rfl, (blk_cell BK233.out 3).trans rfl, (blk_cell BK233.out 4).trans rfl, (blk_cell BK233.out 5).trans rfl, ((HB.out.cell (World.block_lt_of_cell? w _ hw235_0)).trans hw235_0), ((HB.out.cell (World.block_lt_of_cell? w _ hw235_1)).trans hw235_1), ((HB.out.cell (World.block_lt_of_cell? w _ hw235_2)).trans hw235_2), ((HB.out.cell (World.block_lt_of_cell? w _ hw235_3)).trans hw235_3), ((HB.out.cell (World.block_lt_of_cell? w _ hw235_4)).trans hw235_4), ((HB.out.cell (World.block_lt_of_cell? w _ hw235_5)).trans hw235_5)⟩ (fun hHeld => ?_)
      clear hK K
      refine no_ (N := some 21) ?_
      refine pu_ 9 (some 22) ?_
      refine done_ (done_of HT_.out (by kernel_rfl)) ?_
      try go_wp2
      go_roundg k1
      case measure => have := HK1.out; omega
      case rel => exact ⟨(wrap64 (x5_1 + 1)), fi_, H', ⟨by have := HK1.out; omega⟩, ⟨bq_ BK233⟩, ⟨be1_ HB GE233⟩⟩
     ·replace c8 := Bool.eq_false_iff.mpr c8
      subst c8
      rw [if_neg nf_] at H
      obtain rfl := Option.some.inj H
      obtain ⟨_, _, _, _, _, _, _, _, _, _, _, _⟩ := hb6_ BK233
      try go_wp2
      have n0_ := mk_ (blk_drew BK233.out)
      have n1_ := mk_ (below_drew1 HB.out)
      clear BK233
      clear HB
      have BK233 := n0_
      have HB := n1_
      clear n0_ n1_
      have p235 : 0 ≤ (x5_1 : Int) := of_decide_eq_true (by first | (with_reducible assumption) | assumption)
      have q235 : x5_1 < (l0_5.length : Int) := of_decide_eq_true (by first | (with_reducible assumption) | assumption)
      obtain ⟨ad235, A235_2, c235_2, A235_5, c235_5, e235, hx235_0, hx235_1, hx235_2, hx235_3, hx235_4, hx235_5, hl235_2, hi235_2, hl235_5, hi235_5⟩ := at_T32 HR0_5.out x5_1 p235 q235
      have hw235_5 := hx235_5
      have hw235_4 := hx235_4
      have hw235_3 := hx235_3
      have hw235_2 := hx235_2
      have hw235_1 := hx235_1
      have hw235_0 := hx235_0
      cases e235
      replace hx235_0 := cb_ HB hx235_0
      replace hx235_1 := cb_ HB hx235_1
      replace hx235_2 := cb_ HB hx235_2
      replace hx235_3 := cb_ HB hx235_3
      replace hx235_4 := cb_ HB hx235_4
      replace hx235_5 := cb_ HB hx235_5
      have HR235_2 := mk_ hi235_2
      have HC235_2 := mk_ hl235_2
      clear hi235_2 hl235_2
      have HR235_5 := mk_ hi235_5
      have HC235_5 := mk_ hl235_5
      clear hi235_5 hl235_5
      replace p235 := eq_true p235
      replace q235 := eq_true q235
      refine start_ (n := 10) (S := fun w' => w'.cell? ⟨gb233, 0, none⟩ = some (.int .i64 a0_0) ∧ w'.cell? ⟨gb233, 1, none⟩ = some (.string a0_1) ∧ w'.cell? ⟨gb233, 2, none⟩ = some (.slice A0_2 l0_2.length c0_2) ∧ w'.cell? ⟨gb233, 3, none⟩ = some (.int .i64 a0_3) ∧ w'.cell? ⟨gb233, 4, none⟩ = some (.int .i64 a0_4) ∧ w'.cell? ⟨gb233, 5, none⟩ = some (.slice (some ad235) l0_5.length c0_5) ∧ w'.cell? (ad235.add ((x5_1).toNat * 6)) = some (.int .i64 ((rd_T32 l0_5 x5_1).f0)) ∧ w'.cell? ⟨(ad235.add ((x5_1).toNat * 6)).block, (ad235.add ((x5_1).toNat * 6)).off + 1, none⟩ = some (.string ((rd_T32 l0_5 x5_1).f1)) ∧ w'.cell? ⟨(ad235.add ((x5_1).toNat * 6)).block, (ad235.add ((x5_1).toNat * 6)).off + 2, none⟩ = some (.slice A235_2 ((rd_T32 l0_5 x5_1).f2).length c235_2) ∧ w'.cell? ⟨(ad235.add ((x5_1).toNat * 6)).block, (ad235.add ((x5_1).toNat * 6)).off + 3, none⟩ = some (.int .i64 ((rd_T32 l0_5 x5_1).f3)) ∧ w'.cell? ⟨(ad235.add ((x5_1).toNat * 6)).block, (ad235.add ((x5_1).toNat * 6)).off + 4, none⟩ = some (.int .i64 ((rd_T32 l0_5 x5_1).f4)) ∧ w'.cell? ⟨(ad235.add ((x5_1).toNat * 6)).block, (ad235.add ((x5_1).toNat * 6)).off + 5, none⟩ = some (.slice A235_5 ((rd_T32 l0_5 x5_1).f5).length c235_5)) (ds := []) #[false, false, false, false, false, false, false, false, false, false] (by kernel_rfl) rfl rfl ⟨(blk_cell BK233.out 0).trans rfl, (blk_cell BK233.out 1).trans rfl, (blk_cell BK233.out 2).trans rfl, (blk_cell BK233.out 3).trans rfl, (blk_cell BK233.out 4).trans rfl, (blk_cell BK233.out 5).trans rfl, ((HB.out.cell (World.block_lt_of_cell? w _ hw235_0)).trans hw235_0), ((HB.out.cell (World.block_lt_of_cell? w _ hw235_1)).trans hw235_1), ((HB.out.cell (World.block_lt_of_cell? w _ hw235_2)).trans hw235_2), ((HB.out.cell (World.block_lt_of_cell? w _ hw235_3)).trans hw235_3), ((HB.out.cell (World.block_lt_of_cell? w _ hw235_4)).trans hw235_4), ((HB.out.cell (World.block_lt_of_cell? w _ hw235_5)).trans hw235_5)⟩ (fun hHeld => ?_); refine with_tabW pentaglotref22_Formed.tab4 pentaglotref22_Formed.bits4 (fun HT_ HW_ => ?_)
      generalize wr.drew = w14 at BK233 HB HR235_2 HR235_5 hx235_0 hx235_1 hx235_2 hx235_3 hx235_4 hx235_5 hHeld ⊢
      refine pu_ 0 (some 13) ?_
      refine pu_ 2 (some 15) ?_
      refine pu_ 6 (some 19) ?_
      refine tk_ 1 (some 14) hHeld ?_
      refine pu_ 3 (some 16) ?_
      refine tk_ 4 (some 17) hHeld ?_
      refine tk_ 5 (some 18) hHeld ?_
      refine on_ 7 (some 20) (fun K hK => ?_)
      refine goes_ Tryd.func70 (by kernel_rfl) rfl #[.agg #[.int .i64 a0_0, .string a0_1, .slice A0_2 l0_2.length c0_2, .int .i64 a0_3, .int .i64 a0_4, .slice (some ad235) l0_5.length c0_5], .int .i64 a1] (by rfl) rfl rfl (by (try simp only [List.map_toArray, List.map_cons, List.map_nil]); first | done | rfl | (simp only [List.length_drop, List.length_take]; rfl)) ?_
      with_reducible refine (pentaglotref22_inside.calls a0_0 a0_1 _ _ l0_2 a0_3 a0_4 _ _ l0_5 a1 t236 _ ?side1 ?side2 ?side3 ?side4 A6.out).mono ?_
      (case side1 => exact cs_ (Kd.C_below HR0_2.out HB.out))
      (case side2 => exact HC0_2.out)
      (case side3 => exact cs_ (Kd.C_below HR0_5.out HB.out))
      (case side4 => exact HC0_5.out)
      rintro e w15 ⟨rfl, hb⟩
      refine ⟨_, rfl, ?_⟩
      have n0_ := mk_ (bb_ BK233 hb)
      have n1_ := mk_ (below_step (be1_ HB GE233) hb)
      clear BK233
      clear HB
      have BK233 := n0_
      have HB := n1_
      clear n0_ n1_
      (try clear hb)
      (try clear hb2)
      (try clear hk)
      (try clear hi)
      refine hK.out _ _ ⟨(blk_cell BK233.out 0).trans rfl, (blk_cell BK233.out 1).trans rfl, (blk_cell BK233.out 2).trans rfl, (blk_cell BK233.out 3).trans rfl, (blk_cell BK233.out 4).trans rfl, (blk_cell BK233.out 5).trans rfl, ((HB.out.cell (World.block_lt_of_cell? w _ hw235_0)).trans hw235_0), ((HB.out.cell (World.block_lt_of_cell? w _ hw235_1)).trans hw235_1), ((HB.out.cell (World.block_lt_of_cell? w _ hw235_2)).trans hw235_2), ((HB.out.cell (World.block_lt_of_cell? w _ hw235_3)).trans hw235_3), ((HB.out.cell (World.block_lt_of_cell? w _ hw235_4)).trans hw235_4), ((HB.out.cell (World.block_lt_of_cell? w _ hw235_5)).trans hw235_5)⟩ (fun hHeld => ?_)
      clear hK K
      refine no_ (N := some 20) ?_
      refine on_ 8 (some 21) (fun K hK => ?_)
      refine goes_ Tryd.func63 (by kernel_rfl) rfl #[.agg #[.int .i64 ((rd_T32 l0_5 x5_1).f0), .string ((rd_T32 l0_5 x5_1).f1), .slice A235_2 ((rd_T32 l0_5 x5_1).f2).length c235_2, .int .i64 ((rd_T32 l0_5 x5_1).f3), .int .i64 ((rd_T32 l0_5 x5_1).f4), .slice A235_5 ((rd_T32 l0_5 x5_1).f5).length c235_5], .int .i64 t236] (by rfl) rfl rfl (by (try simp only [List.map_toArray, List.map_cons, List.map_nil]); first | done | rfl | (simp only [List.length_drop, List.length_take]; rfl)) ?_
      with_reducible refine (ih k1 (by have := HK1.out; omega) ((rd_T32 l0_5 x5_1).f0) ((rd_T32 l0_5 x5_1).f1) _ _ ((rd_T32 l0_5 x5_1).f2) ((rd_T32 l0_5 x5_1).f3) ((rd_T32 l0_5 x5_1).f4) _ _ ((rd_T32 l0_5 x5_1).f5) t236 false _ ?side1 ?side2 ?side3 ?side4 A7.out).mono ?_
      (case side1 => exact cs_ (Kd.C_below HR235_2.out HB.out))
      (case side2 => exact HC235_2.out)
      (case side3 => exact cs_ (Kd.C_below HR235_5.out HB.out))
      (case side4 => exact HC235_5.out)
      rintro e w16 ⟨rfl, hb⟩
      refine ⟨_, rfl, ?_⟩
      have n0_ := mk_ (bb_ BK233 hb)
      have n1_ := mk_ (below_step (be1_ HB GE233) hb)
      clear BK233
      clear HB
      have BK233 := n0_
      have HB := n1_
      clear n0_ n1_
      (try clear hb)
      (try clear hb2)
      (try clear hk)
      (try clear hi)
      refine hK.out _ _ ⟨(blk_cell BK233.out 0).trans rfl, (blk_cell BK233.out 1).trans rfl, (blk_cell BK233.out 2).trans rfl, (blk_cell BK233.out 3).trans rfl, (blk_cell BK233.out 4).trans rfl, (blk_cell BK233.out 5).trans rfl, ((HB.out.cell (World.block_lt_of_cell? w _ hw235_0)).trans hw235_0), ((HB.out.cell (World.block_lt_of_cell? w _ hw235_1)).trans hw235_1), ((HB.out.cell (World.block_lt_of_cell? w _ hw235_2)).trans hw235_2), ((HB.out.cell (World.block_lt_of_cell? w _ hw235_3)).trans hw235_3), ((HB.out.cell (World.block_lt_of_cell? w _ hw235_4)).trans hw235_4), ((HB.out.cell (World.block_lt_of_cell? w _ hw235_5)).trans hw235_5)⟩ (fun hHeld => ?_)
      clear hK K
      refine no_ (N := some 21) ?_
      refine pu_ 9 (some 22) ?_
      refine done_ (done_of HT_.out (by kernel_rfl)) ?_
      try go_wp2
      go_ret
      exact ⟨er_, be1_ HB GE233⟩
    ·rw [if_neg c5] at H
     exact absurd H (by simp)
   ·rw [if_neg c4] at H
    have c4b0 : decide (x5_1 < (l0_5.length : Int)) = false := decide_eq_false c4
    clear c4
    replace H := Option.bind_eq_some_iff.mp H
    obtain ⟨t234, A170, H⟩ := H
    replace H : (some t234) = some r := H
    have A17 := mk_ A170
    clear A170
    obtain rfl := Option.some.inj H
    obtain ⟨_, _, _, _, _, _, _, _, _, _, _, _⟩ := hb6_ BK233
    go_wp2_with (first | ((with_reducible refine gate_callee (f := 71) rfl ?_); refine gl_ (some 25) Tryd.func71 #[.agg #[.int .i64 a0_0, .string a0_1, .slice A0_2 l0_2.length c0_2, .int .i64 a0_3, .int .i64 a0_4, .slice A0_5 l0_5.length c0_5], .int .i64 a1] ?_; (with_reducible refine (pentaglotref22_fields.calls k1 a0_0 a0_1 _ _ l0_2 a0_3 a0_4 _ _ l0_5 a1 t234 _ ?side1 ?side2 ?side3 ?side4 A17.out).mono ?_); (case side1 => exact cs_ (Kd.C_below HR0_2.out HB.out)); (case side2 => exact HC0_2.out); (case side3 => exact cs_ (Kd.C_below HR0_5.out HB.out)); (case side4 => exact HC0_5.out); rintro e w19 ⟨rfl, hb⟩; refine ⟨_, rfl, ?_⟩; replace BK233 := mk_ (bb_ BK233 hb); replace HB := mk_ (below_step (be1_ HB GE233) hb); (try clear hb); (try clear hb2); (try clear hk); (try clear hi)))
    go_ret
    exact ⟨er_, be1_ HB GE233⟩

end Go.Proofs.YtolpckflofjfhaaDoor.P
