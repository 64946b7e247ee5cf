import Derived.Test.YtolpckflofjfhaaDoorPx0
import Derived.Test.YtolpckflofjfhaaDoorPx12
import Derived.Test.YtolpckflofjfhaaDoorPx16
namespace Go.Proofs.YtolpckflofjfhaaDoor.P
open Go.RowKit Go.Proofs.YtolpckflofjfhaaDoorW.PrintWords Go.Proofs.YtolpckflofjfhaaDoorW.PrintLast Go.Proofs.YtolpckflofjfhaaDoorW.PrintMore
attribute [local go_sem] max2_int min2_int max_two min_two max_three min_three max_four min_four
set_option linter.unusedVariables false
set_option maxHeartbeats 8000000
set_option maxRecDepth 100000
set_option linter.unusedSimpArgs false
mutual
def pentaglotref22_Formed.l0 : Nat → Int → Int → Int → ByteArray → List (S92) → Int → Int → List (S32) → Option (Bool)
 | 0, _, _, _, _, _, _, _, _ => none
 | k + 1, x1, x5, x234000, x234001, x234002, x234003, x234004, x234005 => if x5 < (x234005.length : Int) then (if 0 ≤ x5 then ((pentaglotref22_inside.f x234000 x234001 x234002 x234003 x234004 x234005 x1).bind fun t236 => ((pentaglotref22_Formed.f k ((rd_T32 x234005 x5).f0) ((rd_T32 x234005 x5).f1) ((rd_T32 x234005 x5).f2) ((rd_T32 x234005 x5).f3) ((rd_T32 x234005 x5).f4) ((rd_T32 x234005 x5).f5) t236).bind fun t237 => (if t237 = true then (pentaglotref22_Formed.l0 k x1 (wrap64 (x5 + 1)) x234000 x234001 x234002 x234003 x234004 x234005) else (some false)))) else (none)) else ((pentaglotref22_fields.f k x234000 x234001 x234002 x234003 x234004 x234005 x1).bind fun t234 => (some t234))
def pentaglotref22_Formed.f : Nat → Int → ByteArray → List (S92) → Int → Int → List (S32) → Int → Option (Bool)
 | 0, _, _, _, _, _, _, _ => none
 | k + 1, a0_0, a0_1, l0_2, a0_3, a0_4, l0_5, a1 => pentaglotref22_Formed.l0 k a1 0 a0_0 a0_1 l0_2 a0_3 a0_4 l0_5
end
def pentaglotref22_Formed.T4 : Bool × List (List Nat × List Nat) := (true, [([], []), ([0], [0]), ([], []), ([1, 2], [1, 2]), ([3], [3]), ([], []), ([], []), ([5, 6], [5, 6]), ([4, 7, 7], [4, 7]), ([8], [8])])
def pentaglotref22_Formed.B4 : List Nat := [0, 1, 0, 7, 15, 0, 0, 96, 255, 511]
theorem pentaglotref22_Formed.tab4 : rtab .any (opsOf Tryd.f63 4) = pentaglotref22_Formed.T4 := by kernel_rfl
theorem pentaglotref22_Formed.bits4 : waitsOk pentaglotref22_Formed.T4.2 pentaglotref22_Formed.B4 = true := by kernel_rfl
theorem pentaglotref22_Formed.calls (k : Nat) : ∀ (a0_0 : Int) (a0_1 : ByteArray) (A0_2 : Option Addr) (c0_2 : Nat) (l0_2 : List (S92)) (a0_3 : Int) (a0_4 : Int) (A0_5 : Option Addr) (c0_5 : Nat) (l0_5 : List (S32)) (a1 : Int) (r : Bool) (w : World) (hr0_2 : Kd.C k92 w A0_2 l0_2.length l0_2) (hc0_2 : l0_2.length ≤ c0_2) (hr0_5 : Kd.C k32 w A0_5 l0_5.length l0_5) (hc0_5 : l0_5.length ≤ c0_5) (h : pentaglotref22_Formed.f k a0_0 a0_1 l0_2 a0_3 a0_4 l0_5 a1 = some r),
  Calls Tryd.prog 63 #[.agg #[.int .i64 a0_0, .string a0_1, .slice A0_2 l0_2.length c0_2, .int .i64 a0_3, .int .i64 a0_4, .slice A0_5 l0_5.length c0_5], .int .i64 a1] w fun e w' => e = .returned (.bool r) ∧ Below w.heap.size w w' := by
 induction k using Nat.strongRecOn with
 | _ k ih =>
 intro a0_0 a0_1 A0_2 c0_2 l0_2 a0_3 a0_4 A0_5 c0_5 l0_5 a1 r w hr0_2 hc0_2 hr0_5 hc0_5 h
 cases k with
 | zero => exact absurd h (by simp [pentaglotref22_Formed.f])
 | succ k =>
 simp only [pentaglotref22_Formed.f] at h
 have hu32 := Tryd.underlying32
 have HR0_2 := mk_ hr0_2; have HC0_2 := mk_ hc0_2; clear hr0_2 hc0_2
 have HR0_5 := mk_ hr0_5; have HC0_5 := mk_ hc0_5; clear hr0_5 hc0_5
 have HB := mk_ (Below.refl w.heap.size w)
 have H : (pentaglotref22_Formed.l0 k a1 0 a0_0 a0_1 l0_2 a0_3 a0_4 l0_5) = some r := h
 clear h
 have H' := mk_ H
 clear H
 go_enter Tryd.func63, Tryd.ntmps63
 go_wp2_with (first | ((with_reducible refine gate_dst (N := 2) rfl ?_); refine bx_ 2 #[.int .i64 a0_0, .string a0_1, .slice A0_2 l0_2.length c0_2, .int .i64 a0_3, .int .i64 a0_4, .slice A0_5 l0_5.length c0_5] 32 ?_; intro gb233 hg w3 hbox hb; have BK233 := mk_ (hbox); have GW233 := mk_ (gs_ hg (be_ HB)); have GE233 := mk_ (gs_ hg (be_ HB)); replace HB := mk_ (below_step (be_ HB) hb); clear hb hbox hg))
 go_loopg [5] k (fun kq v5 w' => ∃ (x5_1 : Int), v5 = .int .i64 x5_1 ∧ Aside0 (pentaglotref22_Formed.l0 kq a1 x5_1 a0_0 a0_1 l0_2 a0_3 a0_4 l0_5 = some r) ∧ Aside0 (kq ≤ k) ∧ Aside0 (w'.heap[gb233]? = some (.cells #[.int .i64 a0_0, .string a0_1, (.slice A0_2 l0_2.length c0_2), .int .i64 a0_3, .int .i64 a0_4, (.slice A0_5 l0_5.length c0_5)] 32 (0, 0))) ∧ Aside0 (Below w.heap.size w w'))
 case atStart => exact ⟨(0), fi_, H', ⟨Nat.le_refl _⟩, ⟨bq_ BK233⟩, ⟨be1_ HB GE233⟩⟩
 case round =>
  clear H'
  obtain ⟨x5_1, rfl, HA, HK1, BK233, HB⟩ := hrel
  cases gk with
  | zero => exact absurd HA.out (by simp [pentaglotref22_Formed.l0])
  | succ k1 =>
   have H := HA.out
   clear HA
   simp only [pentaglotref22_Formed.l0] at H
   by_cases c4 : x5_1 < (l0_5.length : Int)
   ·rw [if_pos c4] at H
    have c4b0 : decide (x5_1 < (l0_5.length : Int)) = true := decide_eq_true c4
    clear c4
    by_cases c5 : 0 ≤ x5_1
    ·rw [if_pos c5] at H
     have c5b0 : decide (0 ≤ x5_1) = true := decide_eq_true c5
     clear c5
     replace H := Option.bind_eq_some_iff.mp H
     obtain ⟨t236, A60, H⟩ := H
     replace H : ((pentaglotref22_Formed.f k1 ((rd_T32 l0_5 x5_1).f0) ((rd_T32 l0_5 x5_1).f1) ((rd_T32 l0_5 x5_1).f2) ((rd_T32 l0_5 x5_1).f3) ((rd_T32 l0_5 x5_1).f4) ((rd_T32 l0_5 x5_1).f5) t236).bind fun t237 => (if t237 = true then (pentaglotref22_Formed.l0 k1 a1 (wrap64 (x5_1 + 1)) a0_0 a0_1 l0_2 a0_3 a0_4 l0_5) else (some false))) = some r := H
     have A6 := mk_ A60
     clear A60
     replace H := Option.bind_eq_some_iff.mp H
     obtain ⟨t237, A70, H⟩ := H
     replace H : (if t237 = true then (pentaglotref22_Formed.l0 k1 a1 (wrap64 (x5_1 + 1)) a0_0 a0_1 l0_2 a0_3 a0_4 l0_5) else (some false)) = some r := H
     have A7 := mk_ A70
     clear A70
     by_cases c8 : t237 = true
     ·subst c8
      rw [if_pos rfl] at H
      have H' := mk_ H
      clear H
      obtain ⟨_, _, _, _, _, _, _, _, _, _, _, _⟩ := hb6_ BK233
      try go_wp2
      replace BK233 := mk_ (blk_drew BK233.out)
      replace HB := mk_ (below_drew1 HB.out)
      have p235 : 0 ≤ (x5_1 : Int) := of_decide_eq_true (by first | (with_reducible assumption) | assumption)
      have q235 : x5_1 < (l0_5.length : Int) := of_decide_eq_true (by first | (with_reducible assumption) | assumption)
      obtain ⟨ad235, A235_2, c235_2, A235_5, c235_5, e235, hx235_0, hx235_1, hx235_2, hx235_3, hx235_4, hx235_5, hl235_2, hi235_2, hl235_5, hi235_5⟩ := at_T32 HR0_5.out x5_1 p235 q235
      have hw235_5 := hx235_5
      have hw235_4 := hx235_4
      have hw235_3 := hx235_3
      have hw235_2 := hx235_2
      have hw235_1 := hx235_1
      have hw235_0 := hx235_0
      cases e235
      replace hx235_0 := cb_ HB hx235_0
      replace hx235_1 := cb_ HB hx235_1
      replace hx235_2 := cb_ HB hx235_2
      replace hx235_3 := cb_ HB hx235_3
      replace hx235_4 := cb_ HB hx235_4
      replace hx235_5 := cb_ HB hx235_5
      have HR235_2 := mk_ hi235_2; have HC235_2 := mk_ hl235_2; clear hi235_2 hl235_2
      have HR235_5 := mk_ hi235_5; have HC235_5 := mk_ hl235_5; clear hi235_5 hl235_5
      replace p235 := eq_true p235
      replace q235 := eq_true q235
      refine start_ (n := 10) (S := fun w' => w'.cell? ⟨gb233, 0, none⟩ = some (.int .i64 a0_0) ∧ w'.cell? ⟨gb233, 1, none⟩ = some (.string a0_1) ∧ w'.cell? ⟨gb233, 2, none⟩ = some (.slice A0_2 l0_2.length c0_2) ∧ w'.cell? ⟨gb233, 3, none⟩ = some (.int .i64 a0_3) ∧ w'.cell? ⟨gb233, 4, none⟩ = some (.int .i64 a0_4) ∧ w'.cell? ⟨gb233, 5, none⟩ = some (.slice (some ad235) l0_5.length c0_5) ∧ w'.cell? (ad235.add ((x5_1).toNat * 6)) = some (.int .i64 ((rd_T32 l0_5 x5_1).f0)) ∧ w'.cell? ⟨(ad235.add ((x5_1).toNat * 6)).block, (ad235.add ((x5_1).toNat * 6)).off + 1, none⟩ = some (.string ((rd_T32 l0_5 x5_1).f1)) ∧ w'.cell? ⟨(ad235.add ((x5_1).toNat * 6)).block, (ad235.add ((x5_1).toNat * 6)).off + 2, none⟩ = some (.slice A235_2 ((rd_T32 l0_5 x5_1).f2).length c235_2) ∧ w'.cell? ⟨(ad235.add ((x5_1).toNat * 6)).block, (ad235.add ((x5_1).toNat * 6)).off + 3, none⟩ = some (.int .i64 ((rd_T32 l0_5 x5_1).f3)) ∧ w'.cell? ⟨(ad235.add ((x5_1).toNat * 6)).block, (ad235.add ((x5_1).toNat * 6)).off + 4, none⟩ = some (.int .i64 ((rd_T32 l0_5 x5_1).f4)) ∧ w'.cell? ⟨(ad235.add ((x5_1).toNat * 6)).block, (ad235.add ((x5_1).toNat * 6)).off + 5, none⟩ = some (.slice A235_5 ((rd_T32 l0_5 x5_1).f5).length c235_5)) (ds := []) #[false, false, false, false, false, false, false, false, false, false] (by kernel_rfl) rfl rfl ⟨(blk_cell BK233.out 0).trans rfl, (blk_cell BK233.out 1).trans rfl, (blk_cell BK233.out 2).trans rfl, (blk_cell BK233.out 3).trans rfl, (blk_cell BK233.out 4).trans rfl, (blk_cell BK233.out 5).trans rfl, ((HB.out.cell (World.block_lt_of_cell? w _ hw235_0)).trans hw235_0), ((HB.out.cell (World.block_lt_of_cell? w _ hw235_1)).trans hw235_1), ((HB.out.cell (World.block_lt_of_cell? w _ hw235_2)).trans hw235_2), ((HB.out.cell (World.block_lt_of_cell? w _ hw235_3)).trans hw235_3), ((HB.out.cell (World.block_lt_of_cell? w _ hw235_4)).trans hw235_4), ((HB.out.cell (World.block_lt_of_cell? w _ hw235_5)).trans hw235_5)⟩ (fun hHeld => ?_); refine with_tabW pentaglotref22_Formed.tab4 pentaglotref22_Formed.bits4 (fun HT_ HW_ => ?_)
      generalize wr.drew = w10 at BK233 HB HR235_2 HR235_5 hx235_0 hx235_1 hx235_2 hx235_3 hx235_4 hx235_5 hHeld ⊢
      refine pu_ 0 (some 13) ?_
      refine pu_ 2 (some 15) ?_
      refine pu_ 6 (some 19) ?_
      refine tk_ 1 (some 14) hHeld ?_
      refine pu_ 3 (some 16) ?_
      refine tk_ 4 (some 17) hHeld ?_
      refine tk_ 5 (some 18) hHeld ?_
      refine on_ 7 (some 20) (fun K hK => ?_)
      refine goes_ Tryd.func70 (by kernel_rfl) rfl #[.agg #[.int .i64 a0_0, .string a0_1, .slice A0_2 l0_2.length c0_2, .int .i64 a0_3, .int .i64 a0_4, .slice (some ad235) l0_5.length c0_5], .int .i64 a1] (by rfl) rfl rfl (by (try simp only [List.map_toArray, List.map_cons, List.map_nil]); first | done | rfl | (simp only [List.length_drop, List.length_take]; rfl)) ?_
      with_reducible refine (pentaglotref22_inside.calls a0_0 a0_1 _ _ l0_2 a0_3 a0_4 _ _ l0_5 a1 t236 _ ?side1 ?side2 ?side3 ?side4 A6.out).mono ?_
      (case side1 => exact cs_ (Kd.C_below HR0_2.out HB.out))
      (case side2 => exact HC0_2.out)
      (case side3 => exact cs_ (Kd.C_below HR0_5.out HB.out))
      (case side4 => exact HC0_5.out)
      rintro e w11 ⟨rfl, hb⟩
      refine ⟨_, rfl, ?_⟩
      replace BK233 := mk_ (bb_ BK233 hb)
      replace HB := mk_ (below_step (be1_ HB GE233) hb)
      refine hK.out _ _ ⟨(blk_cell BK233.out 0).trans rfl, (blk_cell BK233.out 1).trans rfl, (blk_cell BK233.out 2).trans rfl, (blk_cell BK233.out 3).trans rfl, (blk_cell BK233.out 4).trans rfl, (blk_cell BK233.out 5).trans rfl, ((HB.out.cell (World.block_lt_of_cell? w _ hw235_0)).trans hw235_0), ((HB.out.cell (World.block_lt_of_cell? w _ hw235_1)).trans hw235_1), ((HB.out.cell (World.block_lt_of_cell? w _ hw235_2)).trans hw235_2), ((HB.out.cell (World.block_lt_of_cell? w _ hw235_3)).trans hw235_3), ((HB.out.cell (World.block_lt_of_cell? w _ hw235_4)).trans hw235_4), ((HB.out.cell (World.block_lt_of_cell? w _ hw235_5)).trans hw235_5)⟩ (fun hHeld => ?_)
      clear hK K
      refine no_ (N := some 20) ?_
      refine on_ 8 (some 21) (fun K hK => ?_)
      refine goes_ Tryd.func63 (by kernel_rfl) rfl #[.agg #[.int .i64 ((rd_T32 l0_5 x5_1).f0), .string ((rd_T32 l0_5 x5_1).f1), .slice A235_2 ((rd_T32 l0_5 x5_1).f2).length c235_2, .int .i64 ((rd_T32 l0_5 x5_1).f3), .int .i64 ((rd_T32 l0_5 x5_1).f4), .slice A235_5 ((rd_T32 l0_5 x5_1).f5).length c235_5], .int .i64 t236] (by rfl) rfl rfl (by (try simp only [List.map_toArray, List.map_cons, List.map_nil]); first | done | rfl | (simp only [List.length_drop, List.length_take]; rfl)) ?_
      with_reducible refine (ih k1 (by have := HK1.out; omega) ((rd_T32 l0_5 x5_1).f0) ((rd_T32 l0_5 x5_1).f1) _ _ ((rd_T32 l0_5 x5_1).f2) ((rd_T32 l0_5 x5_1).f3) ((rd_T32 l0_5 x5_1).f4) _ _ ((rd_T32 l0_5 x5_1).f5) t236 true _ ?side1 ?side2 ?side3 ?side4 A7.out).mono ?_
      (case side1 => exact cs_ (Kd.C_below HR235_2.out HB.out))
      (case side2 => exact HC235_2.out)
      (case side3 => exact cs_ (Kd.C_below HR235_5.out HB.out))
      (case side4 => exact HC235_5.out)
      rintro e w12 ⟨rfl, hb⟩
      refine ⟨_, rfl, ?_⟩
      replace BK233 := mk_ (bb_ BK233 hb)
      replace HB := mk_ (below_step (be1_ HB GE233) hb)
      refine hK.out _ _ ⟨(blk_cell BK233.out 0).trans rfl, (blk_cell BK233.out 1).trans rfl, (blk_cell BK233.out 2).trans rfl, (blk_cell BK233.out 3).trans rfl, (blk_cell BK233.out 4).trans rfl, (blk_cell BK233.out 5).trans rfl, ((HB.out.cell (World.block_lt_of_cell? w _ hw235_0)).trans hw235_0), ((HB.out.cell (World.block_lt_of_cell? w _ hw235_1)).trans hw235_1), ((HB.out.cell (World.block_lt_of_cell? w _ hw235_2)).trans hw235_2), ((HB.out.cell (World.block_lt_of_cell? w _ hw235_3)).trans hw235_3), ((HB.out.cell (World.block_lt_of_cell? w _ hw235_4)).trans hw235_4), ((HB.out.cell (World.block_lt_of_cell? w _ hw235_5)).trans hw235_5)⟩ (fun hHeld => ?_)
      clear hK K
      refine no_ (N := some 21) ?_
      refine pu_ 9 (some 22) ?_
      refine done_ (done_of HT_.out (by kernel_rfl)) ?_
      try go_wp2
      go_roundg k1
      case measure => have := HK1.out; omega
      case rel => exact ⟨(wrap64 (x5_1 + 1)), fi_, H', ⟨by have := HK1.out; omega⟩, ⟨bq_ BK233⟩, ⟨be1_ HB GE233⟩⟩
     ·replace c8 := Bool.eq_false_iff.mpr c8
      subst c8
      rw [if_neg nf_] at H
      obtain rfl := Option.some.inj H
      obtain ⟨_, _, _, _, _, _, _, _, _, _, _, _⟩ := hb6_ BK233
      try go_wp2
      replace BK233 := mk_ (blk_drew BK233.out)
      replace HB := mk_ (below_drew1 HB.out)
      have p235 : 0 ≤ (x5_1 : Int) := of_decide_eq_true (by first | (with_reducible assumption) | assumption)
      have q235 : x5_1 < (l0_5.length : Int) := of_decide_eq_true (by first | (with_reducible assumption) | assumption)
      obtain ⟨ad235, A235_2, c235_2, A235_5, c235_5, e235, hx235_0, hx235_1, hx235_2, hx235_3, hx235_4, hx235_5, hl235_2, hi235_2, hl235_5, hi235_5⟩ := at_T32 HR0_5.out x5_1 p235 q235
      have hw235_5 := hx235_5
      have hw235_4 := hx235_4
      have hw235_3 := hx235_3
      have hw235_2 := hx235_2
      have hw235_1 := hx235_1
      have hw235_0 := hx235_0
      cases e235
      replace hx235_0 := cb_ HB hx235_0
      replace hx235_1 := cb_ HB hx235_1
      replace hx235_2 := cb_ HB hx235_2
      replace hx235_3 := cb_ HB hx235_3
      replace hx235_4 := cb_ HB hx235_4
      replace hx235_5 := cb_ HB hx235_5
      have HR235_2 := mk_ hi235_2; have HC235_2 := mk_ hl235_2; clear hi235_2 hl235_2
      have HR235_5 := mk_ hi235_5; have HC235_5 := mk_ hl235_5; clear hi235_5 hl235_5
      replace p235 := eq_true p235
      replace q235 := eq_true q235
      refine start_ (n := 10) (S := fun w' => w'.cell? ⟨gb233, 0, none⟩ = some (.int .i64 a0_0) ∧ w'.cell? ⟨gb233, 1, none⟩ = some (.string a0_1) ∧ w'.cell? ⟨gb233, 2, none⟩ = some (.slice A0_2 l0_2.length c0_2) ∧ w'.cell? ⟨gb233, 3, none⟩ = some (.int .i64 a0_3) ∧ w'.cell? ⟨gb233, 4, none⟩ = some (.int .i64 a0_4) ∧ w'.cell? ⟨gb233, 5, none⟩ = some (.slice (some ad235) l0_5.length c0_5) ∧ w'.cell? (ad235.add ((x5_1).toNat * 6)) = some (.int .i64 ((rd_T32 l0_5 x5_1).f0)) ∧ w'.cell? ⟨(ad235.add ((x5_1).toNat * 6)).block, (ad235.add ((x5_1).toNat * 6)).off + 1, none⟩ = some (.string ((rd_T32 l0_5 x5_1).f1)) ∧ w'.cell? ⟨(ad235.add ((x5_1).toNat * 6)).block, (ad235.add ((x5_1).toNat * 6)).off + 2, none⟩ = some (.slice A235_2 ((rd_T32 l0_5 x5_1).f2).length c235_2) ∧ w'.cell? ⟨(ad235.add ((x5_1).toNat * 6)).block, (ad235.add ((x5_1).toNat * 6)).off + 3, none⟩ = some (.int .i64 ((rd_T32 l0_5 x5_1).f3)) ∧ w'.cell? ⟨(ad235.add ((x5_1).toNat * 6)).block, (ad235.add ((x5_1).toNat * 6)).off + 4, none⟩ = some (.int .i64 ((rd_T32 l0_5 x5_1).f4)) ∧ w'.cell? ⟨(ad235.add ((x5_1).toNat * 6)).block, (ad235.add ((x5_1).toNat * 6)).off + 5, none⟩ = some (.slice A235_5 ((rd_T32 l0_5 x5_1).f5).length c235_5)) (ds := []) #[false, false, false, false, false, false, false, false, false, false] (by kernel_rfl) rfl rfl ⟨(blk_cell BK233.out 0).trans rfl, (blk_cell BK233.out 1).trans rfl, (blk_cell BK233.out 2).trans rfl, (blk_cell BK233.out 3).trans rfl, (blk_cell BK233.out 4).trans rfl, (blk_cell BK233.out 5).trans rfl, ((HB.out.cell (World.block_lt_of_cell? w _ hw235_0)).trans hw235_0), ((HB.out.cell (World.block_lt_of_cell? w _ hw235_1)).trans hw235_1), ((HB.out.cell (World.block_lt_of_cell? w _ hw235_2)).trans hw235_2), ((HB.out.cell (World.block_lt_of_cell? w _ hw235_3)).trans hw235_3), ((HB.out.cell (World.block_lt_of_cell? w _ hw235_4)).trans hw235_4), ((HB.out.cell (World.block_lt_of_cell? w _ hw235_5)).trans hw235_5)⟩ (fun hHeld => ?_); refine with_tabW pentaglotref22_Formed.tab4 pentaglotref22_Formed.bits4 (fun HT_ HW_ => ?_)
      generalize wr.drew = w14 at BK233 HB HR235_2 HR235_5 hx235_0 hx235_1 hx235_2 hx235_3 hx235_4 hx235_5 hHeld ⊢
      refine pu_ 0 (some 13) ?_
      refine pu_ 2 (some 15) ?_
      refine pu_ 6 (some 19) ?_
      refine tk_ 1 (some 14) hHeld ?_
      refine pu_ 3 (some 16) ?_
      refine tk_ 4 (some 17) hHeld ?_
      refine tk_ 5 (some 18) hHeld ?_
      refine on_ 7 (some 20) (fun K hK => ?_)
      refine goes_ Tryd.func70 (by kernel_rfl) rfl #[.agg #[.int .i64 a0_0, .string a0_1, .slice A0_2 l0_2.length c0_2, .int .i64 a0_3, .int .i64 a0_4, .slice (some ad235) l0_5.length c0_5], .int .i64 a1] (by rfl) rfl rfl (by (try simp only [List.map_toArray, List.map_cons, List.map_nil]); first | done | rfl | (simp only [List.length_drop, List.length_take]; rfl)) ?_
      with_reducible refine (pentaglotref22_inside.calls a0_0 a0_1 _ _ l0_2 a0_3 a0_4 _ _ l0_5 a1 t236 _ ?side1 ?side2 ?side3 ?side4 A6.out).mono ?_
      (case side1 => exact cs_ (Kd.C_below HR0_2.out HB.out))
      (case side2 => exact HC0_2.out)
      (case side3 => exact cs_ (Kd.C_below HR0_5.out HB.out))
      (case side4 => exact HC0_5.out)
      rintro e w15 ⟨rfl, hb⟩
      refine ⟨_, rfl, ?_⟩
      replace BK233 := mk_ (bb_ BK233 hb)
      replace HB := mk_ (below_step (be1_ HB GE233) hb)
      refine hK.out _ _ ⟨(blk_cell BK233.out 0).trans rfl, (blk_cell BK233.out 1).trans rfl, (blk_cell BK233.out 2).trans rfl, (blk_cell BK233.out 3).trans rfl, (blk_cell BK233.out 4).trans rfl, (blk_cell BK233.out 5).trans rfl, ((HB.out.cell (World.block_lt_of_cell? w _ hw235_0)).trans hw235_0), ((HB.out.cell (World.block_lt_of_cell? w _ hw235_1)).trans hw235_1), ((HB.out.cell (World.block_lt_of_cell? w _ hw235_2)).trans hw235_2), ((HB.out.cell (World.block_lt_of_cell? w _ hw235_3)).trans hw235_3), ((HB.out.cell (World.block_lt_of_cell? w _ hw235_4)).trans hw235_4), ((HB.out.cell (World.block_lt_of_cell? w _ hw235_5)).trans hw235_5)⟩ (fun hHeld => ?_)
      clear hK K
      refine no_ (N := some 20) ?_
      refine on_ 8 (some 21) (fun K hK => ?_)
      refine goes_ Tryd.func63 (by kernel_rfl) rfl #[.agg #[.int .i64 ((rd_T32 l0_5 x5_1).f0), .string ((rd_T32 l0_5 x5_1).f1), .slice A235_2 ((rd_T32 l0_5 x5_1).f2).length c235_2, .int .i64 ((rd_T32 l0_5 x5_1).f3), .int .i64 ((rd_T32 l0_5 x5_1).f4), .slice A235_5 ((rd_T32 l0_5 x5_1).f5).length c235_5], .int .i64 t236] (by rfl) rfl rfl (by (try simp only [List.map_toArray, List.map_cons, List.map_nil]); first | done | rfl | (simp only [List.length_drop, List.length_take]; rfl)) ?_
      with_reducible refine (ih k1 (by have := HK1.out; omega) ((rd_T32 l0_5 x5_1).f0) ((rd_T32 l0_5 x5_1).f1) _ _ ((rd_T32 l0_5 x5_1).f2) ((rd_T32 l0_5 x5_1).f3) ((rd_T32 l0_5 x5_1).f4) _ _ ((rd_T32 l0_5 x5_1).f5) t236 false _ ?side1 ?side2 ?side3 ?side4 A7.out).mono ?_
      (case side1 => exact cs_ (Kd.C_below HR235_2.out HB.out))
      (case side2 => exact HC235_2.out)
      (case side3 => exact cs_ (Kd.C_below HR235_5.out HB.out))
      (case side4 => exact HC235_5.out)
      rintro e w16 ⟨rfl, hb⟩
      refine ⟨_, rfl, ?_⟩
      replace BK233 := mk_ (bb_ BK233 hb)
      replace HB := mk_ (below_step (be1_ HB GE233) hb)
      refine hK.out _ _ ⟨(blk_cell BK233.out 0).trans rfl, (blk_cell BK233.out 1).trans rfl, (blk_cell BK233.out 2).trans rfl, (blk_cell BK233.out 3).trans rfl, (blk_cell BK233.out 4).trans rfl, (blk_cell BK233.out 5).trans rfl, ((HB.out.cell (World.block_lt_of_cell? w _ hw235_0)).trans hw235_0), ((HB.out.cell (World.block_lt_of_cell? w _ hw235_1)).trans hw235_1), ((HB.out.cell (World.block_lt_of_cell? w _ hw235_2)).trans hw235_2), ((HB.out.cell (World.block_lt_of_cell? w _ hw235_3)).trans hw235_3), ((HB.out.cell (World.block_lt_of_cell? w _ hw235_4)).trans hw235_4), ((HB.out.cell (World.block_lt_of_cell? w _ hw235_5)).trans hw235_5)⟩ (fun hHeld => ?_)
      clear hK K
      refine no_ (N := some 21) ?_
      refine pu_ 9 (some 22) ?_
      refine done_ (done_of HT_.out (by kernel_rfl)) ?_
      try go_wp2
      go_ret
      exact ⟨er_, be1_ HB GE233⟩
    ·rw [if_neg c5] at H
     exact absurd H (by simp)
   ·rw [if_neg c4] at H
    have c4b0 : decide (x5_1 < (l0_5.length : Int)) = false := decide_eq_false c4
    clear c4
    replace H := Option.bind_eq_some_iff.mp H
    obtain ⟨t234, A170, H⟩ := H
    replace H : (some t234) = some r := H
    have A17 := mk_ A170
    clear A170
    obtain rfl := Option.some.inj H
    obtain ⟨_, _, _, _, _, _, _, _, _, _, _, _⟩ := hb6_ BK233
    go_wp2_with (first | ((with_reducible refine gate_callee (f := 71) rfl ?_); refine gl_ (some 25) Tryd.func71 #[.agg #[.int .i64 a0_0, .string a0_1, .slice A0_2 l0_2.length c0_2, .int .i64 a0_3, .int .i64 a0_4, .slice A0_5 l0_5.length c0_5], .int .i64 a1] ?_; (with_reducible refine (pentaglotref22_fields.calls k1 a0_0 a0_1 _ _ l0_2 a0_3 a0_4 _ _ l0_5 a1 t234 _ ?side1 ?side2 ?side3 ?side4 A17.out).mono ?_); (case side1 => exact cs_ (Kd.C_below HR0_2.out HB.out)); (case side2 => exact HC0_2.out); (case side3 => exact cs_ (Kd.C_below HR0_5.out HB.out)); (case side4 => exact HC0_5.out); rintro e w19 ⟨rfl, hb⟩; refine ⟨_, rfl, ?_⟩; replace BK233 := mk_ (bb_ BK233 hb); replace HB := mk_ (below_step (be1_ HB GE233) hb)))
    go_ret
    exact ⟨er_, be1_ HB GE233⟩
def pentaglotref22_Valid.j0 : Nat → Int → Int → ByteArray → List (S92) → Int → Int → List (S32) → Option (Bool)
 | 0, _, _, _, _, _, _, _ => none
 | k + 1, x1, x239000, x239001, x239002, x239003, x239004, x239005 => if x1 > 1099511627776 then ((pentaglotref22_Size.f k x239000 x239001 x239002 x239003 x239004 x239005).bind fun t239 => (if t239 ≤ 200 then ((pentaglotref22_Depth.f k x239000 x239001 x239002 x239003 x239004 x239005).bind fun t240 => (if t240 ≤ 32 then ((pentaglotref22_Formed.f k x239000 x239001 x239002 x239003 x239004 x239005 1099511627776).bind fun t241 => (some t241)) else (some false))) else (some false))) else ((pentaglotref22_Size.f k x239000 x239001 x239002 x239003 x239004 x239005).bind fun t242 => (if t242 ≤ 200 then ((pentaglotref22_Depth.f k x239000 x239001 x239002 x239003 x239004 x239005).bind fun t243 => (if t243 ≤ 32 then ((pentaglotref22_Formed.f k x239000 x239001 x239002 x239003 x239004 x239005 x1).bind fun t244 => (some t244)) else (some false))) else (some false)))
def pentaglotref22_Valid.f (k : Nat) (a0_0 : Int) (a0_1 : ByteArray) (l0_2 : List (S92)) (a0_3 : Int) (a0_4 : Int) (l0_5 : List (S32)) (a1 : Int) : Option (Bool) := if a1 < 0 then (pentaglotref22_Valid.j0 k 0 a0_0 a0_1 l0_2 a0_3 a0_4 l0_5) else (pentaglotref22_Valid.j0 k a1 a0_0 a0_1 l0_2 a0_3 a0_4 l0_5)
theorem pentaglotref22_Valid.calls (k : Nat) (a0_0 : Int) (a0_1 : ByteArray) (A0_2 : Option Addr) (c0_2 : Nat) (l0_2 : List (S92)) (a0_3 : Int) (a0_4 : Int) (A0_5 : Option Addr) (c0_5 : Nat) (l0_5 : List (S32)) (a1 : Int) (r : Bool) (w : World) (hr0_2 : Kd.C k92 w A0_2 l0_2.length l0_2) (hc0_2 : l0_2.length ≤ c0_2) (hr0_5 : Kd.C k32 w A0_5 l0_5.length l0_5) (hc0_5 : l0_5.length ≤ c0_5) (h : pentaglotref22_Valid.f k a0_0 a0_1 l0_2 a0_3 a0_4 l0_5 a1 = some r) :
  Calls Tryd.prog 50 #[.agg #[.int .i64 a0_0, .string a0_1, .slice A0_2 l0_2.length c0_2, .int .i64 a0_3, .int .i64 a0_4, .slice A0_5 l0_5.length c0_5], .int .i64 a1] w fun e w' => e = .returned (.bool r) ∧ Below w.heap.size w w' := by
 have hu32 := Tryd.underlying32
 have HR0_2 := mk_ hr0_2; have HC0_2 := mk_ hc0_2; clear hr0_2 hc0_2
 have HR0_5 := mk_ hr0_5; have HC0_5 := mk_ hc0_5; clear hr0_5 hc0_5
 have HB := mk_ (Below.refl w.heap.size w)
 have H : (if a1 < 0 then (pentaglotref22_Valid.j0 k 0 a0_0 a0_1 l0_2 a0_3 a0_4 l0_5) else (pentaglotref22_Valid.j0 k a1 a0_0 a0_1 l0_2 a0_3 a0_4 l0_5)) = some r := h
 clear h
 have HC3 := mk_ H
 clear H
 go_enter Tryd.func50, Tryd.ntmps50
 go_upto_if 6 with (first | ((with_reducible refine gate_dst (N := 2) rfl ?_); refine bx_ 2 #[.int .i64 a0_0, .string a0_1, .slice A0_2 l0_2.length c0_2, .int .i64 a0_3, .int .i64 a0_4, .slice A0_5 l0_5.length c0_5] 32 ?_; intro gb238 hg w4 hbox hb; have BK238 := mk_ (hbox); have GW238 := mk_ (gs_ hg (be_ HB)); have GE238 := mk_ (gs_ hg (be_ HB)); replace HB := mk_ (below_step (be_ HB) hb); clear hb hbox hg))
 (try simp only [Act.put, List.setIfInBounds_toArray, List.set_cons_zero, List.set_cons_succ])
 go_cut [1] (fun v1 wc => ∃ (kq : Nat) (x1_2 : Int), v1 = .int .i64 x1_2 ∧ Aside0 (pentaglotref22_Valid.j0 kq x1_2 a0_0 a0_1 l0_2 a0_3 a0_4 l0_5 = some r) ∧ Aside0 (kq ≤ k) ∧ Aside0 (wc.heap[gb238]? = some (.cells #[.int .i64 a0_0, .string a0_1, (.slice A0_2 l0_2.length c0_2), .int .i64 a0_3, .int .i64 a0_4, (.slice A0_5 l0_5.length c0_5)] 32 (0, 0))) ∧ Aside0 (Below w.heap.size w wc))
 case first =>
  have H := HC3.out
  clear HC3
  by_cases c5 : a1 < 0
  ·rw [if_pos c5] at H
   have c5b0 : decide (a1 < 0) = true := decide_eq_true c5
   clear c5
   (first | rw [c5b0] | (simp only [i64_w, i32_w]; rw [c5b0]) | skip)
   have H' := mk_ H
   clear H
   go_wp2
   go_meet
   case rel => exact ⟨_, (0), fi_, H', ⟨by first | omega | exact Nat.le_refl _⟩, ⟨bq_ BK238⟩, ⟨be1_ HB GE238⟩⟩
  ·rw [if_neg c5] at H
   have c5b0 : decide (a1 < 0) = false := decide_eq_false c5
   clear c5
   (first | rw [c5b0] | (simp only [i64_w, i32_w]; rw [c5b0]) | skip)
   have H' := mk_ H
   clear H
   go_wp2
   go_meet
   case rel => exact ⟨_, (a1), fi_, H', ⟨by first | omega | exact Nat.le_refl _⟩, ⟨bq_ BK238⟩, ⟨be1_ HB GE238⟩⟩
 case rest =>
  clear HC3
  obtain ⟨kq, x1_2, rfl, HA, HJ2, BK238, HB⟩ := hcut
  cases kq with
  | zero => exact absurd HA.out (by simp [pentaglotref22_Valid.j0])
  | succ kj2 =>
   have H := HA.out
   clear HA
   simp only [pentaglotref22_Valid.j0] at H
   by_cases c6 : x1_2 > 1099511627776
   ·rw [if_pos c6] at H
    have c6b0 : decide (1099511627776 < x1_2) = true := decide_eq_true c6
    clear c6
    replace H := Option.bind_eq_some_iff.mp H
    obtain ⟨t239, A70, H⟩ := H
    replace H : (if t239 ≤ 200 then ((pentaglotref22_Depth.f kj2 a0_0 a0_1 l0_2 a0_3 a0_4 l0_5).bind fun t240 => (if t240 ≤ 32 then ((pentaglotref22_Formed.f kj2 a0_0 a0_1 l0_2 a0_3 a0_4 l0_5 1099511627776).bind fun t241 => (some t241)) else (some false))) else (some false)) = some r := H
    have A7 := mk_ A70
    clear A70
    by_cases c8 : t239 ≤ 200
    ·rw [if_pos c8] at H
     have c8b0 : decide (t239 ≤ 200) = true := decide_eq_true c8
     clear c8
     replace H := Option.bind_eq_some_iff.mp H
     obtain ⟨t240, A90, H⟩ := H
     replace H : (if t240 ≤ 32 then ((pentaglotref22_Formed.f kj2 a0_0 a0_1 l0_2 a0_3 a0_4 l0_5 1099511627776).bind fun t241 => (some t241)) else (some false)) = some r := H
     have A9 := mk_ A90
     clear A90
     by_cases c10 : t240 ≤ 32
     ·rw [if_pos c10] at H
      have c10b0 : decide (t240 ≤ 32) = true := decide_eq_true c10
      clear c10
      replace H := Option.bind_eq_some_iff.mp H
      obtain ⟨t241, A110, H⟩ := H
      replace H : (some t241) = some r := H
      have A11 := mk_ A110
      clear A110
      obtain rfl := Option.some.inj H
      obtain ⟨_, _, _, _, _, _, _, _, _, _, _, _⟩ := hb6_ BK238
      go_wp2_with (first | ((with_reducible refine gate_callee (f := 35) rfl ?_); refine gl_ (some 10) Tryd.func35 #[.agg #[.int .i64 a0_0, .string a0_1, .slice A0_2 l0_2.length c0_2, .int .i64 a0_3, .int .i64 a0_4, .slice A0_5 l0_5.length c0_5]] ?_; (with_reducible refine (pentaglotref22_Size.calls kj2 a0_0 a0_1 _ _ l0_2 a0_3 a0_4 _ _ l0_5 t239 _ ?side1 ?side2 ?side3 ?side4 A7.out).mono ?_); (case side1 => exact cs_ (Kd.C_below HR0_2.out HB.out)); (case side2 => exact HC0_2.out); (case side3 => exact cs_ (Kd.C_below HR0_5.out HB.out)); (case side4 => exact HC0_5.out); rintro e w13 ⟨rfl, hb⟩; refine ⟨_, rfl, ?_⟩; replace BK238 := mk_ (bb_ BK238 hb); replace HB := mk_ (below_step (be1_ HB GE238) hb); obtain ⟨_, _, _, _, _, _, _, _, _, _, _, _⟩ := hb6_ BK238) | (go_at_call 62; (with_reducible refine (pentaglotref22_Depth.calls kj2 a0_0 a0_1 _ _ l0_2 a0_3 a0_4 _ _ l0_5 t240 _ ?side1 ?side2 ?side3 ?side4 A9.out).mono ?_); (case side1 => exact cs_ (Kd.C_below HR0_2.out HB.out)); (case side2 => exact HC0_2.out); (case side3 => exact cs_ (Kd.C_below HR0_5.out HB.out)); (case side4 => exact HC0_5.out); rintro e w15 ⟨rfl, hb⟩; replace BK238 := mk_ (bb_ BK238 hb); replace HB := mk_ (below_step (be1_ HB GE238) hb); obtain ⟨_, _, _, _, _, _, _, _, _, _, _, _⟩ := hb6_ BK238) | (go_at_call 63; (with_reducible refine (pentaglotref22_Formed.calls kj2 a0_0 a0_1 _ _ l0_2 a0_3 a0_4 _ _ l0_5 1099511627776 t241 _ ?side1 ?side2 ?side3 ?side4 A11.out).mono ?_); (case side1 => exact cs_ (Kd.C_below HR0_2.out HB.out)); (case side2 => exact HC0_2.out); (case side3 => exact cs_ (Kd.C_below HR0_5.out HB.out)); (case side4 => exact HC0_5.out); rintro e w17 ⟨rfl, hb⟩; replace BK238 := mk_ (bb_ BK238 hb); replace HB := mk_ (below_step (be1_ HB GE238) hb)))
      go_ret
      exact ⟨er_, be1_ HB GE238⟩
     ·rw [if_neg c10] at H
      have c10b0 : decide (t240 ≤ 32) = false := decide_eq_false c10
      clear c10
      obtain rfl := Option.some.inj H
      obtain ⟨_, _, _, _, _, _, _, _, _, _, _, _⟩ := hb6_ BK238
      go_wp2_with (first | ((with_reducible refine gate_callee (f := 35) rfl ?_); refine gl_ (some 10) Tryd.func35 #[.agg #[.int .i64 a0_0, .string a0_1, .slice A0_2 l0_2.length c0_2, .int .i64 a0_3, .int .i64 a0_4, .slice A0_5 l0_5.length c0_5]] ?_; (with_reducible refine (pentaglotref22_Size.calls kj2 a0_0 a0_1 _ _ l0_2 a0_3 a0_4 _ _ l0_5 t239 _ ?side1 ?side2 ?side3 ?side4 A7.out).mono ?_); (case side1 => exact cs_ (Kd.C_below HR0_2.out HB.out)); (case side2 => exact HC0_2.out); (case side3 => exact cs_ (Kd.C_below HR0_5.out HB.out)); (case side4 => exact HC0_5.out); rintro e w19 ⟨rfl, hb⟩; refine ⟨_, rfl, ?_⟩; replace BK238 := mk_ (bb_ BK238 hb); replace HB := mk_ (below_step (be1_ HB GE238) hb); obtain ⟨_, _, _, _, _, _, _, _, _, _, _, _⟩ := hb6_ BK238) | (go_at_call 62; (with_reducible refine (pentaglotref22_Depth.calls kj2 a0_0 a0_1 _ _ l0_2 a0_3 a0_4 _ _ l0_5 t240 _ ?side1 ?side2 ?side3 ?side4 A9.out).mono ?_); (case side1 => exact cs_ (Kd.C_below HR0_2.out HB.out)); (case side2 => exact HC0_2.out); (case side3 => exact cs_ (Kd.C_below HR0_5.out HB.out)); (case side4 => exact HC0_5.out); rintro e w21 ⟨rfl, hb⟩; replace BK238 := mk_ (bb_ BK238 hb); replace HB := mk_ (below_step (be1_ HB GE238) hb)))
      go_ret
      exact ⟨er_, be1_ HB GE238⟩
    ·rw [if_neg c8] at H
     have c8b0 : decide (t239 ≤ 200) = false := decide_eq_false c8
     clear c8
     obtain rfl := Option.some.inj H
     obtain ⟨_, _, _, _, _, _, _, _, _, _, _, _⟩ := hb6_ BK238
     go_wp2_with (first | ((with_reducible refine gate_callee (f := 35) rfl ?_); refine gl_ (some 10) Tryd.func35 #[.agg #[.int .i64 a0_0, .string a0_1, .slice A0_2 l0_2.length c0_2, .int .i64 a0_3, .int .i64 a0_4, .slice A0_5 l0_5.length c0_5]] ?_; (with_reducible refine (pentaglotref22_Size.calls kj2 a0_0 a0_1 _ _ l0_2 a0_3 a0_4 _ _ l0_5 t239 _ ?side1 ?side2 ?side3 ?side4 A7.out).mono ?_); (case side1 => exact cs_ (Kd.C_below HR0_2.out HB.out)); (case side2 => exact HC0_2.out); (case side3 => exact cs_ (Kd.C_below HR0_5.out HB.out)); (case side4 => exact HC0_5.out); rintro e w23 ⟨rfl, hb⟩; refine ⟨_, rfl, ?_⟩; replace BK238 := mk_ (bb_ BK238 hb); replace HB := mk_ (below_step (be1_ HB GE238) hb)))
     go_ret
     exact ⟨er_, be1_ HB GE238⟩
   ·rw [if_neg c6] at H
    have c6b0 : decide (1099511627776 < x1_2) = false := decide_eq_false c6
    clear c6
    replace H := Option.bind_eq_some_iff.mp H
    obtain ⟨t242, A240, H⟩ := H
    replace H : (if t242 ≤ 200 then ((pentaglotref22_Depth.f kj2 a0_0 a0_1 l0_2 a0_3 a0_4 l0_5).bind fun t243 => (if t243 ≤ 32 then ((pentaglotref22_Formed.f kj2 a0_0 a0_1 l0_2 a0_3 a0_4 l0_5 x1_2).bind fun t244 => (some t244)) else (some false))) else (some false)) = some r := H
    have A24 := mk_ A240
    clear A240
    by_cases c25 : t242 ≤ 200
    ·rw [if_pos c25] at H
     have c25b0 : decide (t242 ≤ 200) = true := decide_eq_true c25
     clear c25
     replace H := Option.bind_eq_some_iff.mp H
     obtain ⟨t243, A260, H⟩ := H
     replace H : (if t243 ≤ 32 then ((pentaglotref22_Formed.f kj2 a0_0 a0_1 l0_2 a0_3 a0_4 l0_5 x1_2).bind fun t244 => (some t244)) else (some false)) = some r := H
     have A26 := mk_ A260
     clear A260
     by_cases c27 : t243 ≤ 32
     ·rw [if_pos c27] at H
      have c27b0 : decide (t243 ≤ 32) = true := decide_eq_true c27
      clear c27
      replace H := Option.bind_eq_some_iff.mp H
      obtain ⟨t244, A280, H⟩ := H
      replace H : (some t244) = some r := H
      have A28 := mk_ A280
      clear A280
      obtain rfl := Option.some.inj H
      obtain ⟨_, _, _, _, _, _, _, _, _, _, _, _⟩ := hb6_ BK238
      go_wp2_with (first | ((with_reducible refine gate_callee (f := 35) rfl ?_); refine gl_ (some 10) Tryd.func35 #[.agg #[.int .i64 a0_0, .string a0_1, .slice A0_2 l0_2.length c0_2, .int .i64 a0_3, .int .i64 a0_4, .slice A0_5 l0_5.length c0_5]] ?_; (with_reducible refine (pentaglotref22_Size.calls kj2 a0_0 a0_1 _ _ l0_2 a0_3 a0_4 _ _ l0_5 t242 _ ?side1 ?side2 ?side3 ?side4 A24.out).mono ?_); (case side1 => exact cs_ (Kd.C_below HR0_2.out HB.out)); (case side2 => exact HC0_2.out); (case side3 => exact cs_ (Kd.C_below HR0_5.out HB.out)); (case side4 => exact HC0_5.out); rintro e w30 ⟨rfl, hb⟩; refine ⟨_, rfl, ?_⟩; replace BK238 := mk_ (bb_ BK238 hb); replace HB := mk_ (below_step (be1_ HB GE238) hb); obtain ⟨_, _, _, _, _, _, _, _, _, _, _, _⟩ := hb6_ BK238) | (go_at_call 62; (with_reducible refine (pentaglotref22_Depth.calls kj2 a0_0 a0_1 _ _ l0_2 a0_3 a0_4 _ _ l0_5 t243 _ ?side1 ?side2 ?side3 ?side4 A26.out).mono ?_); (case side1 => exact cs_ (Kd.C_below HR0_2.out HB.out)); (case side2 => exact HC0_2.out); (case side3 => exact cs_ (Kd.C_below HR0_5.out HB.out)); (case side4 => exact HC0_5.out); rintro e w32 ⟨rfl, hb⟩; replace BK238 := mk_ (bb_ BK238 hb); replace HB := mk_ (below_step (be1_ HB GE238) hb); obtain ⟨_, _, _, _, _, _, _, _, _, _, _, _⟩ := hb6_ BK238) | (go_at_call 63; (with_reducible refine (pentaglotref22_Formed.calls kj2 a0_0 a0_1 _ _ l0_2 a0_3 a0_4 _ _ l0_5 x1_2 t244 _ ?side1 ?side2 ?side3 ?side4 A28.out).mono ?_); (case side1 => exact cs_ (Kd.C_below HR0_2.out HB.out)); (case side2 => exact HC0_2.out); (case side3 => exact cs_ (Kd.C_below HR0_5.out HB.out)); (case side4 => exact HC0_5.out); rintro e w34 ⟨rfl, hb⟩; replace BK238 := mk_ (bb_ BK238 hb); replace HB := mk_ (below_step (be1_ HB GE238) hb)))
      go_ret
      exact ⟨er_, be1_ HB GE238⟩
     ·rw [if_neg c27] at H
      have c27b0 : decide (t243 ≤ 32) = false := decide_eq_false c27
      clear c27
      obtain rfl := Option.some.inj H
      obtain ⟨_, _, _, _, _, _, _, _, _, _, _, _⟩ := hb6_ BK238
      go_wp2_with (first | ((with_reducible refine gate_callee (f := 35) rfl ?_); refine gl_ (some 10) Tryd.func35 #[.agg #[.int .i64 a0_0, .string a0_1, .slice A0_2 l0_2.length c0_2, .int .i64 a0_3, .int .i64 a0_4, .slice A0_5 l0_5.length c0_5]] ?_; (with_reducible refine (pentaglotref22_Size.calls kj2 a0_0 a0_1 _ _ l0_2 a0_3 a0_4 _ _ l0_5 t242 _ ?side1 ?side2 ?side3 ?side4 A24.out).mono ?_); (case side1 => exact cs_ (Kd.C_below HR0_2.out HB.out)); (case side2 => exact HC0_2.out); (case side3 => exact cs_ (Kd.C_below HR0_5.out HB.out)); (case side4 => exact HC0_5.out); rintro e w36 ⟨rfl, hb⟩; refine ⟨_, rfl, ?_⟩; replace BK238 := mk_ (bb_ BK238 hb); replace HB := mk_ (below_step (be1_ HB GE238) hb); obtain ⟨_, _, _, _, _, _, _, _, _, _, _, _⟩ := hb6_ BK238) | (go_at_call 62; (with_reducible refine (pentaglotref22_Depth.calls kj2 a0_0 a0_1 _ _ l0_2 a0_3 a0_4 _ _ l0_5 t243 _ ?side1 ?side2 ?side3 ?side4 A26.out).mono ?_); (case side1 => exact cs_ (Kd.C_below HR0_2.out HB.out)); (case side2 => exact HC0_2.out); (case side3 => exact cs_ (Kd.C_below HR0_5.out HB.out)); (case side4 => exact HC0_5.out); rintro e w38 ⟨rfl, hb⟩; replace BK238 := mk_ (bb_ BK238 hb); replace HB := mk_ (below_step (be1_ HB GE238) hb)))
      go_ret
      exact ⟨er_, be1_ HB GE238⟩
    ·rw [if_neg c25] at H
     have c25b0 : decide (t242 ≤ 200) = false := decide_eq_false c25
     clear c25
     obtain rfl := Option.some.inj H
     obtain ⟨_, _, _, _, _, _, _, _, _, _, _, _⟩ := hb6_ BK238
     go_wp2_with (first | ((with_reducible refine gate_callee (f := 35) rfl ?_); refine gl_ (some 10) Tryd.func35 #[.agg #[.int .i64 a0_0, .string a0_1, .slice A0_2 l0_2.length c0_2, .int .i64 a0_3, .int .i64 a0_4, .slice A0_5 l0_5.length c0_5]] ?_; (with_reducible refine (pentaglotref22_Size.calls kj2 a0_0 a0_1 _ _ l0_2 a0_3 a0_4 _ _ l0_5 t242 _ ?side1 ?side2 ?side3 ?side4 A24.out).mono ?_); (case side1 => exact cs_ (Kd.C_below HR0_2.out HB.out)); (case side2 => exact HC0_2.out); (case side3 => exact cs_ (Kd.C_below HR0_5.out HB.out)); (case side4 => exact HC0_5.out); rintro e w40 ⟨rfl, hb⟩; refine ⟨_, rfl, ?_⟩; replace BK238 := mk_ (bb_ BK238 hb); replace HB := mk_ (below_step (be1_ HB GE238) hb)))
     go_ret
     exact ⟨er_, be1_ HB GE238⟩
def pentaglotref26_Last.f (l0_0 : List (S73)) (l0_1 : List Int) (a0_2 : Int) : Option (Int) := some (wrap64 (2 * (l0_1.length : Int)))
theorem pentaglotref26_Last.calls (A0_0 : Option Addr) (c0_0 : Nat) (l0_0 : List (S73)) (A0_1 : Option Addr) (c0_1 : Nat) (l0_1 : List Int) (a0_2 : Int) (r : Int) (w : World) (hr0_0 : Kd.C k73 w A0_0 l0_0.length l0_0) (hc0_0 : l0_0.length ≤ c0_0) (hr0_1 : Kd.C (Kd.int .i64) w A0_1 l0_1.length l0_1) (hc0_1 : l0_1.length ≤ c0_1) (h : pentaglotref26_Last.f l0_0 l0_1 a0_2 = some r) :
  Calls Tryd.prog 19 #[.agg #[.slice A0_0 l0_0.length c0_0, .slice A0_1 l0_1.length c0_1, .int .i64 a0_2]] w fun e w' => e = .returned (.int .i64 r) ∧ Below w.heap.size w w' := by
 have hu25 := Tryd.underlying25
 have HR0_0 := mk_ hr0_0; have HC0_0 := mk_ hc0_0; clear hr0_0 hc0_0
 have HR0_1 := mk_ hr0_1; have HC0_1 := mk_ hc0_1; clear hr0_1 hc0_1
 have HB := mk_ (Below.refl w.heap.size w)
 have H : (some (wrap64 (2 * (l0_1.length : Int)))) = some r := h
 clear h
 obtain rfl := Option.some.inj H
 go_enter Tryd.func19, Tryd.ntmps19
 go_wp2_with (first | ((with_reducible refine gate_dst (N := 1) rfl ?_); refine bx_ 1 #[.slice A0_0 l0_0.length c0_0, .slice A0_1 l0_1.length c0_1, .int .i64 a0_2] 25 ?_; intro gb245 hg w2 hbox hb; have BK245 := mk_ (hbox); have GW245 := mk_ (gs_ hg (be_ HB)); have GE245 := mk_ (gs_ hg (be_ HB)); replace HB := mk_ (below_step (be_ HB) hb); clear hb hbox hg; obtain ⟨_, _, _, _, _, _⟩ := hb3_ BK245))
 go_ret
 exact ⟨er_, be1_ HB GE245⟩
def pentaglotref26_place.l0 : Nat → Int → Int → List (S73) → List Int → Int → Option (Int)
 | 0, _, _, _, _, _ => none
 | k + 1, x1, x5, x247000, x247001, x247002 => if x5 < (x247001.length : Int) then (if 0 ≤ x5 then (if (rd x247001 x5) = x1 then (some (wrap64 ((wrap64 (2 * x5)) + 1))) else (pentaglotref26_place.l0 k x1 (wrap64 (x5 + 1)) x247000 x247001 x247002)) else (none)) else (some (-1))
def pentaglotref26_place.f (k : Nat) (l0_0 : List (S73)) (l0_1 : List Int) (a0_2 : Int) (a1 : Int) : Option (Int) := pentaglotref26_place.l0 k a1 0 l0_0 l0_1 a0_2
theorem pentaglotref26_place.calls (k : Nat) (A0_0 : Option Addr) (c0_0 : Nat) (l0_0 : List (S73)) (A0_1 : Option Addr) (c0_1 : Nat) (l0_1 : List Int) (a0_2 : Int) (a1 : Int) (r : Int) (w : World) (hr0_0 : Kd.C k73 w A0_0 l0_0.length l0_0) (hc0_0 : l0_0.length ≤ c0_0) (hr0_1 : Kd.C (Kd.int .i64) w A0_1 l0_1.length l0_1) (hc0_1 : l0_1.length ≤ c0_1) (h : pentaglotref26_place.f k l0_0 l0_1 a0_2 a1 = some r) :
  Calls Tryd.prog 46 #[.agg #[.slice A0_0 l0_0.length c0_0, .slice A0_1 l0_1.length c0_1, .int .i64 a0_2], .int .i64 a1] w fun e w' => e = .returned (.int .i64 r) ∧ Below w.heap.size w w' := by
 have hu25 := Tryd.underlying25
 have HR0_0 := mk_ hr0_0; have HC0_0 := mk_ hc0_0; clear hr0_0 hc0_0
 have HR0_1 := mk_ hr0_1; have HC0_1 := mk_ hc0_1; clear hr0_1 hc0_1
 have HB := mk_ (Below.refl w.heap.size w)
 have H : (pentaglotref26_place.l0 k a1 0 l0_0 l0_1 a0_2) = some r := h
 clear h
 have H' := mk_ H
 clear H
 go_enter Tryd.func46, Tryd.ntmps46
 go_wp2_with (first | ((with_reducible refine gate_dst (N := 2) rfl ?_); refine bx_ 2 #[.slice A0_0 l0_0.length c0_0, .slice A0_1 l0_1.length c0_1, .int .i64 a0_2] 25 ?_; intro gb246 hg w3 hbox hb; have BK246 := mk_ (hbox); have GW246 := mk_ (gs_ hg (be_ HB)); have GE246 := mk_ (gs_ hg (be_ HB)); replace HB := mk_ (below_step (be_ HB) hb); clear hb hbox hg))
 go_loopg [5] k (fun kq v5 w' => ∃ (x5_1 : Int), v5 = .int .i64 x5_1 ∧ Aside0 (pentaglotref26_place.l0 kq a1 x5_1 l0_0 l0_1 a0_2 = some r) ∧ Aside0 (kq ≤ k) ∧ Aside0 (w'.heap[gb246]? = some (.cells #[(.slice A0_0 l0_0.length c0_0), (.slice A0_1 l0_1.length c0_1), .int .i64 a0_2] 25 (0, 0))) ∧ Aside0 (Below w.heap.size w w'))
 case atStart => exact ⟨(0), fi_, H', ⟨Nat.le_refl _⟩, ⟨bq_ BK246⟩, ⟨be1_ HB GE246⟩⟩
 case round =>
  clear H'
  obtain ⟨x5_1, rfl, HA, HK1, BK246, HB⟩ := hrel
  cases gk with
  | zero => exact absurd HA.out (by simp [pentaglotref26_place.l0])
  | succ k1 =>
   have H := HA.out
   clear HA
   simp only [pentaglotref26_place.l0] at H
   by_cases c4 : x5_1 < (l0_1.length : Int)
   ·rw [if_pos c4] at H
    have c4b0 : decide (x5_1 < (l0_1.length : Int)) = true := decide_eq_true c4
    clear c4
    by_cases c5 : 0 ≤ x5_1
    ·rw [if_pos c5] at H
     have c5b0 : decide (0 ≤ x5_1) = true := decide_eq_true c5
     clear c5
     by_cases c6 : (rd l0_1 x5_1) = a1
     ·rw [if_pos c6] at H
      obtain ⟨c6b0, c6b1⟩ := eb_ c6
      clear c6
      obtain rfl := Option.some.inj H
      obtain ⟨_, _, _, _, _, _⟩ := hb3_ BK246
      have p247 : 0 ≤ (x5_1 : Int) := of_decide_eq_true (by first | (with_reducible assumption) | assumption)
      have q247 : x5_1 < (l0_1.length : Int) := of_decide_eq_true (by first | (with_reducible assumption) | assumption)
      obtain ⟨ad247, e247, hx247_0⟩ := Kd.at_int HR0_1.out x5_1 p247 q247
      cases e247
      replace hx247_0 := cb_ HB hx247_0
      replace p247 := eq_true p247
      replace q247 := eq_true q247
      go_wp2
      go_ret
      exact ⟨er_, be1_ HB GE246⟩
     ·rw [if_neg c6] at H
      obtain ⟨c6b0, c6b1⟩ := en_ c6
      have H' := mk_ H
      clear H
      obtain ⟨_, _, _, _, _, _⟩ := hb3_ BK246
      have p247 : 0 ≤ (x5_1 : Int) := of_decide_eq_true (by first | (with_reducible assumption) | assumption)
      have q247 : x5_1 < (l0_1.length : Int) := of_decide_eq_true (by first | (with_reducible assumption) | assumption)
      obtain ⟨ad247, e247, hx247_0⟩ := Kd.at_int HR0_1.out x5_1 p247 q247
      cases e247
      replace hx247_0 := cb_ HB hx247_0
      replace p247 := eq_true p247
      replace q247 := eq_true q247
      go_wp2
      go_roundg k1
      case measure => have := HK1.out; omega
      case rel => exact ⟨(wrap64 (x5_1 + 1)), fi_, H', ⟨by have := HK1.out; omega⟩, ⟨bq_ BK246⟩, ⟨be1_ HB GE246⟩⟩
    ·rw [if_neg c5] at H
     exact absurd H (by simp)
   ·rw [if_neg c4] at H
    have c4b0 : decide (x5_1 < (l0_1.length : Int)) = false := decide_eq_false c4
    clear c4
    obtain rfl := Option.some.inj H
    obtain ⟨_, _, _, _, _, _⟩ := hb3_ BK246
    go_wp2
    go_ret
    exact ⟨er_, be1_ HB GE246⟩
mutual
def pentaglotref26_Interval.j0 : Nat → Int → Int → Int → List (S73) → List Int → Int → Option (List Int × Bool)
 | 0, _, _, _, _, _, _ => none
 | k + 1, x2, x8, x9, x249000, x249001, x249002 => if x2 = (-1) then (pentaglotref26_Interval.j1 k x8 x9) else ((pentaglotref26_place.f k x249000 x249001 x249002 x2).bind fun t251 => (pentaglotref26_Interval.j1 k x8 t251))
def pentaglotref26_Interval.j1 : Nat → Int → Int → Option (List Int × Bool)
 | 0, _, _ => none
 | k + 1, x8, x9 => if x8 < 0 then (pentaglotref26_Interval.j2 k x8 x9 true) else (pentaglotref26_Interval.j2 k x8 x9 (decide (x9 < 0)))
def pentaglotref26_Interval.j2 : Nat → Int → Int → Bool → Option (List Int × Bool)
 | 0, _, _, _ => none
 | k + 1, x8, x9, x30 => if x30 = true then (some (([] : List Int), false)) else (pentaglotref26_Interval.l0 k x9 (([] : List Int)) x8)
def pentaglotref26_Interval.l0 : Nat → Int → List Int → Int → Option (List Int × Bool)
 | 0, _, _, _ => none
 | k + 1, x9, x10, x11 => if x11 < x9 then (if x10.length < 17592186044416 then (pentaglotref26_Interval.l0 k x9 (x10 ++ [x11]) (wrap64 (x11 + 1))) else (none)) else (some (x10, true))
end
def pentaglotref26_Interval.f (k : Nat) (l0_0 : List (S73)) (l0_1 : List Int) (a0_2 : Int) (a1 : Int) (a2 : Int) : Option (List Int × Bool) := (pentaglotref26_Last.f l0_0 l0_1 a0_2).bind fun t249 => (if a1 = (-1) then (pentaglotref26_Interval.j0 k a2 0 (wrap64 (t249 + 1)) l0_0 l0_1 a0_2) else ((pentaglotref26_place.f k l0_0 l0_1 a0_2 a1).bind fun t250 => (pentaglotref26_Interval.j0 k a2 t250 (wrap64 (t249 + 1)) l0_0 l0_1 a0_2)))
theorem pentaglotref26_Interval.calls (k : Nat) (A0_0 : Option Addr) (c0_0 : Nat) (l0_0 : List (S73)) (A0_1 : Option Addr) (c0_1 : Nat) (l0_1 : List Int) (a0_2 : Int) (a1 : Int) (a2 : Int) (r1 : List Int) (r2 : Bool) (w : World) (hr0_0 : Kd.C k73 w A0_0 l0_0.length l0_0) (hc0_0 : l0_0.length ≤ c0_0) (hr0_1 : Kd.C (Kd.int .i64) w A0_1 l0_1.length l0_1) (hc0_1 : l0_1.length ≤ c0_1) (h : pentaglotref26_Interval.f k l0_0 l0_1 a0_2 a1 a2 = some (r1, r2)) :
  Calls Tryd.prog 23 #[.agg #[.slice A0_0 l0_0.length c0_0, .slice A0_1 l0_1.length c0_1, .int .i64 a0_2], .int .i64 a1, .int .i64 a2] w fun e w' => ∃ v0_ : Value, e = .returned (.tuple #[v0_, .bool r2]) ∧ Kd.R (Kd.int .i64) 3 w' w.heap.size (fun _ => True) v0_ r1 ∧ Below w.heap.size w w' := by
 have hu25 := Tryd.underlying25
 have HR0_0 := mk_ hr0_0; have HC0_0 := mk_ hc0_0; clear hr0_0 hc0_0
 have HR0_1 := mk_ hr0_1; have HC0_1 := mk_ hc0_1; clear hr0_1 hc0_1
 have HB := mk_ (Below.refl w.heap.size w)
 have H : ((pentaglotref26_Last.f l0_0 l0_1 a0_2).bind fun t249 => (if a1 = (-1) then (pentaglotref26_Interval.j0 k a2 0 (wrap64 (t249 + 1)) l0_0 l0_1 a0_2) else ((pentaglotref26_place.f k l0_0 l0_1 a0_2 a1).bind fun t250 => (pentaglotref26_Interval.j0 k a2 t250 (wrap64 (t249 + 1)) l0_0 l0_1 a0_2)))) = some (r1, r2) := h
 clear h
 replace H := Option.bind_eq_some_iff.mp H
 obtain ⟨t249, A40, H⟩ := H
 replace H : (if a1 = (-1) then (pentaglotref26_Interval.j0 k a2 0 (wrap64 (t249 + 1)) l0_0 l0_1 a0_2) else ((pentaglotref26_place.f k l0_0 l0_1 a0_2 a1).bind fun t250 => (pentaglotref26_Interval.j0 k a2 t250 (wrap64 (t249 + 1)) l0_0 l0_1 a0_2))) = some (r1, r2) := H
 have A4 := mk_ A40
 clear A40
 have HC5 := mk_ H
 clear H
 go_enter Tryd.func23, Tryd.ntmps23
 go_upto_if 16 with (first | ((with_reducible refine gate_dst (N := 3) rfl ?_); refine bx_ 3 #[.slice A0_0 l0_0.length c0_0, .slice A0_1 l0_1.length c0_1, .int .i64 a0_2] 25 ?_; intro gb248 hg w6 hbox hb; have BK248 := mk_ (hbox); have GW248 := mk_ (gs_ hg (be_ HB)); have GE248 := mk_ (gs_ hg (be_ HB)); replace HB := mk_ (below_step (be_ HB) hb); clear hb hbox hg; obtain ⟨_, _, _, _, _, _⟩ := hb3_ BK248) | ((with_reducible refine gate_callee (f := 19) rfl ?_); refine gl_ (some 13) Tryd.func19 #[.agg #[.slice A0_0 l0_0.length c0_0, .slice A0_1 l0_1.length c0_1, .int .i64 a0_2]] ?_; (with_reducible refine (pentaglotref26_Last.calls _ _ l0_0 _ _ l0_1 a0_2 t249 _ ?side1 ?side2 ?side3 ?side4 A4.out).mono ?_); (case side1 => exact cs_ (Kd.C_below HR0_0.out HB.out)); (case side2 => exact HC0_0.out); (case side3 => exact cs_ (Kd.C_below HR0_1.out HB.out)); (case side4 => exact HC0_1.out); rintro e w8 ⟨rfl, hb⟩; refine ⟨_, rfl, ?_⟩; replace BK248 := mk_ (bb_ BK248 hb); replace HB := mk_ (below_step (be1_ HB GE248) hb)))
 (try simp only [Act.put, List.setIfInBounds_toArray, List.set_cons_zero, List.set_cons_succ])
 go_cut [8] (fun v8 wc => ∃ (kq : Nat) (x8_4 : Int), v8 = .int .i64 x8_4 ∧ Aside0 (pentaglotref26_Interval.j0 kq a2 x8_4 (wrap64 (t249 + 1)) l0_0 l0_1 a0_2 = some (r1, r2)) ∧ Aside0 (kq ≤ k) ∧ Aside0 (wc.heap[gb248]? = some (.cells #[(.slice A0_0 l0_0.length c0_0), (.slice A0_1 l0_1.length c0_1), .int .i64 a0_2] 25 (0, 0))) ∧ Aside0 (Below w.heap.size w wc))
 case first =>
  have H := HC5.out
  clear HC5
  by_cases c9 : a1 = (-1)
  ·rw [if_pos c9] at H
   obtain ⟨c9b0, c9b1⟩ := eb_ c9
   clear c9
   (first | rw [c9b0] | (simp only [i64_w, i32_w]; rw [c9b0]) | skip)
   have H' := mk_ H
   clear H
   go_wp2
   go_meet
   case rel => exact ⟨_, (0), fi_, H', ⟨by first | omega | exact Nat.le_refl _⟩, ⟨bq_ BK248⟩, ⟨be1_ HB GE248⟩⟩
  ·rw [if_neg c9] at H
   obtain ⟨c9b0, c9b1⟩ := en_ c9
   (first | rw [c9b0] | (simp only [i64_w, i32_w]; rw [c9b0]) | skip)
   replace H := Option.bind_eq_some_iff.mp H
   obtain ⟨t250, A100, H⟩ := H
   replace H : (pentaglotref26_Interval.j0 k a2 t250 (wrap64 (t249 + 1)) l0_0 l0_1 a0_2) = some (r1, r2) := H
   have A10 := mk_ A100
   clear A100
   have H' := mk_ H
   clear H
   obtain ⟨_, _, _, _, _, _⟩ := hb3_ BK248
   go_wp2_with (first | ((with_reducible refine gate_callee (f := 46) rfl ?_); refine gl_ (some 19) Tryd.func46 #[.agg #[.slice A0_0 l0_0.length c0_0, .slice A0_1 l0_1.length c0_1, .int .i64 a0_2], .int .i64 a1] ?_; (with_reducible refine (pentaglotref26_place.calls k _ _ l0_0 _ _ l0_1 a0_2 a1 t250 _ ?side1 ?side2 ?side3 ?side4 A10.out).mono ?_); (case side1 => exact cs_ (Kd.C_below HR0_0.out HB.out)); (case side2 => exact HC0_0.out); (case side3 => exact cs_ (Kd.C_below HR0_1.out HB.out)); (case side4 => exact HC0_1.out); rintro e w12 ⟨rfl, hb⟩; refine ⟨_, rfl, ?_⟩; replace BK248 := mk_ (bb_ BK248 hb); replace HB := mk_ (below_step (be1_ HB GE248) hb)))
   go_meet
   case rel => exact ⟨_, (t250), fi_, H', ⟨by first | omega | exact Nat.le_refl _⟩, ⟨bq_ BK248⟩, ⟨be1_ HB GE248⟩⟩
 case rest =>
  clear HC5
  obtain ⟨kq, x8_4, rfl, HA, HJ4, BK248, HB⟩ := hcut
  cases kq with
  | zero => exact absurd HA.out (by simp [pentaglotref26_Interval.j0])
  | succ kj4 =>
   have H := HA.out
   clear HA
   simp only [pentaglotref26_Interval.j0] at H
   have HC13 := mk_ H
   clear H
   go_upto_if 21 with (fail)
   go_cut [9] (fun v9 wc => ∃ (kq : Nat) (x9_12 : Int), v9 = .int .i64 x9_12 ∧ Aside0 (pentaglotref26_Interval.j1 kq x8_4 x9_12 = some (r1, r2)) ∧ Aside0 (kq ≤ kj4) ∧ Aside0 (wc.heap[gb248]? = some (.cells #[(.slice A0_0 l0_0.length c0_0), (.slice A0_1 l0_1.length c0_1), .int .i64 a0_2] 25 (0, 0))) ∧ Aside0 (Below w.heap.size w wc))
   case first =>
    have H := HC13.out
    clear HC13
    by_cases c14 : a2 = (-1)
    ·rw [if_pos c14] at H
     obtain ⟨c14b0, c14b1⟩ := eb_ c14
     clear c14
     (first | rw [c14b0] | (simp only [i64_w, i32_w]; rw [c14b0]) | skip)
     have H' := mk_ H
     clear H
     go_wp2
     go_meet
     case rel => exact ⟨_, ((wrap64 (t249 + 1))), fi_, H', ⟨by have := HJ4.out; first | omega | exact Nat.le_refl _⟩, ⟨bq_ BK248⟩, ⟨be1_ HB GE248⟩⟩
    ·rw [if_neg c14] at H
     obtain ⟨c14b0, c14b1⟩ := en_ c14
     (first | rw [c14b0] | (simp only [i64_w, i32_w]; rw [c14b0]) | skip)
     replace H := Option.bind_eq_some_iff.mp H
     obtain ⟨t251, A150, H⟩ := H
     replace H : (pentaglotref26_Interval.j1 kj4 x8_4 t251) = some (r1, r2) := H
     have A15 := mk_ A150
     clear A150
     have H' := mk_ H
     clear H
     obtain ⟨_, _, _, _, _, _⟩ := hb3_ BK248
     go_wp2_with (first | ((with_reducible refine gate_callee (f := 46) rfl ?_); refine gl_ (some 24) Tryd.func46 #[.agg #[.slice A0_0 l0_0.length c0_0, .slice A0_1 l0_1.length c0_1, .int .i64 a0_2], .int .i64 a2] ?_; (with_reducible refine (pentaglotref26_place.calls kj4 _ _ l0_0 _ _ l0_1 a0_2 a2 t251 _ ?side1 ?side2 ?side3 ?side4 A15.out).mono ?_); (case side1 => exact cs_ (Kd.C_below HR0_0.out HB.out)); (case side2 => exact HC0_0.out); (case side3 => exact cs_ (Kd.C_below HR0_1.out HB.out)); (case side4 => exact HC0_1.out); rintro e w17 ⟨rfl, hb⟩; refine ⟨_, rfl, ?_⟩; replace BK248 := mk_ (bb_ BK248 hb); replace HB := mk_ (below_step (be1_ HB GE248) hb)))
     go_meet
     case rel => exact ⟨_, (t251), fi_, H', ⟨by have := HJ4.out; first | omega | exact Nat.le_refl _⟩, ⟨bq_ BK248⟩, ⟨be1_ HB GE248⟩⟩
   case rest =>
    clear HC13
    obtain ⟨kq, x9_12, rfl, HA, HJ12, BK248, HB⟩ := hcut
    cases kq with
    | zero => exact absurd HA.out (by simp [pentaglotref26_Interval.j1])
    | succ kj12 =>
     have H := HA.out
     clear HA
     simp only [pentaglotref26_Interval.j1] at H
     have HC18 := mk_ H
     clear H
     go_upto_region 6 with (fail)
     go_cut [30] (fun v30 wc => ∃ (kq : Nat) (x30_17 : Bool), v30 = .bool x30_17 ∧ Aside0 (pentaglotref26_Interval.j2 kq x8_4 x9_12 x30_17 = some (r1, r2)) ∧ Aside0 (kq ≤ kj12) ∧ Aside0 (wc.heap[gb248]? = some (.cells #[(.slice A0_0 l0_0.length c0_0), (.slice A0_1 l0_1.length c0_1), .int .i64 a0_2] 25 (0, 0))) ∧ Aside0 (Below w.heap.size w wc))
     case first =>
      have H := HC18.out
      clear HC18
      by_cases c19 : x8_4 < 0
      ·rw [if_pos c19] at H
       have c19b0 : decide (x8_4 < 0) = true := decide_eq_true c19
       clear c19
       (first | rw [c19b0] | (simp only [i64_w, i32_w]; rw [c19b0]) | skip)
       have H' := mk_ H
       clear H
       go_wp2
       go_meet
       case rel => exact ⟨_, (true), fi_, H', ⟨by have := HJ4.out; have := HJ12.out; first | omega | exact Nat.le_refl _⟩, ⟨bq_ BK248⟩, ⟨be1_ HB GE248⟩⟩
      ·rw [if_neg c19] at H
       have c19b0 : decide (x8_4 < 0) = false := decide_eq_false c19
       clear c19
       (first | rw [c19b0] | (simp only [i64_w, i32_w]; rw [c19b0]) | skip)
       have H' := mk_ H
       clear H
       go_wp2
       go_meet
       case rel => exact ⟨_, (decide (x9_12 < 0)), fi_, H', ⟨by have := HJ4.out; have := HJ12.out; first | omega | exact Nat.le_refl _⟩, ⟨bq_ BK248⟩, ⟨be1_ HB GE248⟩⟩
     case rest =>
      clear HC18
      obtain ⟨kq, x30_17, rfl, HA, HJ17, BK248, HB⟩ := hcut
      cases kq with
      | zero => exact absurd HA.out (by simp [pentaglotref26_Interval.j2])
      | succ kj17 =>
       have H := HA.out
       clear HA
       simp only [pentaglotref26_Interval.j2] at H
       by_cases c20 : x30_17 = true
       ·subst c20
        rw [if_pos rfl] at H
        simp only [Option.some.injEq, Prod.mk.injEq] at H
        obtain ⟨rfl, rfl⟩ := H
        go_wp2
        go_ret2
        exact ⟨_, er_, by first | exact Kd.R_nil _ _ _ _ _ | exact Kd.N_nil _ _ _ _ _ | exact Kd.V_nil _ _ _ _ _ | exact Kd.Q_nil _ _ _ _ _ | exact Kd.S_nil _ _ _ _ _, be1_ HB GE248⟩
       ·replace c20 := Bool.eq_false_iff.mpr c20
        subst c20
        rw [if_neg nf_] at H
        obtain ⟨y252, hy252⟩ : ∃ y_ : List Int, y_ = (([] : List Int)) := ⟨_, rfl⟩
        replace H : (pentaglotref26_Interval.l0 kj17 x9_12 y252 x8_4) = some (r1, r2) := by first | (rw [hy252]; with_reducible exact H) | (have H2_ := (Option.bind_some _ _).symm.trans H; rw [hy252]; with_reducible exact H2_) | (have H2_ := (Option.bind_some _ _).symm.trans H; with_reducible exact H2_) | with_reducible exact H | (rw [hy252]; exact H) | exact H
        have Ny252 := mk_ hy252
        clear hy252
        have H' := mk_ H
        clear H
        go_wp2_with (first | ((with_reducible refine gate_dst (N := 31) rfl ?_); refine Kd.R_lit (Kd.int .i64) _ 3 ?hg (N := 31) ?hd (xs := ([] : List Int)) (inner := []) (ok := fun _ => True) (okp := fun _ => True) ?hr ?hp (fun _ hk => hk) trivial (Below.refl _ _) (Nat.le_refl _) (by simp) ?_; (case hd => rfl); (case hg => rfl); (case hr => first | (go_simp; done) | (go_simp; rfl)); (case hp => exact (Reps.none _ _)); intro v253 w21 ho22 hb hg_ hnew_; clear hg_ hnew_; (first | rw [← Ny252.out] at ho22 | (simp only [Int.reduceToNat] at ho22; rw [← Ny252.out] at ho22)); have HO254 := mk_ (Kd.R_lower ho22 (below_size (be1_ HB GE248))); replace BK248 := mk_ (bb_ BK248 hb); replace HB := mk_ (below_step (be1_ HB GE248) hb); clear hb ho22))
        go_loopg [10, 11] kj17 (fun kq v10 v11 w' => ∃ (x10_4 : List Int) (x11_4 : Int), v11 = .int .i64 x11_4 ∧ Aside0 (pentaglotref26_Interval.l0 kq x9_12 x10_4 x11_4 = some (r1, r2)) ∧ Aside0 (kq ≤ kj17) ∧ Aside0 (Kd.R (Kd.int .i64) 3 w' w.heap.size (fun _ => True) v10 x10_4) ∧ Aside0 (w'.heap[gb248]? = some (.cells #[(.slice A0_0 l0_0.length c0_0), (.slice A0_1 l0_1.length c0_1), .int .i64 a0_2] 25 (0, 0))) ∧ Aside0 (Below w.heap.size w w'))
        case atStart => exact ⟨(y252), (x8_4), fi_, H', ⟨Nat.le_refl _⟩, ⟨rq_ HO254⟩, ⟨bq_ BK248⟩, ⟨be1_ HB GE248⟩⟩
        case round =>
         clear H'
         obtain ⟨x10_4, x11_4, rfl, HA, HK4, HO_10, BK248, HB⟩ := hrel
         cases gk with
         | zero => exact absurd HA.out (by simp [pentaglotref26_Interval.l0])
         | succ k4 =>
          have H := HA.out
          clear HA
          simp only [pentaglotref26_Interval.l0] at H
          by_cases c23 : x11_4 < x9_12
          ·rw [if_pos c23] at H
           have c23b0 : decide (x11_4 < x9_12) = true := decide_eq_true c23
           clear c23
           by_cases c24 : x10_4.length < 17592186044416
           ·rw [if_pos c24] at H
            have LMc24 := mk_ c24
            clear c24
            obtain ⟨y255, hy255⟩ : ∃ y_ : List Int, y_ = (x10_4 ++ [x11_4]) := ⟨_, rfl⟩
            replace H : (pentaglotref26_Interval.l0 k4 x9_12 y255 (wrap64 (x11_4 + 1))) = some (r1, r2) := by first | (rw [hy255]; with_reducible exact H) | (have H2_ := (Option.bind_some _ _).symm.trans H; rw [hy255]; with_reducible exact H2_) | (have H2_ := (Option.bind_some _ _).symm.trans H; with_reducible exact H2_) | with_reducible exact H | (rw [hy255]; exact H) | exact H
            have Ny255 := mk_ hy255
            clear hy255
            have H' := mk_ H
            clear H
            go_wp2_with (first | ((with_reducible refine gate_builtin (b := .append) (xs := #[.tmp 38, .tmp 40]) rfl ?_); at_builtin; refine Kd.R_append (Kd.int .i64) (w0 := w) w.heap.size rfl (.tmp 38) (.tmp 40) 23 3 (.int .i64 0) 8 rfl Tryd.underlying23 info3 rfl (by decide) (by omega) u10 x10_4 x11_4 [.int .i64 x11_4] (fun _ => True) (fun _ => False) rfl rfl ?aP (fun _ hk => hk.elim) ?aF ?aO ?aB ?aS ?aL ?_; (case aP => exact rfl); (case aB => exact (be1_ HB GE248)); (case aF => exact (fun _ _ => trivial)); (case aO => exact (rq_ HO_10)); (case aS => exact (below_size (be1_ HB GE248))); (case aL => have := LMc24.out; omega); intro v256 w25 ho hb hg hat; rw [← Ny255.out] at ho; have HO257 := mk_ (ho); replace BK248 := mk_ (blk_grown (g := gb248) (o := .cells #[.slice A0_0 l0_0.length c0_0, .slice A0_1 l0_1.length c0_1, .int .i64 a0_2] 25 (0, 0)) (bq_ BK248) hg (Kd.R_ne HO_10.out BK248.out (by decide))); replace HB := mk_ (hb); clear HO_10; clear ho hb hg hat))
            go_roundg k4
            case measure => have := HJ4.out; have := HJ12.out; have := HJ17.out; have := HK4.out; omega
            case rel => exact ⟨(y255), (wrap64 (x11_4 + 1)), fi_, H', ⟨by have := HJ4.out; have := HJ12.out; have := HJ17.out; have := HK4.out; omega⟩, ⟨rq_ HO257⟩, ⟨bq_ BK248⟩, ⟨be1_ HB GE248⟩⟩
           ·rw [if_neg c24] at H
            exact absurd H (by simp)
          ·rw [if_neg c23] at H
           have c23b0 : decide (x11_4 < x9_12) = false := decide_eq_false c23
           clear c23
           simp only [Option.some.injEq, Prod.mk.injEq] at H
           obtain ⟨rfl, rfl⟩ := H
           go_wp2
           go_ret2
           exact ⟨_, er_, by refine sr_ ?_; exact HO_10.out, be1_ HB GE248⟩
def pentaglotref26_Individuals.l0 : Nat → ByteArray → Int → List (S73) → List Int → Int → Option (List ByteArray × Bool)
 | 0, _, _, _, _, _ => none
 | k + 1, x1, x6, x259000, x259001, x259002 => if x6 < (x259000.length : Int) then (if 0 ≤ x6 then (if ((rd_T73 x259000 x6).f0).toList = x1.toList then (some ((rd_T73 x259000 x6).f1, true)) else (pentaglotref26_Individuals.l0 k x1 (wrap64 (x6 + 1)) x259000 x259001 x259002)) else (none)) else (some (([] : List ByteArray), false))
def pentaglotref26_Individuals.f (k : Nat) (l0_0 : List (S73)) (l0_1 : List Int) (a0_2 : Int) (a1 : ByteArray) : Option (List ByteArray × Bool) := pentaglotref26_Individuals.l0 k a1 0 l0_0 l0_1 a0_2
theorem pentaglotref26_Individuals.calls (k : Nat) (P0_0_ : Nat → Prop) (A0_0 : Option Addr) (c0_0 : Nat) (l0_0 : List (S73)) (A0_1 : Option Addr) (c0_1 : Nat) (l0_1 : List Int) (a0_2 : Int) (a1 : ByteArray) (r1 : List ByteArray) (r2 : Bool) (w : World) (hs0_0 : Kd.V k73 73 w w.heap.size (fun k_ => P0_0_ k_) (.slice A0_0 l0_0.length c0_0) l0_0) (hr0_1 : Kd.C (Kd.int .i64) w A0_1 l0_1.length l0_1) (hc0_1 : l0_1.length ≤ c0_1) (h : pentaglotref26_Individuals.f k l0_0 l0_1 a0_2 a1 = some (r1, r2)) :
  Calls Tryd.prog 48 #[.agg #[.slice A0_0 l0_0.length c0_0, .slice A0_1 l0_1.length c0_1, .int .i64 a0_2], .string a1] w fun e w' => ∃ v0_ : Value, e = .returned (.tuple #[v0_, .bool r2]) ∧ Kd.V Kd.string 9 w' w.heap.size (fun k_ => (P0_0_ k_ ∨ w.heap.size ≤ k_)) v0_ r1 ∧ Below w.heap.size w w' := by
 have hu25 := Tryd.underlying25
 have HO0_0 := mk_ (show Kd.V k73 73 w w.heap.size (fun k_ => (P0_0_ k_ ∨ w.heap.size ≤ k_)) (.slice A0_0 l0_0.length c0_0) l0_0 from Kd.V_mono hs0_0 (fun k_ hk => .inl hk))
 have HR0_1 := mk_ hr0_1; have HC0_1 := mk_ hc0_1; clear hr0_1 hc0_1
 have HB := mk_ (Below.refl w.heap.size w)
 have H : (pentaglotref26_Individuals.l0 k a1 0 l0_0 l0_1 a0_2) = some (r1, r2) := h
 clear h
 have H' := mk_ H
 clear H
 go_enter Tryd.func48, Tryd.ntmps48
 go_wp2_with (first | ((with_reducible refine gate_dst (N := 2) rfl ?_); refine bx_ 2 #[.slice A0_0 l0_0.length c0_0, .slice A0_1 l0_1.length c0_1, .int .i64 a0_2] 25 ?_; intro gb258 hg w3 hbox hb; have BK258 := mk_ (hbox); have GW258 := mk_ (gs_ hg (be_ HB)); have GE258 := mk_ (gs_ hg (be_ HB)); replace HO0_0 := mk_ (Kd.V_below (Kd.V_elderB (vq_ HO0_0) gb258 (Nat.le_of_eq hg.symm)) hb); replace HB := mk_ (below_step (be_ HB) hb); clear hb hbox hg))
 go_loopg [6] k (fun kq v6 w' => ∃ (x6_1 : Int), v6 = .int .i64 x6_1 ∧ Aside0 (pentaglotref26_Individuals.l0 kq a1 x6_1 l0_0 l0_1 a0_2 = some (r1, r2)) ∧ Aside0 (kq ≤ k) ∧ Aside0 (Kd.V k73 73 w' w.heap.size (fun k_ => (P0_0_ k_ ∨ w.heap.size ≤ k_) ∧ k_ ≠ gb258) (.slice A0_0 l0_0.length c0_0) l0_0) ∧ Aside0 (w'.heap[gb258]? = some (.cells #[(.slice A0_0 l0_0.length c0_0), (.slice A0_1 l0_1.length c0_1), .int .i64 a0_2] 25 (0, 0))) ∧ Aside0 (Below w.heap.size w w'))
 case atStart => exact ⟨(0), fi_, H', ⟨Nat.le_refl _⟩, ⟨vq_ HO0_0⟩, ⟨bq_ BK258⟩, ⟨be1_ HB GE258⟩⟩
 case round =>
  clear H'
  obtain ⟨x6_1, rfl, HA, HK1, HO_259000, BK258, HB⟩ := hrel
  cases gk with
  | zero => exact absurd HA.out (by simp [pentaglotref26_Individuals.l0])
  | succ k1 =>
   have H := HA.out
   clear HA
   simp only [pentaglotref26_Individuals.l0] at H
   by_cases c4 : x6_1 < (l0_0.length : Int)
   ·rw [if_pos c4] at H
    have c4b0 : decide (x6_1 < (l0_0.length : Int)) = true := decide_eq_true c4
    clear c4
    by_cases c5 : 0 ≤ x6_1
    ·rw [if_pos c5] at H
     have c5b0 : decide (0 ≤ x6_1) = true := decide_eq_true c5
     clear c5
     by_cases c6 : ((rd_T73 l0_0 x6_1).f0).toList = a1.toList
     ·rw [if_pos c6] at H
      obtain ⟨c6b0, c6b1⟩ := eb_ c6
      clear c6
      simp only [Option.some.injEq, Prod.mk.injEq] at H
      obtain ⟨rfl, rfl⟩ := H
      obtain ⟨_, _, _, _, _, _⟩ := hb3_ BK258
      have p259 : 0 ≤ (x6_1 : Int) := of_decide_eq_true (by first | (with_reducible assumption) | assumption)
      have q259 : x6_1 < (l0_0.length : Int) := of_decide_eq_true (by first | (with_reducible assumption) | assumption)
      obtain ⟨ad259, A259_1, c259_1, e259, hx259_0, hx259_1, hl259_1, hi259_1⟩ := at_T73 (Kd.V_reads' HO_259000.out).2.2 x6_1 p259 q259
      cases e259
      obtain ⟨ce259, hce259, hMe259, hcc259⟩ := Kd.V_get HO_259000.out z73 x6_1 p259 (by first | exact q259 | exact of_decide_eq_true (by first | (with_reducible assumption) | assumption) | (have e_ := (Kd.V_reads' HO_259000.out).1; omega))
      obtain ⟨ua259_1, uc259_1, rfl, ul259_1, ge259_1⟩ := k73_openF hMe259
      have hv259_1 := hcc259 1 _ rfl
      rw [add_field _ _ 1 (by omega)] at hv259_1
      replace hv259_1 := Option.some.inj (hv259_1.symm.trans hx259_1)
      injection hv259_1 with hva_ hvn_ hvc_
      rw [hva_] at ge259_1
      rw [hvc_] at ul259_1
      have HL259_1 := mk_ (show Kd.V Kd.string 9 _ w.heap.size _ _ ((rd_T73 l0_0 x6_1).f1) from Kd.V_mk ul259_1 ge259_1)
      clear hva_ hvn_ hvc_ ge259_1 ul259_1
      clear hcc259 hce259
      have HR259_1 := mk_ hi259_1; have HC259_1 := mk_ hl259_1; clear hi259_1 hl259_1
      replace p259 := eq_true p259
      replace q259 := eq_true q259
      have p260 : 0 ≤ (x6_1 : Int) := of_decide_eq_true (by first | (with_reducible assumption) | assumption)
      have q260 : x6_1 < (l0_0.length : Int) := of_decide_eq_true (by first | (with_reducible assumption) | assumption)
      obtain ⟨ad260, A260_1, c260_1, e260, hx260_0, hx260_1, hl260_1, hi260_1⟩ := at_T73 (Kd.V_reads' HO_259000.out).2.2 x6_1 p260 q260
      obtain rfl : ad259 = ad260 := (by injection e260)
      obtain ⟨ce260, hce260, hMe260, hcc260⟩ := Kd.V_get HO_259000.out z73 x6_1 p260 (by first | exact q260 | exact of_decide_eq_true (by first | (with_reducible assumption) | assumption) | (have e_ := (Kd.V_reads' HO_259000.out).1; omega))
      obtain ⟨ua260_1, uc260_1, rfl, ul260_1, ge260_1⟩ := k73_openF hMe260
      have hv260_1 := hcc260 1 _ rfl
      rw [add_field _ _ 1 (by omega)] at hv260_1
      replace hv260_1 := Option.some.inj (hv260_1.symm.trans hx260_1)
      injection hv260_1 with hva_ hvn_ hvc_
      rw [hva_] at ge260_1
      rw [hvc_] at ul260_1
      have HL260_1 := mk_ (show Kd.V Kd.string 9 _ w.heap.size _ _ ((rd_T73 l0_0 x6_1).f1) from Kd.V_mk ul260_1 ge260_1)
      clear hva_ hvn_ hvc_ ge260_1 ul260_1
      clear hcc260 hce260
      have HR260_1 := mk_ hi260_1; have HC260_1 := mk_ hl260_1; clear hi260_1 hl260_1
      replace p260 := eq_true p260
      replace q260 := eq_true q260
      have ea_ := Option.some.inj (hx259_1.symm.trans hx260_1)
      injection ea_ with ea_ en_ ec_
      subst ea_
      subst ec_
      clear en_
      go_wp2
      go_ret2
      exact ⟨_, er_, by refine sv_ ?_; exact Kd.V_mono HL260_1.out (fun _ hk => hk.1), be1_ HB GE258⟩
     ·rw [if_neg c6] at H
      obtain ⟨c6b0, c6b1⟩ := en_ c6
      have H' := mk_ H
      clear H
      obtain ⟨_, _, _, _, _, _⟩ := hb3_ BK258
      have p259 : 0 ≤ (x6_1 : Int) := of_decide_eq_true (by first | (with_reducible assumption) | assumption)
      have q259 : x6_1 < (l0_0.length : Int) := of_decide_eq_true (by first | (with_reducible assumption) | assumption)
      obtain ⟨ad259, A259_1, c259_1, e259, hx259_0, hx259_1, hl259_1, hi259_1⟩ := at_T73 (Kd.V_reads' HO_259000.out).2.2 x6_1 p259 q259
      cases e259
      obtain ⟨ce259, hce259, hMe259, hcc259⟩ := Kd.V_get HO_259000.out z73 x6_1 p259 (by first | exact q259 | exact of_decide_eq_true (by first | (with_reducible assumption) | assumption) | (have e_ := (Kd.V_reads' HO_259000.out).1; omega))
      obtain ⟨ua259_1, uc259_1, rfl, ul259_1, ge259_1⟩ := k73_openF hMe259
      have hv259_1 := hcc259 1 _ rfl
      rw [add_field _ _ 1 (by omega)] at hv259_1
      replace hv259_1 := Option.some.inj (hv259_1.symm.trans hx259_1)
      injection hv259_1 with hva_ hvn_ hvc_
      rw [hva_] at ge259_1
      rw [hvc_] at ul259_1
      have HL259_1 := mk_ (show Kd.V Kd.string 9 _ w.heap.size _ _ ((rd_T73 l0_0 x6_1).f1) from Kd.V_mk ul259_1 ge259_1)
      clear hva_ hvn_ hvc_ ge259_1 ul259_1
      clear hcc259 hce259
      have HR259_1 := mk_ hi259_1; have HC259_1 := mk_ hl259_1; clear hi259_1 hl259_1
      replace p259 := eq_true p259
      replace q259 := eq_true q259
      go_wp2
      go_roundg k1
      case measure => have := HK1.out; omega
      case rel => exact ⟨(wrap64 (x6_1 + 1)), fi_, H', ⟨by have := HK1.out; omega⟩, ⟨vq_ HO_259000⟩, ⟨bq_ BK258⟩, ⟨be1_ HB GE258⟩⟩
    ·rw [if_neg c5] at H
     exact absurd H (by simp)
   ·rw [if_neg c4] at H
    have c4b0 : decide (x6_1 < (l0_0.length : Int)) = false := decide_eq_false c4
    clear c4
    simp only [Option.some.injEq, Prod.mk.injEq] at H
    obtain ⟨rfl, rfl⟩ := H
    obtain ⟨_, _, _, _, _, _⟩ := hb3_ BK258
    go_wp2
    go_ret2
    exact ⟨_, er_, Kd.V_nil _ _ _ _ _, be1_ HB GE258⟩
end Go.Proofs.YtolpckflofjfhaaDoor.P
