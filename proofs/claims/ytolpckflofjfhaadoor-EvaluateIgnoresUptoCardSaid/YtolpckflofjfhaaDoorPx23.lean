-- printed by wip/tools/xprint.py
import Derived.Test.YtolpckflofjfhaaDoorPx0
import Derived.Test.YtolpckflofjfhaaDoorPx19
import Derived.Test.YtolpckflofjfhaaDoorPx20
namespace Go.Proofs.YtolpckflofjfhaaDoor.P
open Go.RowKit Go.Proofs.YtolpckflofjfhaaDoorW.PrintWords Go.Proofs.YtolpckflofjfhaaDoorW.PrintLast Go.Proofs.YtolpckflofjfhaaDoorW.PrintMore
attribute [local go_sem] max2_int min2_int max_two min_two max_three min_three max_four min_four
set_option linter.unusedVariables false
set_option maxHeartbeats 8000000
set_option maxRecDepth 100000
set_option linter.unusedSimpArgs false

mutual
def pentaglotref26_Work.l0 : Nat → Int → Int → List (S73) → List Int → Int → List (S62) → Int → ByteArray → List (S92) → Int → Int → List (S32) → Option (Int)
 | 0, _, _, _, _, _, _, _, _, _, _, _, _ => none
 | k + 1, x5, x6, x280000, x280001, x280002, x280003, x281000, x281001, x281002, x281003, x281004, x281005 => if x6 < (x281005.length : Int) then (if 0 ≤ x6 then ((pentaglotref26_Work.f k x280000 x280001 x280002 x280003 ((rd_T32 x281005 x6).f0) ((rd_T32 x281005 x6).f1) ((rd_T32 x281005 x6).f2) ((rd_T32 x281005 x6).f3) ((rd_T32 x281005 x6).f4) ((rd_T32 x281005 x6).f5)).bind fun t282 => (pentaglotref26_Work.l0 k (mn 1048577 (wrap64 (x5 + t282))) (wrap64 (x6 + 1)) x280000 x280001 x280002 x280003 x281000 x281001 x281002 x281003 x281004 x281005)) else (none)) else (if x281000 = 8 then (pentaglotref26_Work.j1 k x5 1 x281000 (x281000 == 8) x280000 x280001 x280002 x280003 x281000 x281001 x281002 x281003 x281004 x281005) else (pentaglotref26_Work.j1 k x5 1 x281000 (x281000 == 9) x280000 x280001 x280002 x280003 x281000 x281001 x281002 x281003 x281004 x281005))
def pentaglotref26_Work.j1 : Nat → Int → Int → Int → Bool → List (S73) → List Int → Int → List (S62) → Int → ByteArray → List (S92) → Int → Int → List (S32) → Option (Int)
 | 0, _, _, _, _, _, _, _, _, _, _, _, _, _, _ => none
 | k + 1, x5, x7, x30, x31, x280000, x280001, x280002, x280003, x281000, x281001, x281002, x281003, x281004, x281005 => if x31 = true then ((pentaglotref26_Individuals.f k x280000 x280001 x280002 x281001).bind fun bt283 => (some (mn 1048577 (wrap64 (1 + (wrap64 (x5 * (bt283.1.length : Int)))))))) else (if x30 = 10 then ((pentaglotref26_Interval.f k x280000 x280001 x280002 x281003 x281004).bind fun bt287 => (some (mn 1048577 (wrap64 (1 + (wrap64 (x5 * (bt287.1.length : Int)))))))) else (if x30 = 11 then (some (mn 1048577 (wrap64 (1 + (wrap64 (x5 * x280002)))))) else (if x30 = 12 then (some (mn 1048577 (wrap64 (1 + (wrap64 (x5 * x280002)))))) else (some (mn 1048577 (wrap64 (1 + (wrap64 (x5 * x7)))))))))
def pentaglotref26_Work.f : Nat → List (S73) → List Int → Int → List (S62) → Int → ByteArray → List (S92) → Int → Int → List (S32) → Option (Int)
 | 0, _, _, _, _, _, _, _, _, _, _ => none
 | k + 1, l0_0, l0_1, a0_2, l0_3, a1_0, a1_1, l1_2, a1_3, a1_4, l1_5 => pentaglotref26_Work.l0 k 0 0 l0_0 l0_1 a0_2 l0_3 a1_0 a1_1 l1_2 a1_3 a1_4 l1_5
end
def pentaglotref26_Work.T5 : Bool × List (List Nat × List Nat) := (true, [([], []), ([], []), ([], []), ([2], [2]), ([], []), ([3, 4], [3, 4]), ([5], [5]), ([1, 6], [1, 6]), ([0, 7], [0, 7]), ([8], [8]), ([9, 7, 0, 1, 2, 3, 4, 5, 6, 7, 8, 9], [0, 9])])
def pentaglotref26_Work.B5 : List Nat := [0, 0, 0, 4, 0, 28, 60, 126, 255, 511, 1023]
theorem pentaglotref26_Work.tab5 : rtab .any (opsOf Tryd.f37 5) = pentaglotref26_Work.T5 := by kernel_rfl
theorem pentaglotref26_Work.bits5 : waitsOk pentaglotref26_Work.T5.2 pentaglotref26_Work.B5 = true := by kernel_rfl
theorem pentaglotref26_Work.calls (k : Nat) : ∀ (A0_0 : Option Addr) (c0_0 : Nat) (l0_0 : List (S73)) (A0_1 : Option Addr) (c0_1 : Nat) (l0_1 : List Int) (a0_2 : Int) (A0_3 : Option Addr) (c0_3 : Nat) (l0_3 : List (S62)) (a1_0 : Int) (a1_1 : ByteArray) (A1_2 : Option Addr) (c1_2 : Nat) (l1_2 : List (S92)) (a1_3 : Int) (a1_4 : Int) (A1_5 : Option Addr) (c1_5 : Nat) (l1_5 : List (S32)) (r : Int) (w : World) (hr0_0 : Kd.C k73 w A0_0 l0_0.length l0_0) (hc0_0 : l0_0.length ≤ c0_0) (hr0_1 : Kd.C (Kd.int .i64) w A0_1 l0_1.length l0_1) (hc0_1 : l0_1.length ≤ c0_1) (hr0_3 : Kd.C k62 w A0_3 l0_3.length l0_3) (hc0_3 : l0_3.length ≤ c0_3) (hr1_2 : Kd.C k92 w A1_2 l1_2.length l1_2) (hc1_2 : l1_2.length ≤ c1_2) (hr1_5 : Kd.C k32 w A1_5 l1_5.length l1_5) (hc1_5 : l1_5.length ≤ c1_5) (h : pentaglotref26_Work.f k l0_0 l0_1 a0_2 l0_3 a1_0 a1_1 l1_2 a1_3 a1_4 l1_5 = some r),
  Calls Tryd.prog 37 #[.agg #[.slice A0_0 l0_0.length c0_0, .slice A0_1 l0_1.length c0_1, .int .i64 a0_2, .slice A0_3 l0_3.length c0_3], .agg #[.int .i64 a1_0, .string a1_1, .slice A1_2 l1_2.length c1_2, .int .i64 a1_3, .int .i64 a1_4, .slice A1_5 l1_5.length c1_5]] w fun e w' => e = .returned (.int .i64 r) ∧ Below w.heap.size w w' := by
 induction k using Nat.strongRecOn with
 | _ k ih =>
 intro A0_0 c0_0 l0_0 A0_1 c0_1 l0_1 a0_2 A0_3 c0_3 l0_3 a1_0 a1_1 A1_2 c1_2 l1_2 a1_3 a1_4 A1_5 c1_5 l1_5 r w hr0_0 hc0_0 hr0_1 hc0_1 hr0_3 hc0_3 hr1_2 hc1_2 hr1_5 hc1_5 h
 cases k with
 | zero => exact absurd h (by simp [pentaglotref26_Work.f])
 | succ k =>
 simp only [pentaglotref26_Work.f] at h
 have hu28 := Tryd.underlying28
 have hu32 := Tryd.underlying32
 have hu25 := Tryd.underlying25
 have HR0_0 := mk_ hr0_0
 have HC0_0 := mk_ hc0_0
 clear hr0_0 hc0_0
 have HR0_1 := mk_ hr0_1
 have HC0_1 := mk_ hc0_1
 clear hr0_1 hc0_1
 have HR0_3 := mk_ hr0_3
 have HC0_3 := mk_ hc0_3
 clear hr0_3 hc0_3
 have HR1_2 := mk_ hr1_2
 have HC1_2 := mk_ hc1_2
 clear hr1_2 hc1_2
 have HR1_5 := mk_ hr1_5
 have HC1_5 := mk_ hc1_5
 clear hr1_5 hc1_5
 have HB := mk_ (Below.refl w.heap.size w)
 have H : (pentaglotref26_Work.l0 k 0 0 l0_0 l0_1 a0_2 l0_3 a1_0 a1_1 l1_2 a1_3 a1_4 l1_5) = some r := h
 clear h
 have H' := mk_ H
 clear H
 go_enter Tryd.func37, Tryd.ntmps37
 go_wp2_with (first | ((with_reducible refine gate_dst (N := 2) rfl ?_); refine bx_ 2 #[.slice A0_0 l0_0.length c0_0, .slice A0_1 l0_1.length c0_1, .int .i64 a0_2, .slice A0_3 l0_3.length c0_3] 28 ?_; intro gb279 hg w3 hbox hb; have BK279 := mk_ (hbox); have GW279 := mk_ (gs_ hg (be_ HB)); have GE279 := mk_ (gs_ hg (be_ HB)); replace HB := mk_ (below_step (be_ HB) hb); clear hb hbox hg) | ((with_reducible refine gate_dst (N := 3) rfl ?_); refine bx_ 3 #[.int .i64 a1_0, .string a1_1, .slice A1_2 l1_2.length c1_2, .int .i64 a1_3, .int .i64 a1_4, .slice A1_5 l1_5.length c1_5] 32 ?_; intro gb280 hg w4 hbox hb; have n0_ := mk_ (bb_ BK279 hb); have n1_ := mk_ (below_step (be1_ HB GE279) hb); have n2_ := mk_ (hbox); have n3_ := mk_ (gs_ hg (be1_ HB GE279)); have n4_ := mk_ (gs_ hg (be1_ HB GE279)); have n5_ := mk_ ((by rw [hg]; exact Nat.ne_of_lt (blk_lt (g := gb279) (o := .cells #[.slice A0_0 l0_0.length c0_0, .slice A0_1 l0_1.length c0_1, .int .i64 a0_2, .slice A0_3 l0_3.length c0_3] 28 (0, 0)) (bq_ BK279)) : gb279 ≠ gb280)); have n6_ := mk_ ((by rw [hg]; exact Nat.ne_of_gt (blk_lt (g := gb279) (o := .cells #[.slice A0_0 l0_0.length c0_0, .slice A0_1 l0_1.length c0_1, .int .i64 a0_2, .slice A0_3 l0_3.length c0_3] 28 (0, 0)) (bq_ BK279)) : gb280 ≠ gb279)); clear BK279; clear HB; have BK279 := n0_; have HB := n1_; have BK280 := n2_; have GW280 := n3_; have GE280 := n4_; have NB279_280 := n5_; have NB280_279 := n6_; clear n0_ n1_ n2_ n3_ n4_ n5_ n6_; clear hb hbox hg))
 go_loopg [5, 6] k (fun kq v5 v6 w' => ∃ (x5_1 : Int) (x6_1 : Int), v5 = .int .i64 x5_1 ∧ v6 = .int .i64 x6_1 ∧ Aside0 (pentaglotref26_Work.l0 kq x5_1 x6_1 l0_0 l0_1 a0_2 l0_3 a1_0 a1_1 l1_2 a1_3 a1_4 l1_5 = some r) ∧ Aside0 (kq ≤ k) ∧ Aside0 (w'.heap[gb279]? = some (.cells #[(.slice A0_0 l0_0.length c0_0), (.slice A0_1 l0_1.length c0_1), .int .i64 a0_2, (.slice A0_3 l0_3.length c0_3)] 28 (0, 0))) ∧ Aside0 (w'.heap[gb280]? = some (.cells #[.int .i64 a1_0, .string a1_1, (.slice A1_2 l1_2.length c1_2), .int .i64 a1_3, .int .i64 a1_4, (.slice A1_5 l1_5.length c1_5)] 32 (0, 0))) ∧ Aside0 (Below w.heap.size w w'))
 case atStart => exact ⟨(0), (0), fi_, fi_, H', ⟨Nat.le_refl _⟩, ⟨bq_ BK279⟩, ⟨bq_ BK280⟩, ⟨be2_ HB GE279 GE280⟩⟩
 case round =>
  clear H'
  obtain ⟨x5_1, x6_1, rfl, rfl, HA, HK1, BK279, BK280, HB⟩ := hrel
  cases gk with
  | zero => exact absurd HA.out (by simp [pentaglotref26_Work.l0])
  | succ k1 =>
   have H := HA.out
   clear HA
   simp only [pentaglotref26_Work.l0] at H
   by_cases c5 : x6_1 < (l1_5.length : Int)
   ·rw [if_pos c5] at H
    have c5b0 : decide (x6_1 < (l1_5.length : Int)) = true := decide_eq_true c5
    clear c5
    by_cases c6 : 0 ≤ x6_1
    ·rw [if_pos c6] at H
     have c6b0 : decide (0 ≤ x6_1) = true := decide_eq_true c6
     clear c6
     replace H := Option.bind_eq_some_iff.mp H
     obtain ⟨t282, A70, H⟩ := H
     replace H : (pentaglotref26_Work.l0 k1 (mn 1048577 (wrap64 (x5_1 + t282))) (wrap64 (x6_1 + 1)) l0_0 l0_1 a0_2 l0_3 a1_0 a1_1 l1_2 a1_3 a1_4 l1_5) = some r := H
     have A7 := mk_ A70
     clear A70
     obtain ⟨ji8, hji8⟩ : ∃ j_ : Int, (mn 1048577 (wrap64 (x5_1 + t282))) = j_ := ⟨_, rfl⟩
     replace H : (pentaglotref26_Work.l0 k1 ji8 (wrap64 (x6_1 + 1)) l0_0 l0_1 a0_2 l0_3 a1_0 a1_1 l1_2 a1_3 a1_4 l1_5) = some r := by first | (rw [hji8] at H; exact H) | (simp only [hji8] at H ⊢; exact H)
     (try rw [hji8] at A7)
     have hji8_ : (if (wrap64 (x5_1 + t282)) < 1048577 then (wrap64 (x5_1 + t282)) else 1048577) = ji8 := hji8
     have H' := mk_ H
     clear H
     have hnb9 := NB280_279.out
     have hnc9 := NB279_280.out
     obtain ⟨_, _, _, _, _, _, _, _, _, _, _, _⟩ := hb6_ BK280
     try go_wp2
     have n0_ := mk_ (blk_drew BK279.out)
     have n1_ := mk_ (blk_drew BK280.out)
     have n2_ := mk_ (below_drew1 HB.out)
     clear BK279
     clear BK280
     clear HB
     have BK279 := n0_
     have BK280 := n1_
     have HB := n2_
     clear n0_ n1_ n2_
     have p281 : 0 ≤ (x6_1 : Int) := of_decide_eq_true (by first | (with_reducible assumption) | assumption)
     have q281 : x6_1 < (l1_5.length : Int) := of_decide_eq_true (by first | (with_reducible assumption) | assumption)
     obtain ⟨ad281, A281_2, c281_2, A281_5, c281_5, e281, hx281_0, hx281_1, hx281_2, hx281_3, hx281_4, hx281_5, hl281_2, hi281_2, hl281_5, hi281_5⟩ := at_T32 HR1_5.out x6_1 p281 q281
     have hw281_5 := hx281_5
     have hw281_4 := hx281_4
     have hw281_3 := hx281_3
     have hw281_2 := hx281_2
     have hw281_1 := hx281_1
     have hw281_0 := hx281_0
     cases e281
     replace hx281_0 := cb_ HB hx281_0
     replace hx281_1 := cb_ HB hx281_1
     replace hx281_2 := cb_ HB hx281_2
     replace hx281_3 := cb_ HB hx281_3
     replace hx281_4 := cb_ HB hx281_4
     replace hx281_5 := cb_ HB hx281_5
     have HR281_2 := mk_ hi281_2
     have HC281_2 := mk_ hl281_2
     clear hi281_2 hl281_2
     have HR281_5 := mk_ hi281_5
     have HC281_5 := mk_ hl281_5
     clear hi281_5 hl281_5
     replace p281 := eq_true p281
     replace q281 := eq_true q281
     refine start_ (n := 11) (S := fun w' => w'.cell? ⟨gb279, 0, none⟩ = some (.slice A0_0 l0_0.length c0_0) ∧ w'.cell? ⟨gb279, 1, none⟩ = some (.slice A0_1 l0_1.length c0_1) ∧ w'.cell? ⟨gb279, 2, none⟩ = some (.int .i64 a0_2) ∧ w'.cell? ⟨gb279, 3, none⟩ = some (.slice A0_3 l0_3.length c0_3) ∧ w'.cell? ⟨gb280, 0, none⟩ = some (.int .i64 a1_0) ∧ w'.cell? ⟨gb280, 1, none⟩ = some (.string a1_1) ∧ w'.cell? ⟨gb280, 2, none⟩ = some (.slice A1_2 l1_2.length c1_2) ∧ w'.cell? ⟨gb280, 3, none⟩ = some (.int .i64 a1_3) ∧ w'.cell? ⟨gb280, 4, none⟩ = some (.int .i64 a1_4) ∧ w'.cell? ⟨gb280, 5, none⟩ = some (.slice (some ad281) l1_5.length c1_5) ∧ w'.cell? (ad281.add ((x6_1).toNat * 6)) = some (.int .i64 ((rd_T32 l1_5 x6_1).f0)) ∧ w'.cell? ⟨(ad281.add ((x6_1).toNat * 6)).block, (ad281.add ((x6_1).toNat * 6)).off + 1, none⟩ = some (.string ((rd_T32 l1_5 x6_1).f1)) ∧ w'.cell? ⟨(ad281.add ((x6_1).toNat * 6)).block, (ad281.add ((x6_1).toNat * 6)).off + 2, none⟩ = some (.slice A281_2 ((rd_T32 l1_5 x6_1).f2).length c281_2) ∧ w'.cell? ⟨(ad281.add ((x6_1).toNat * 6)).block, (ad281.add ((x6_1).toNat * 6)).off + 3, none⟩ = some (.int .i64 ((rd_T32 l1_5 x6_1).f3)) ∧ w'.cell? ⟨(ad281.add ((x6_1).toNat * 6)).block, (ad281.add ((x6_1).toNat * 6)).off + 4, none⟩ = some (.int .i64 ((rd_T32 l1_5 x6_1).f4)) ∧ w'.cell? ⟨(ad281.add ((x6_1).toNat * 6)).block, (ad281.add ((x6_1).toNat * 6)).off + 5, none⟩ = some (.slice A281_5 ((rd_T32 l1_5 x6_1).f5).length c281_5)) (ds := []) #[false, false, false, false, false, false, false, false, false, false, false] (by kernel_rfl) rfl rfl ⟨(blk_cell BK279.out 0).trans rfl, (blk_cell BK279.out 1).trans rfl, (blk_cell BK279.out 2).trans rfl, (blk_cell BK279.out 3).trans rfl, (blk_cell BK280.out 0).trans rfl, (blk_cell BK280.out 1).trans rfl, (blk_cell BK280.out 2).trans rfl, (blk_cell BK280.out 3).trans rfl, (blk_cell BK280.out 4).trans rfl, (blk_cell BK280.out 5).trans rfl, ((HB.out.cell (World.block_lt_of_cell? w _ hw281_0)).trans hw281_0), ((HB.out.cell (World.block_lt_of_cell? w _ hw281_1)).trans hw281_1), ((HB.out.cell (World.block_lt_of_cell? w _ hw281_2)).trans hw281_2), ((HB.out.cell (World.block_lt_of_cell? w _ hw281_3)).trans hw281_3), ((HB.out.cell (World.block_lt_of_cell? w _ hw281_4)).trans hw281_4), ((HB.out.cell (World.block_lt_of_cell? w _ hw281_5)).trans hw281_5)⟩ (fun hHeld => ?_); refine with_tabW pentaglotref26_Work.tab5 pentaglotref26_Work.bits5 (fun HT_ HW_ => ?_)
     generalize wr.drew = w11 at BK279 BK280 HB HR281_2 HR281_5 hx281_0 hx281_1 hx281_2 hx281_3 hx281_4 hx281_5 hHeld ⊢
     refine pu_ 0 (some 19) ?_
     refine pu_ 2 (some 21) ?_
     refine pu_ 4 (some 23) ?_
     refine tk_ 1 (some 20) hHeld ?_
     refine tk_ 3 (some 22) hHeld ?_
     refine pu_ 5 (some 24) ?_
     refine tk_ 6 (some 25) hHeld ?_
     refine on_ 7 (some 26) (fun K hK => ?_)
     refine goes_ Tryd.func37 (by kernel_rfl) rfl #[.agg #[.slice A0_0 l0_0.length c0_0, .slice A0_1 l0_1.length c0_1, .int .i64 a0_2, .slice A0_3 l0_3.length c0_3], .agg #[.int .i64 ((rd_T32 l1_5 x6_1).f0), .string ((rd_T32 l1_5 x6_1).f1), .slice A281_2 ((rd_T32 l1_5 x6_1).f2).length c281_2, .int .i64 ((rd_T32 l1_5 x6_1).f3), .int .i64 ((rd_T32 l1_5 x6_1).f4), .slice A281_5 ((rd_T32 l1_5 x6_1).f5).length c281_5]] (by rfl) rfl rfl (by (try simp only [List.map_toArray, List.map_cons, List.map_nil]); first | done | rfl | (simp only [List.length_drop, List.length_take]; rfl)) ?_
     with_reducible refine (ih k1 (by have := HK1.out; omega) _ _ l0_0 _ _ l0_1 a0_2 _ _ l0_3 ((rd_T32 l1_5 x6_1).f0) ((rd_T32 l1_5 x6_1).f1) _ _ ((rd_T32 l1_5 x6_1).f2) ((rd_T32 l1_5 x6_1).f3) ((rd_T32 l1_5 x6_1).f4) _ _ ((rd_T32 l1_5 x6_1).f5) t282 _ ?side1 ?side2 ?side3 ?side4 ?side5 ?side6 ?side7 ?side8 ?side9 ?side10 A7.out).mono ?_
     (case side1 => exact cs_ (Kd.C_below HR0_0.out HB.out))
     (case side2 => exact HC0_0.out)
     (case side3 => exact cs_ (Kd.C_below HR0_1.out HB.out))
     (case side4 => exact HC0_1.out)
     (case side5 => exact cs_ (Kd.C_below HR0_3.out HB.out))
     (case side6 => exact HC0_3.out)
     (case side7 => exact cs_ (Kd.C_below HR281_2.out HB.out))
     (case side8 => exact HC281_2.out)
     (case side9 => exact cs_ (Kd.C_below HR281_5.out HB.out))
     (case side10 => exact HC281_5.out)
     rintro e w12 ⟨rfl, hb⟩
     refine ⟨_, rfl, ?_⟩
     have n0_ := mk_ (blk_below (g := gb279) (o := .cells #[.slice A0_0 l0_0.length c0_0, .slice A0_1 l0_1.length c0_1, .int .i64 a0_2, .slice A0_3 l0_3.length c0_3] 28 (0, 0)) (bq_ BK279) hb)
     have n1_ := mk_ (bb_ BK280 hb)
     have n2_ := mk_ (below_step (be2_ HB GE279 GE280) hb)
     clear BK279
     clear BK280
     clear HB
     have BK279 := n0_
     have BK280 := n1_
     have HB := n2_
     clear n0_ n1_ n2_
     (try clear hb)
     (try clear hb2)
     (try clear hk)
     (try clear hi)
     refine hK.out _ _ ⟨(blk_cell BK279.out 0).trans rfl, (blk_cell BK279.out 1).trans rfl, (blk_cell BK279.out 2).trans rfl, (blk_cell BK279.out 3).trans rfl, (blk_cell BK280.out 0).trans rfl, (blk_cell BK280.out 1).trans rfl, (blk_cell BK280.out 2).trans rfl, (blk_cell BK280.out 3).trans rfl, (blk_cell BK280.out 4).trans rfl, (blk_cell BK280.out 5).trans rfl, ((HB.out.cell (World.block_lt_of_cell? w _ hw281_0)).trans hw281_0), ((HB.out.cell (World.block_lt_of_cell? w _ hw281_1)).trans hw281_1), ((HB.out.cell (World.block_lt_of_cell? w _ hw281_2)).trans hw281_2), ((HB.out.cell (World.block_lt_of_cell? w _ hw281_3)).trans hw281_3), ((HB.out.cell (World.block_lt_of_cell? w _ hw281_4)).trans hw281_4), ((HB.out.cell (World.block_lt_of_cell? w _ hw281_5)).trans hw281_5)⟩ (fun hHeld => ?_)
     clear hK K
     refine no_ (N := some 26) ?_
     refine pu_ 8 (some 27) ?_
     refine pu_ 9 (some 28) ?_
     refine pu_ 10 (some 5) ?_
     refine done_ (done_of HT_.out (by kernel_rfl)) ?_
     try go_wp2
     go_roundg k1
     case measure => have := HK1.out; omega
     case rel => exact ⟨(ji8), (wrap64 (x6_1 + 1)), (by first | rfl | (simp; done) | (simp only [← hji8] <;> (first | rfl | simp)) | (simp [*]; done)), fi_, H', ⟨by have := HK1.out; omega⟩, ⟨bq_ BK279⟩, ⟨bq_ BK280⟩, ⟨be2_ HB GE279 GE280⟩⟩
    ·rw [if_neg c6] at H
     exact absurd H (by simp)
   ·rw [if_neg c5] at H
    have c5b0 : decide (x6_1 < (l1_5.length : Int)) = false := decide_eq_false c5
    clear c5
    have HC13 := mk_ H
    clear H
    have hnb14 := NB280_279.out
    have hnc14 := NB279_280.out
    obtain ⟨_, _, _, _, _, _, _, _, _, _, _, _⟩ := hb6_ BK280
    go_upto_if 31 with (fail)
    go_cut [31] (fun v31 wc => ∃ (kq : Nat) (x31_12 : Bool), v31 = .bool x31_12 ∧ Aside0 (pentaglotref26_Work.j1 kq x5_1 1 a1_0 x31_12 l0_0 l0_1 a0_2 l0_3 a1_0 a1_1 l1_2 a1_3 a1_4 l1_5 = some r) ∧ Aside0 (kq ≤ k1) ∧ Aside0 (wc.heap[gb279]? = some (.cells #[(.slice A0_0 l0_0.length c0_0), (.slice A0_1 l0_1.length c0_1), .int .i64 a0_2, (.slice A0_3 l0_3.length c0_3)] 28 (0, 0))) ∧ Aside0 (wc.heap[gb280]? = some (.cells #[.int .i64 a1_0, .string a1_1, (.slice A1_2 l1_2.length c1_2), .int .i64 a1_3, .int .i64 a1_4, (.slice A1_5 l1_5.length c1_5)] 32 (0, 0))) ∧ Aside0 (Below w.heap.size w wc))
    case first =>
     have H := HC13.out
     clear HC13
     by_cases c16 : a1_0 = 8
     ·rw [if_pos c16] at H
      obtain ⟨c16b0, c16b1⟩ := eb_ c16
      clear c16
      (first | rw [c16b0] | (simp only [i64_w, i32_w]; rw [c16b0]) | skip)
      have H' := mk_ H
      clear H
      go_wp2
      go_meet
      case rel => exact ⟨_, ((a1_0 == 8)), fi_, H', ⟨by have := HK1.out; first | omega | exact Nat.le_refl _⟩, ⟨bq_ BK279⟩, ⟨bq_ BK280⟩, ⟨be2_ HB GE279 GE280⟩⟩
     ·rw [if_neg c16] at H
      obtain ⟨c16b0, c16b1⟩ := en_ c16
      (first | rw [c16b0] | (simp only [i64_w, i32_w]; rw [c16b0]) | skip)
      have H' := mk_ H
      clear H
      go_wp2
      go_meet
      case rel => exact ⟨_, ((a1_0 == 9)), fi_, H', ⟨by have := HK1.out; first | omega | exact Nat.le_refl _⟩, ⟨bq_ BK279⟩, ⟨bq_ BK280⟩, ⟨be2_ HB GE279 GE280⟩⟩
    case rest =>
     clear HC13
     obtain ⟨kq, x31_12, rfl, HA, HJ12, BK279, BK280, HB⟩ := hcut
     cases kq with
     | zero => exact absurd HA.out (by simp [pentaglotref26_Work.j1])
     | succ kj12 =>
      have H := HA.out
      clear HA
      simp only [pentaglotref26_Work.j1] at H
      by_cases c17 : x31_12 = true
      ·subst c17
       rw [if_pos rfl] at H
       replace H := Option.bind_eq_some_iff.mp H
       obtain ⟨⟨t283, t286⟩, A180, H⟩ := H
       replace H : (some (mn 1048577 (wrap64 (1 + (wrap64 (x5_1 * (t283.length : Int))))))) = some r := H
       have A18 := mk_ A180
       clear A180
       obtain ⟨ji19, hji19⟩ : ∃ j_ : Int, (mn 1048577 (wrap64 (1 + (wrap64 (x5_1 * (t283.length : Int)))))) = j_ := ⟨_, rfl⟩
       replace H : (some ji19) = some r := by first | (rw [hji19] at H; exact H) | (simp only [hji19] at H ⊢; exact H)
       (try rw [hji19] at A18)
       have hji19_ : (if (wrap64 (1 + (wrap64 (x5_1 * (t283.length : Int))))) < 1048577 then (wrap64 (1 + (wrap64 (x5_1 * (t283.length : Int))))) else 1048577) = ji19 := hji19
       obtain rfl := Option.some.inj H
       have hnb20 := NB279_280.out
       have hnc20 := NB280_279.out
       obtain ⟨_, _, _, _, _, _, _, _⟩ := hb4_ BK279
       obtain ⟨_, _, _, _, _, _, _, _, _, _, _, _⟩ := hb6_ BK280
       go_wp2_with (first | ((with_reducible refine gate_callee (f := 48) rfl ?_); refine gl_ (some 39) Tryd.func48 #[.agg #[.slice A0_0 l0_0.length c0_0, .slice A0_1 l0_1.length c0_1, .int .i64 a0_2], .string a1_1] ?_; (with_reducible refine (pentaglotref26_Individuals.calls kj12 (fun k_ => k_ < w.heap.size) _ _ l0_0 _ _ l0_1 a0_2 a1_1 t283 t286 _ ?side1 ?side2 ?side3 A18.out).mono ?_); (case side1 => exact Kd.V_mk HC0_0.out (Kd.F_below (Kd.C_F k73_heap HR0_0.out) (be2_ HB GE279 GE280))); (case side2 => exact cs_ (Kd.C_below HR0_1.out HB.out)); (case side3 => exact HC0_1.out); rintro e w23 ⟨v284, rfl, ho0, hb⟩; refine ⟨_, rfl, ?_⟩; have n0_ := mk_ (Kd.V_lower (Kd.V_mono (ok' := fun k_ => k_ ≠ gb279 ∧ k_ ≠ gb280) ho0 (fun k_ hk_ => ⟨Or.elim hk_ (fun hs_ => fun e_ => Nat.not_le.2 hs_ (by rw [e_]; exact GW279.out)) (fun hn_ => (Kd.freshB (g := gb279) (o := .cells #[.slice A0_0 l0_0.length c0_0, .slice A0_1 l0_1.length c0_1, .int .i64 a0_2, .slice A0_3 l0_3.length c0_3] 28 (0, 0)) (bq_ BK279) k_ hn_)), Or.elim hk_ (fun hs_ => fun e_ => Nat.not_le.2 hs_ (by rw [e_]; exact GW280.out)) (fun hn_ => (Kd.freshB (g := gb280) (o := .cells #[.int .i64 a1_0, .string a1_1, .slice A1_2 l1_2.length c1_2, .int .i64 a1_3, .int .i64 a1_4, .slice A1_5 l1_5.length c1_5] 32 (0, 0)) (bq_ BK280) k_ hn_))⟩)) (below_size (be2_ HB GE279 GE280))); have n1_ := mk_ (bb_ BK279 hb); have n2_ := mk_ (bb_ BK280 hb); have n3_ := mk_ (below_step (be2_ HB GE279 GE280) hb); clear BK279; clear BK280; clear HB; have HO285 := n0_; have BK279 := n1_; have BK280 := n2_; have HB := n3_; clear n0_ n1_ n2_ n3_; (try clear hb); (try clear hb2); (try clear hk); (try clear hi); (try clear ho0); obtain ⟨Ao24, co24, eo24⟩ := Kd.V_slice HO285.out; subst eo24))
       go_ret
       exact ⟨by first | rfl | (simp [errW_none, errW_some] <;> rfl) | (simp only [← hji19]; first | rfl | (simp [errW_none, errW_some] <;> rfl)) | (simp [*, errW_none, errW_some] <;> rfl), be2_ HB GE279 GE280⟩
      ·replace c17 := Bool.eq_false_iff.mpr c17
       subst c17
       rw [if_neg nf_] at H
       by_cases c25 : a1_0 = 10
       ·rw [if_pos c25] at H
        obtain ⟨c25b0, c25b1⟩ := eb_ c25
        clear c25
        replace H := Option.bind_eq_some_iff.mp H
        obtain ⟨⟨t287, t290⟩, A260, H⟩ := H
        replace H : (some (mn 1048577 (wrap64 (1 + (wrap64 (x5_1 * (t287.length : Int))))))) = some r := H
        have A26 := mk_ A260
        clear A260
        obtain ⟨ji27, hji27⟩ : ∃ j_ : Int, (mn 1048577 (wrap64 (1 + (wrap64 (x5_1 * (t287.length : Int)))))) = j_ := ⟨_, rfl⟩
        replace H : (some ji27) = some r := by first | (rw [hji27] at H; exact H) | (simp only [hji27] at H ⊢; exact H)
        (try rw [hji27] at A26)
        have hji27_ : (if (wrap64 (1 + (wrap64 (x5_1 * (t287.length : Int))))) < 1048577 then (wrap64 (1 + (wrap64 (x5_1 * (t287.length : Int))))) else 1048577) = ji27 := hji27
        obtain rfl := Option.some.inj H
        have hnb28 := NB279_280.out
        have hnc28 := NB280_279.out
        obtain ⟨_, _, _, _, _, _, _, _⟩ := hb4_ BK279
        obtain ⟨_, _, _, _, _, _, _, _, _, _, _, _⟩ := hb6_ BK280
        go_wp2_with (first | ((with_reducible refine gate_callee (f := 23) rfl ?_); refine gl_ (some 53) Tryd.func23 #[.agg #[.slice A0_0 l0_0.length c0_0, .slice A0_1 l0_1.length c0_1, .int .i64 a0_2], .int .i64 a1_3, .int .i64 a1_4] ?_; (with_reducible refine (pentaglotref26_Interval.calls kj12 _ _ l0_0 _ _ l0_1 a0_2 a1_3 a1_4 t287 t290 _ ?side1 ?side2 ?side3 ?side4 A26.out).mono ?_); (case side1 => exact cs_ (Kd.C_below HR0_0.out HB.out)); (case side2 => exact HC0_0.out); (case side3 => exact cs_ (Kd.C_below HR0_1.out HB.out)); (case side4 => exact HC0_1.out); rintro e w31 ⟨v288, rfl, ho0, hb⟩; refine ⟨_, rfl, ?_⟩; have HO289 := mk_ (Kd.R_lower ho0 (below_size (be2_ HB GE279 GE280))); replace BK279 := mk_ (bb_ BK279 hb); replace BK280 := mk_ (bb_ BK280 hb); replace HB := mk_ (below_step (be2_ HB GE279 GE280) hb); (try clear hb); (try clear hb2); (try clear hk); (try clear hi); (try clear ho0); obtain ⟨Ao32, co32, eo32⟩ := Kd.R_slice HO289.out; subst eo32))
        go_ret
        exact ⟨by first | rfl | (simp [errW_none, errW_some] <;> rfl) | (simp only [← hji27]; first | rfl | (simp [errW_none, errW_some] <;> rfl)) | (simp [*, errW_none, errW_some] <;> rfl), be2_ HB GE279 GE280⟩
       ·rw [if_neg c25] at H
        obtain ⟨c25b0, c25b1⟩ := en_ c25
        by_cases c33 : a1_0 = 11
        ·rw [if_pos c33] at H
         obtain ⟨c33b0, c33b1⟩ := eb_ c33
         clear c33
         obtain ⟨ji34, hji34⟩ : ∃ j_ : Int, (mn 1048577 (wrap64 (1 + (wrap64 (x5_1 * a0_2))))) = j_ := ⟨_, rfl⟩
         replace H : (some ji34) = some r := by first | (rw [hji34] at H; exact H) | (simp only [hji34] at H ⊢; exact H)
         have hji34_ : (if (wrap64 (1 + (wrap64 (x5_1 * a0_2)))) < 1048577 then (wrap64 (1 + (wrap64 (x5_1 * a0_2)))) else 1048577) = ji34 := hji34
         obtain rfl := Option.some.inj H
         have hnb35 := NB279_280.out
         have hnc35 := NB280_279.out
         obtain ⟨_, _, _, _, _, _, _, _⟩ := hb4_ BK279
         go_wp2
         go_ret
         exact ⟨by first | rfl | (simp [errW_none, errW_some] <;> rfl) | (simp only [← hji34]; first | rfl | (simp [errW_none, errW_some] <;> rfl)) | (simp [*, errW_none, errW_some] <;> rfl), be2_ HB GE279 GE280⟩
        ·rw [if_neg c33] at H
         obtain ⟨c33b0, c33b1⟩ := en_ c33
         by_cases c37 : a1_0 = 12
         ·rw [if_pos c37] at H
          obtain ⟨c37b0, c37b1⟩ := eb_ c37
          clear c37
          obtain ⟨ji38, hji38⟩ : ∃ j_ : Int, (mn 1048577 (wrap64 (1 + (wrap64 (x5_1 * a0_2))))) = j_ := ⟨_, rfl⟩
          replace H : (some ji38) = some r := by first | (rw [hji38] at H; exact H) | (simp only [hji38] at H ⊢; exact H)
          have hji38_ : (if (wrap64 (1 + (wrap64 (x5_1 * a0_2)))) < 1048577 then (wrap64 (1 + (wrap64 (x5_1 * a0_2)))) else 1048577) = ji38 := hji38
          obtain rfl := Option.some.inj H
          have hnb39 := NB279_280.out
          have hnc39 := NB280_279.out
          obtain ⟨_, _, _, _, _, _, _, _⟩ := hb4_ BK279
          go_wp2
          go_ret
          exact ⟨by first | rfl | (simp [errW_none, errW_some] <;> rfl) | (simp only [← hji38]; first | rfl | (simp [errW_none, errW_some] <;> rfl)) | (simp [*, errW_none, errW_some] <;> rfl), be2_ HB GE279 GE280⟩
         ·rw [if_neg c37] at H
          obtain ⟨c37b0, c37b1⟩ := en_ c37
          simp only [Int.mul_one] at H
          obtain ⟨ji41, hji41⟩ : ∃ j_ : Int, (mn 1048577 (wrap64 (1 + (wrap64 x5_1)))) = j_ := ⟨_, rfl⟩
          replace H : (some ji41) = some r := by first | (rw [hji41] at H; exact H) | (simp only [hji41] at H ⊢; exact H)
          have hji41_ : (if (wrap64 (1 + (wrap64 x5_1))) < 1048577 then (wrap64 (1 + (wrap64 x5_1))) else 1048577) = ji41 := hji41
          obtain rfl := Option.some.inj H
          go_wp2
          go_ret
          exact ⟨by first | rfl | (simp [errW_none, errW_some] <;> rfl) | (simp only [← hji41]; first | rfl | (simp [errW_none, errW_some] <;> rfl)) | (simp [*, errW_none, errW_some] <;> rfl), be2_ HB GE279 GE280⟩

end Go.Proofs.YtolpckflofjfhaaDoor.P
