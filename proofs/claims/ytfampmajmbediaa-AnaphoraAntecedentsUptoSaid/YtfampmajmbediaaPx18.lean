-- Written by the session's own program wip/tools/xprint.py out of the translation, with the kit's print.py on a scratch copy; functions given by hand stand among them.
import Derived.Test.YtfampmajmbediaaPx0
namespace Go.Proofs.Ytfampmajmbediaa.P
open Go.RowKit Go.Proofs.YtfampmajmbediaaW.PrintWords Go.Proofs.YtfampmajmbediaaW.PrintLast Go.Proofs.YtfampmajmbediaaW.PrintMore
attribute [local go_sem] max2_int min2_int max_two min_two max_three min_three max_four min_four   -- for this text's walks alone
set_option linter.unusedVariables false
set_option linter.unusedSimpArgs false

/-! ### pentaglotref31_Size: function 30 -/
mutual
def pentaglotref31_Size.l0 : Nat → Int → Int → ByteArray → List Int → List (S27) → Option (Int)
 | 0, _, _, _, _, _ => none
 | k + 1, x3, x4, x244000, x244001, x244002 => if x4 < (x244002.length : Int) then (if 0 ≤ x4 then ((pentaglotref31_Size.f k ((rd_T27 x244002 x4).f0) ((rd_T27 x244002 x4).f1) ((rd_T27 x244002 x4).f2)).bind fun t245 => (pentaglotref31_Size.l0 k (wrap64 (x3 + t245)) (wrap64 (x4 + 1)) x244000 x244001 x244002)) else (none)) else (some x3)
def pentaglotref31_Size.f : Nat → ByteArray → List Int → List (S27) → Option (Int)
 | 0, _, _, _ => none
 | k + 1, a0_0, l0_1, l0_2 => pentaglotref31_Size.l0 k 1 0 a0_0 l0_1 l0_2
end
theorem pentaglotref31_Size.mono_l : ∀ k, (∀ y0 y1 y2, LeO (pentaglotref31_Size.f k y0 y1 y2) (pentaglotref31_Size.f (k + 1) y0 y1 y2)) ∧ (∀ y0 y1 y2 y3 y4, LeO (pentaglotref31_Size.l0 k y0 y1 y2 y3 y4) (pentaglotref31_Size.l0 (k + 1) y0 y1 y2 y3 y4))
 | 0 => ⟨fun _ _ _ r h => by simp [pentaglotref31_Size.f] at h, fun _ _ _ _ _ r h => by simp [pentaglotref31_Size.l0] at h⟩
 | k + 1 => by
  obtain ⟨ih0, ih1⟩ := pentaglotref31_Size.mono_l k
  refine ⟨?_, ?_⟩
  ·intro y0 y1 y2
   unfold pentaglotref31_Size.f
   repeat' first
   | (with_reducible exact ih0 _ _ _)
   | (with_reducible exact ih1 _ _ _ _ _)
   | (with_reducible exact LeO.refl _)
   | (with_reducible exact LeO.none _)
   | (with_reducible refine LeO.ite ?_ ?_)
   | (with_reducible refine LeO.bind ?_ (fun _ => ?_))
   | exact ih0 _ _ _
   | exact ih1 _ _ _ _ _
   | exact LeO.none _
   | refine LeO.ite ?_ ?_
   | refine LeO.bind ?_ (fun _ => ?_)
  ·intro y0 y1 y2 y3 y4
   unfold pentaglotref31_Size.l0
   repeat' first
   | (with_reducible exact ih0 _ _ _)
   | (with_reducible exact ih1 _ _ _ _ _)
   | (with_reducible exact LeO.refl _)
   | (with_reducible exact LeO.none _)
   | (with_reducible refine LeO.ite ?_ ?_)
   | (with_reducible refine LeO.bind ?_ (fun _ => ?_))
   | exact ih0 _ _ _
   | exact ih1 _ _ _ _ _
   | exact LeO.none _
   | refine LeO.ite ?_ ?_
   | refine LeO.bind ?_ (fun _ => ?_)
theorem pentaglotref31_Size.mono : ∀ a0 a1 a2 k, LeO (pentaglotref31_Size.f k a0 a1 a2) (pentaglotref31_Size.f (k + 1) a0 a1 a2) := by
 intro a0 a1 a2 k
 obtain ⟨ih0, ih1⟩ := pentaglotref31_Size.mono_l k
 exact ih0 a0 a1 a2
set_option maxHeartbeats 8000000 in
set_option maxRecDepth 100000 in
theorem pentaglotref31_Size.calls (k : Nat) : ∀ (a0_0 : ByteArray) (A0_1 : Option Addr) (c0_1 : Nat) (l0_1 : List Int) (A0_2 : Option Addr) (c0_2 : Nat) (l0_2 : List (S27)) (r : Int) (w : World) (hr0_1 : Kd.C (Kd.int .i64) w A0_1 l0_1.length l0_1) (hc0_1 : l0_1.length ≤ c0_1) (hr0_2 : Kd.C k27 w A0_2 l0_2.length l0_2) (hc0_2 : l0_2.length ≤ c0_2) (h : pentaglotref31_Size.f k a0_0 l0_1 l0_2 = some r),
  Calls Try.prog 30 #[.agg #[.string a0_0, .slice A0_1 l0_1.length c0_1, .slice A0_2 l0_2.length c0_2]] w fun e w' => e = .returned (.int .i64 r) ∧ Below w.heap.size w w' := by
 induction k using Nat.strongRecOn with
 | _ k ih =>
 intro a0_0 A0_1 c0_1 l0_1 A0_2 c0_2 l0_2 r w hr0_1 hc0_1 hr0_2 hc0_2 h
 cases k with
 | zero => exact absurd h (by simp [pentaglotref31_Size.f])
 | succ k =>
 simp only [pentaglotref31_Size.f] at h
 have hu27 := Try.underlying27
 have HR0_1 := Aside0.mk hr0_1
 have HC0_1 := Aside0.mk hc0_1
 clear hr0_1 hc0_1
 have HR0_2 := Aside0.mk hr0_2
 have HC0_2 := Aside0.mk hc0_2
 clear hr0_2 hc0_2
 have HB := Aside0.mk (Below.refl w.heap.size w)
 have H : (pentaglotref31_Size.l0 k 1 0 a0_0 l0_1 l0_2) = some r := h
 clear h
 have H' := Aside0.mk H
 clear H
 go_enter Try.func30, Try.ntmps30
 go_wp2_with (first | ((with_reducible refine gate_dst (N := 1) rfl ?_); refine box_event ?hg (N := 1) ?hd (cs := #[.string a0_0, .slice A0_1 l0_1.length c0_1, .slice A0_2 l0_2.length c0_2]) (t := 27) ?hr ?_; (case hd => rfl); (case hg => rfl); (case hr => first | (go_simp; done) | (go_simp; rfl)); intro gb243 hg w2 hbox hb; have n0_ := Aside0.mk (below_step (be_ HB) hb); have n1_ := Aside0.mk (hbox); have n2_ := Aside0.mk ((by rw [hg]; exact (below_size (be_ HB)) : w.heap.size ≤ gb243)); have n3_ := Aside0.mk ((by rw [hg]; exact (below_size (be_ HB)) : w.heap.size ≤ gb243)); clear HB; have HB := n0_; have BK243 := n1_; have GW243 := n2_; have GE243 := n3_; clear n0_ n1_ n2_ n3_; clear hb hbox hg))
 go_loopg [3, 4] k (fun kq v3 v4 w' => ∃ (x3_1 : Int) (x4_1 : Int), v3 = .int .i64 x3_1 ∧ v4 = .int .i64 x4_1 ∧ Aside0 (pentaglotref31_Size.l0 kq x3_1 x4_1 a0_0 l0_1 l0_2 = some r) ∧ Aside0 (kq ≤ k) ∧ Aside0 (w'.heap[gb243]? = some (.cells #[.string a0_0, (.slice A0_1 l0_1.length c0_1), (.slice A0_2 l0_2.length c0_2)] 27 (0, 0))) ∧ Aside0 (Below w.heap.size w w'))
 case atStart => exact ⟨(1), (0), fi_, fi_, H', ⟨Nat.le_refl _⟩, ⟨bq_ BK243⟩, ⟨be1_ HB GE243⟩⟩
 case round =>
  clear H'
  try clear p2
  obtain ⟨x3_1, x4_1, rfl, rfl, HA, HK1, BK243, HB⟩ := hrel
  cases gk with
  | zero => exact absurd HA.out (by simp [pentaglotref31_Size.l0])
  | succ k1 =>
   have H := HA.out
   clear HA
   simp only [pentaglotref31_Size.l0] at H
   by_cases c3 : x4_1 < (l0_2.length : Int)
   ·rw [if_pos c3] at H
    have c3b0 : decide (x4_1 < (l0_2.length : Int)) = true := decide_eq_true c3
    clear c3
    by_cases c4 : 0 ≤ x4_1
    ·rw [if_pos c4] at H
     have c4b0 : decide (0 ≤ x4_1) = true := decide_eq_true c4
     clear c4
     replace H := Option.bind_eq_some_iff.mp H
     obtain ⟨t245, A50, H⟩ := H
     replace H : (pentaglotref31_Size.l0 k1 (wrap64 (x3_1 + t245)) (wrap64 (x4_1 + 1)) a0_0 l0_1 l0_2) = some r := H
     have A5 := Aside0.mk A50
     clear A50
     have H' := Aside0.mk H
     clear H
     have hcz6_0 : wr.cell? ⟨gb243, 0, none⟩ = some (.string a0_0) := (blk_cell BK243.out 0).trans rfl
     have hcz6_1 : wr.cell? ⟨gb243, 1, none⟩ = some (.slice A0_1 l0_1.length c0_1) := (blk_cell BK243.out 1).trans rfl
     have hcz6_2 : wr.cell? ⟨gb243, 2, none⟩ = some (.slice A0_2 l0_2.length c0_2) := (blk_cell BK243.out 2).trans rfl
     have hfz6_0 := blk_frozen BK243.out 0
     have hfz6_1 := blk_frozen BK243.out 1
     have hfz6_2 := blk_frozen BK243.out 2
     have p244 : 0 ≤ (x4_1 : Int) := of_decide_eq_true (by first | (with_reducible assumption) | assumption)
     have q244 : x4_1 < (l0_2.length : Int) := of_decide_eq_true (by first | (with_reducible assumption) | assumption)
     obtain ⟨ad244, A244_1, c244_1, A244_2, c244_2, e244, hx244_0, hx244_1, hx244_2, hl244_1, hi244_1, hl244_2, hi244_2⟩ := at_T27 HR0_2.out x4_1 p244 q244
     cases e244
     replace hx244_0 := (HB.out.cell (World.block_lt_of_cell? w _ hx244_0)).trans hx244_0
     replace hx244_1 := (HB.out.cell (World.block_lt_of_cell? w _ hx244_1)).trans hx244_1
     replace hx244_2 := (HB.out.cell (World.block_lt_of_cell? w _ hx244_2)).trans hx244_2
     have HR244_1 := Aside0.mk hi244_1
     have HC244_1 := Aside0.mk hl244_1
     clear hi244_1 hl244_1
     have HR244_2 := Aside0.mk hi244_2
     have HC244_2 := Aside0.mk hl244_2
     clear hi244_2 hl244_2
     replace p244 := eq_true p244
     replace q244 := eq_true q244
     go_wp2_with (first | ((with_reducible refine gate_callee (f := 30) rfl ?_); refine goesL_ (some 18) rfl rfl Try.func30 (by kernel_rfl) rfl #[.agg #[.string ((rd_T27 l0_2 x4_1).f0), .slice A244_1 ((rd_T27 l0_2 x4_1).f1).length c244_1, .slice A244_2 ((rd_T27 l0_2 x4_1).f2).length c244_2]] rfl (by (try simp only [List.map_toArray, List.map_cons, List.map_nil]); first | done | rfl | (simp only [List.length_drop, List.length_take]; rfl)) ?_; (with_reducible refine (ih k1 (by have := HK1.out; omega) ((rd_T27 l0_2 x4_1).f0) _ _ ((rd_T27 l0_2 x4_1).f1) _ _ ((rd_T27 l0_2 x4_1).f2) t245 _ ?side1 ?side2 ?side3 ?side4 A5.out).mono ?_); (case side1 => exact cs_ (Kd.C_below HR244_1.out HB.out)); (case side2 => exact HC244_1.out); (case side3 => exact cs_ (Kd.C_below HR244_2.out HB.out)); (case side4 => exact HC244_2.out); rintro e w7 ⟨rfl, hb⟩; refine ⟨_, rfl, ?_⟩; have n0_ := Aside0.mk (blk_below (g := gb243) (o := .cells #[.string a0_0, .slice A0_1 l0_1.length c0_1, .slice (some ad244) l0_2.length c0_2] 27 (0, 0)) (bq_ BK243) hb); have n1_ := Aside0.mk (below_step (be1_ HB GE243) hb); clear BK243; clear HB; have BK243 := n0_; have HB := n1_; clear n0_ n1_; (try clear hb); (try clear hb2); (try clear hk); (try clear hi)))
     go_roundg k1
     case measure => have := HK1.out; omega
     case rel => exact ⟨(wrap64 (x3_1 + t245)), (wrap64 (x4_1 + 1)), fi_, fi_, H', ⟨by have := HK1.out; omega⟩, ⟨bq_ BK243⟩, ⟨be1_ HB GE243⟩⟩
    ·rw [if_neg c4] at H
     exact absurd H (by simp)
   ·rw [if_neg c3] at H
    have c3b0 : decide (x4_1 < (l0_2.length : Int)) = false := decide_eq_false c3
    clear c3
    obtain rfl := Option.some.inj H
    have hcz8_0 : wr.cell? ⟨gb243, 0, none⟩ = some (.string a0_0) := (blk_cell BK243.out 0).trans rfl
    have hcz8_1 : wr.cell? ⟨gb243, 1, none⟩ = some (.slice A0_1 l0_1.length c0_1) := (blk_cell BK243.out 1).trans rfl
    have hcz8_2 : wr.cell? ⟨gb243, 2, none⟩ = some (.slice A0_2 l0_2.length c0_2) := (blk_cell BK243.out 2).trans rfl
    have hfz8_0 := blk_frozen BK243.out 0
    have hfz8_1 := blk_frozen BK243.out 1
    have hfz8_2 := blk_frozen BK243.out 2
    go_wp2
    go_ret
    exact ⟨er_, be1_ HB GE243⟩

/-! ### pentaglotref31_Index: function 66 -/
def pentaglotref31_Index.l0 : Nat → List (S67) → ByteArray → Int → Option (Int)
 | 0, _, _, _ => none
 | k + 1, x0, x1, x5 => if x5 < (x0.length : Int) then (if 0 ≤ x5 then (if ((rd_T67 x0 x5).f0).toList = x1.toList then (some x5) else (pentaglotref31_Index.l0 k x0 x1 (wrap64 (x5 + 1)))) else (none)) else (some (x0.length : Int))
def pentaglotref31_Index.f (k : Nat) (l0 : List (S67)) (a1 : ByteArray) : Option (Int) := pentaglotref31_Index.l0 k l0 a1 0
theorem pentaglotref31_Index.mono_l : ∀ k, (∀ y0 y1 y2, LeO (pentaglotref31_Index.l0 k y0 y1 y2) (pentaglotref31_Index.l0 (k + 1) y0 y1 y2))
 | 0 => fun _ _ _ r h => by simp [pentaglotref31_Index.l0] at h
 | k + 1 => by
  have ih0 := pentaglotref31_Index.mono_l k
  ·intro y0 y1 y2
   unfold pentaglotref31_Index.l0
   repeat' first
   | (with_reducible exact ih0 _ _ _)
   | (with_reducible exact LeO.refl _)
   | (with_reducible exact LeO.none _)
   | (with_reducible refine LeO.ite ?_ ?_)
   | (with_reducible refine LeO.bind ?_ (fun _ => ?_))
   | exact ih0 _ _ _
   | exact LeO.none _
   | refine LeO.ite ?_ ?_
   | refine LeO.bind ?_ (fun _ => ?_)
theorem pentaglotref31_Index.mono : ∀ a0 a1 k, LeO (pentaglotref31_Index.f k a0 a1) (pentaglotref31_Index.f (k + 1) a0 a1) := by
 intro a0 a1 k
 have ih0 := pentaglotref31_Index.mono_l k
 unfold pentaglotref31_Index.f
 repeat' first
   | (with_reducible exact ih0 _ _ _)
   | (with_reducible exact LeO.refl _)
   | (with_reducible exact LeO.none _)
   | (with_reducible refine LeO.ite ?_ ?_)
   | (with_reducible refine LeO.bind ?_ (fun _ => ?_))
   | exact ih0 _ _ _
   | exact LeO.none _
   | refine LeO.ite ?_ ?_
   | refine LeO.bind ?_ (fun _ => ?_)
set_option maxHeartbeats 8000000 in
set_option maxRecDepth 100000 in
theorem pentaglotref31_Index.calls (k : Nat) (A0 : Option Addr) (c0 : Nat) (l0 : List (S67)) (a1 : ByteArray) (r : Int) (w : World) (hr0 : Kd.C k67 w A0 l0.length l0) (hc0 : l0.length ≤ c0) (h : pentaglotref31_Index.f k l0 a1 = some r) :
  Calls Try.prog 66 #[.slice A0 l0.length c0, .string a1] w fun e w' => e = .returned (.int .i64 r) ∧ Drawn0 w w' := by
 have HR0 := Aside0.mk hr0
 have HC0 := Aside0.mk hc0
 clear hr0 hc0
 have H : (pentaglotref31_Index.l0 k l0 a1 0) = some r := h
 clear h
 have H' := Aside0.mk H
 clear H
 go_enter Try.func66, Try.ntmps66
 go_wp2
 go_loopg [5] k (fun kq v5 w' => ∃ (x5_1 : Int), v5 = .int .i64 x5_1 ∧ Aside0 (pentaglotref31_Index.l0 kq l0 a1 x5_1 = some r) ∧ Aside0 (kq ≤ k) ∧ Drawn0 w w')
 case atStart => exact ⟨(0), fi_, H', ⟨Nat.le_refl _⟩, by repeat (first | exact Drawn0.refl _ | apply Drawn0.step)⟩
 case round =>
  clear H'
  try clear p2
  obtain ⟨x5_1, rfl, HA, HK1, ⟨m1, rfl⟩⟩ := hrel
  cases gk with
  | zero => exact absurd HA.out (by simp [pentaglotref31_Index.l0])
  | succ k1 =>
   have H := HA.out
   clear HA
   simp only [pentaglotref31_Index.l0] at H
   by_cases c3 : x5_1 < (l0.length : Int)
   ·rw [if_pos c3] at H
    have c3b0 : decide (x5_1 < (l0.length : Int)) = true := decide_eq_true c3
    clear c3
    by_cases c4 : 0 ≤ x5_1
    ·rw [if_pos c4] at H
     have c4b0 : decide (0 ≤ x5_1) = true := decide_eq_true c4
     clear c4
     by_cases c5 : ((rd_T67 l0 x5_1).f0).toList = a1.toList
     ·rw [if_pos c5] at H
      have c5b0 : (((rd_T67 l0 x5_1).f0).toList == a1.toList) = true := beq_iff_eq.mpr c5
      have c5b1 : (((rd_T67 l0 x5_1).f0).toList != a1.toList) = false := bne_eq_false_iff_eq.mpr c5
      clear c5
      obtain rfl := Option.some.inj H
      have p246 : 0 ≤ (x5_1 : Int) := of_decide_eq_true (by first | (with_reducible assumption) | assumption)
      have q246 : x5_1 < (l0.length : Int) := of_decide_eq_true (by first | (with_reducible assumption) | assumption)
      obtain ⟨ad246, A246_1, c246_1, e246, hx246_0, hx246_1, hx246_2, hx246_3, hl246_1, hi246_1⟩ := at_T67 HR0.out x5_1 p246 q246
      cases e246
      have HR246_1 := Aside0.mk hi246_1
      have HC246_1 := Aside0.mk hl246_1
      clear hi246_1 hl246_1
      replace p246 := eq_true p246
      replace q246 := eq_true q246
      go_wp2
      go_ret
      exact ⟨by first | rfl | (simp [pw_isEmpty]; done) | (simp; done) | (simp [*]; done), by repeat (first | exact Drawn0.refl _ | apply Drawn0.step)⟩
     ·rw [if_neg c5] at H
      have c5b0 : (((rd_T67 l0 x5_1).f0).toList == a1.toList) = false := beq_eq_false_iff_ne.mpr c5
      have c5b1 : (((rd_T67 l0 x5_1).f0).toList != a1.toList) = true := bne_iff_ne.mpr c5
      have H' := Aside0.mk H
      clear H
      have p246 : 0 ≤ (x5_1 : Int) := of_decide_eq_true (by first | (with_reducible assumption) | assumption)
      have q246 : x5_1 < (l0.length : Int) := of_decide_eq_true (by first | (with_reducible assumption) | assumption)
      obtain ⟨ad246, A246_1, c246_1, e246, hx246_0, hx246_1, hx246_2, hx246_3, hl246_1, hi246_1⟩ := at_T67 HR0.out x5_1 p246 q246
      cases e246
      have HR246_1 := Aside0.mk hi246_1
      have HC246_1 := Aside0.mk hl246_1
      clear hi246_1 hl246_1
      replace p246 := eq_true p246
      replace q246 := eq_true q246
      go_wp2
      go_roundg k1
      case measure => have := HK1.out; omega
      case rel => exact ⟨(wrap64 (x5_1 + 1)), fi_, H', ⟨by have := HK1.out; omega⟩, by repeat (first | exact Drawn0.refl _ | apply Drawn0.step)⟩
    ·rw [if_neg c4] at H
     exact absurd H (by simp)
   ·rw [if_neg c3] at H
    have c3b0 : decide (x5_1 < (l0.length : Int)) = false := decide_eq_false c3
    clear c3
    obtain rfl := Option.some.inj H
    go_wp2
    go_ret
    exact ⟨by first | rfl | (simp [pw_isEmpty]; done) | (simp; done) | (simp [*]; done), by repeat (first | exact Drawn0.refl _ | apply Drawn0.step)⟩

/-! ### pentaglotref31_Value: function 67 -/
def pentaglotref31_Value.f (a0 : Int) : Option (Bool) := if a0 ≥ 0 then (some (decide (a0 ≤ 1439999999))) else (some false)
set_option maxHeartbeats 8000000 in
set_option maxRecDepth 100000 in
theorem pentaglotref31_Value.calls (a0 : Int) (r : Bool) (w : World) (h : pentaglotref31_Value.f a0 = some r) :
  Calls Try.prog 67 #[.int .i64 a0] w fun e w' => e = .returned (.bool r) ∧ Drawn0 w w' := by
 have H : (if a0 ≥ 0 then (some (decide (a0 ≤ 1439999999))) else (some false)) = some r := h
 clear h
 by_cases c2 : a0 ≥ 0
 ·rw [if_pos c2] at H
  have c2b0 : decide (0 ≤ a0) = true := decide_eq_true c2
  clear c2
  obtain rfl := Option.some.inj H
  go_enter Try.func67, Try.ntmps67
  go_wp2
  go_ret
  exact ⟨by first | rfl | (simp [pw_isEmpty]; done) | (simp; done) | (simp [*]; done), by repeat (first | exact Drawn0.refl _ | apply Drawn0.step)⟩
 ·rw [if_neg c2] at H
  have c2b0 : decide (0 ≤ a0) = false := decide_eq_false c2
  clear c2
  obtain rfl := Option.some.inj H
  go_enter Try.func67, Try.ntmps67
  go_wp2
  go_ret
  exact ⟨by first | rfl | (simp [pw_isEmpty]; done) | (simp; done) | (simp [*]; done), by repeat (first | exact Drawn0.refl _ | apply Drawn0.step)⟩

end Go.Proofs.Ytfampmajmbediaa.P
