import Derived.Test.YtolpckflofjfhaaDoorPx0
import Derived.Test.YtolpckflofjfhaaDoorPx22
namespace Go.Proofs.YtolpckflofjfhaaDoor.P
open Go.RowKit Go.Proofs.YtolpckflofjfhaaDoorW.PrintWords Go.Proofs.YtolpckflofjfhaaDoorW.PrintLast Go.Proofs.YtolpckflofjfhaaDoorW.PrintMore
attribute [local go_sem] max2_int min2_int max_two min_two max_three min_three max_four min_four
set_option linter.unusedVariables false
set_option maxHeartbeats 8000000
set_option maxRecDepth 100000
set_option linter.unusedSimpArgs false
mutual
def pentaglotref26_atom.l0 : Nat → List ByteArray → Int → Int → Int → List (S73) → List Int → Int → List (S62) → Int → ByteArray → List (S92) → Int → Int → List (S32) → Option (Bool)
 | 0, _, _, _, _, _, _, _, _, _, _, _, _, _, _ => none
 | k + 1, x2, x3, x4, x11, x311000, x311001, x311002, x311003, x312000, x312001, x312002, x312003, x312004, x312005 => if x11 < (x311003.length : Int) then (if 0 ≤ x11 then (if ((rd_T62 x311003 x11).f0).toList = x312001.toList then (if (((rd_T62 x311003 x11).f1).length : Int) = (x312002.length : Int) then (if ((rd_T62 x311003 x11).f3) = x3 then (pentaglotref26_atom.j1 k x2 x3 x4 x11 (((rd_T62 x311003 x11).f2) == x4) x311000 x311001 x311002 x311003 x312000 x312001 x312002 x312003 x312004 x312005 ((rd_T62 x311003 x11).f0) ((rd_T62 x311003 x11).f1) ((rd_T62 x311003 x11).f2) ((rd_T62 x311003 x11).f3)) else (pentaglotref26_atom.j1 k x2 x3 x4 x11 false x311000 x311001 x311002 x311003 x312000 x312001 x312002 x312003 x312004 x312005 ((rd_T62 x311003 x11).f0) ((rd_T62 x311003 x11).f1) ((rd_T62 x311003 x11).f2) ((rd_T62 x311003 x11).f3))) else (pentaglotref26_atom.j1 k x2 x3 x4 x11 false x311000 x311001 x311002 x311003 x312000 x312001 x312002 x312003 x312004 x312005 ((rd_T62 x311003 x11).f0) ((rd_T62 x311003 x11).f1) ((rd_T62 x311003 x11).f2) ((rd_T62 x311003 x11).f3))) else (pentaglotref26_atom.j1 k x2 x3 x4 x11 false x311000 x311001 x311002 x311003 x312000 x312001 x312002 x312003 x312004 x312005 ((rd_T62 x311003 x11).f0) ((rd_T62 x311003 x11).f1) ((rd_T62 x311003 x11).f2) ((rd_T62 x311003 x11).f3))) else (none)) else (some false)
def pentaglotref26_atom.j1 : Nat → List ByteArray → Int → Int → Int → Bool → List (S73) → List Int → Int → List (S62) → Int → ByteArray → List (S92) → Int → Int → List (S32) → ByteArray → List ByteArray → Int → Int → Option (Bool)
 | 0, _, _, _, _, _, _, _, _, _, _, _, _, _, _, _, _, _, _, _ => none
 | k + 1, x2, x3, x4, x11, x13, x311000, x311001, x311002, x311003, x312000, x312001, x312002, x312003, x312004, x312005, x314000, x314001, x314002, x314003 => pentaglotref26_atom.l1 k x2 x3 x4 x11 x13 0 x311000 x311001 x311002 x311003 x312000 x312001 x312002 x312003 x312004 x312005 x314000 x314001 x314002 x314003
def pentaglotref26_atom.l1 : Nat → List ByteArray → Int → Int → Int → Bool → Int → List (S73) → List Int → Int → List (S62) → Int → ByteArray → List (S92) → Int → Int → List (S32) → ByteArray → List ByteArray → Int → Int → Option (Bool)
 | 0, _, _, _, _, _, _, _, _, _, _, _, _, _, _, _, _, _, _, _, _ => none
 | k + 1, x2, x3, x4, x11, x13, x14, x311000, x311001, x311002, x311003, x312000, x312001, x312002, x312003, x312004, x312005, x314000, x314001, x314002, x314003 => if x13 = true then (if x14 < (x312002.length : Int) then (if 0 ≤ x14 then (if x14 < (x314001.length : Int) then ((pentaglotref26_Name.f k ((rd_T92 x312002 x14).f0) ((rd_T92 x312002 x14).f1) ((rd_T92 x312002 x14).f2) x2).bind fun t316 => (pentaglotref26_atom.l1 k x2 x3 x4 x11 ((rdOf ByteArray.empty x314001 x14).toList == t316.toList) (wrap64 (x14 + 1)) x311000 x311001 x311002 x311003 x312000 x312001 x312002 x312003 x312004 x312005 x314000 x314001 x314002 x314003)) else (none)) else (none)) else (some true)) else (pentaglotref26_atom.l0 k x2 x3 x4 (wrap64 (x11 + 1)) x311000 x311001 x311002 x311003 x312000 x312001 x312002 x312003 x312004 x312005)
end
def pentaglotref26_atom.f (k : Nat) (l0_0 : List (S73)) (l0_1 : List Int) (a0_2 : Int) (l0_3 : List (S62)) (a1_0 : Int) (a1_1 : ByteArray) (l1_2 : List (S92)) (a1_3 : Int) (a1_4 : Int) (l1_5 : List (S32)) (l2 : List ByteArray) (a3 : Int) (a4 : Int) : Option (Bool) := pentaglotref26_atom.l0 k l2 a3 a4 0 l0_0 l0_1 a0_2 l0_3 a1_0 a1_1 l1_2 a1_3 a1_4 l1_5
def pentaglotref26_atom.T9 : Bool × List (List Nat × List Nat) := (true, [([], []), ([0], [0]), ([], []), ([1, 2], [1, 2]), ([3], [3]), ([], []), ([5], [5]), ([], []), ([6, 7], [6, 7]), ([8], [8]), ([], []), ([9, 10], [9, 10]), ([4, 11], [4, 11]), ([12, 11, 0, 1, 2, 3, 4, 5, 6, 7, 8, 9, 10, 11, 12], [12])])
def pentaglotref26_atom.B9 : List Nat := [0, 1, 0, 7, 15, 0, 32, 0, 224, 480, 0, 2016, 4095, 8191]
theorem pentaglotref26_atom.tab9 : rtab .any (opsOf Tryd.f41 9) = pentaglotref26_atom.T9 := by kernel_rfl
theorem pentaglotref26_atom.bits9 : waitsOk pentaglotref26_atom.T9.2 pentaglotref26_atom.B9 = true := by kernel_rfl
theorem pentaglotref26_atom.calls (k : Nat) (A0_0 : Option Addr) (c0_0 : Nat) (l0_0 : List (S73)) (A0_1 : Option Addr) (c0_1 : Nat) (l0_1 : List Int) (a0_2 : Int) (A0_3 : Option Addr) (c0_3 : Nat) (l0_3 : List (S62)) (a1_0 : Int) (a1_1 : ByteArray) (A1_2 : Option Addr) (c1_2 : Nat) (l1_2 : List (S92)) (a1_3 : Int) (a1_4 : Int) (A1_5 : Option Addr) (c1_5 : Nat) (l1_5 : List (S32)) (A2 : Option Addr) (c2 : Nat) (l2 : List ByteArray) (a3 : Int) (a4 : Int) (r : Bool) (w : World) (hr0_0 : Kd.C k73 w A0_0 l0_0.length l0_0) (hc0_0 : l0_0.length ≤ c0_0) (hr0_1 : Kd.C (Kd.int .i64) w A0_1 l0_1.length l0_1) (hc0_1 : l0_1.length ≤ c0_1) (hr0_3 : Kd.C k62 w A0_3 l0_3.length l0_3) (hc0_3 : l0_3.length ≤ c0_3) (hr1_2 : Kd.C k92 w A1_2 l1_2.length l1_2) (hc1_2 : l1_2.length ≤ c1_2) (hr1_5 : Kd.C k32 w A1_5 l1_5.length l1_5) (hc1_5 : l1_5.length ≤ c1_5) (hr2 : Kd.C Kd.string w A2 l2.length l2) (hc2 : l2.length ≤ c2) (h : pentaglotref26_atom.f k l0_0 l0_1 a0_2 l0_3 a1_0 a1_1 l1_2 a1_3 a1_4 l1_5 l2 a3 a4 = some r) :
  Calls Tryd.prog 41 #[.agg #[.slice A0_0 l0_0.length c0_0, .slice A0_1 l0_1.length c0_1, .int .i64 a0_2, .slice A0_3 l0_3.length c0_3], .agg #[.int .i64 a1_0, .string a1_1, .slice A1_2 l1_2.length c1_2, .int .i64 a1_3, .int .i64 a1_4, .slice A1_5 l1_5.length c1_5], .slice A2 l2.length c2, .int .i64 a3, .int .i64 a4] w fun e w' => e = .returned (.bool r) ∧ Below w.heap.size w w' := by
 have hu28 := Tryd.underlying28
 have hu32 := Tryd.underlying32
 have hu62 := Tryd.underlying62
 have hu92 := Tryd.underlying92
 have HR0_0 := mk_ hr0_0; have HC0_0 := mk_ hc0_0; clear hr0_0 hc0_0
 have HR0_1 := mk_ hr0_1; have HC0_1 := mk_ hc0_1; clear hr0_1 hc0_1
 have HR0_3 := mk_ hr0_3; have HC0_3 := mk_ hc0_3; clear hr0_3 hc0_3
 have HR1_2 := mk_ hr1_2; have HC1_2 := mk_ hc1_2; clear hr1_2 hc1_2
 have HR1_5 := mk_ hr1_5; have HC1_5 := mk_ hc1_5; clear hr1_5 hc1_5
 have HR2 := mk_ hr2; have HC2 := mk_ hc2; clear hr2 hc2
 have HB := mk_ (Below.refl w.heap.size w)
 have H : (pentaglotref26_atom.l0 k l2 a3 a4 0 l0_0 l0_1 a0_2 l0_3 a1_0 a1_1 l1_2 a1_3 a1_4 l1_5) = some r := h
 clear h
 have H' := mk_ H
 clear H
 go_enter Tryd.func41, Tryd.ntmps41
 go_wp2_with (first | ((with_reducible refine gate_dst (N := 5) rfl ?_); (try (refine gate_guard (by rfl) ?_; dsimp only)); refine bx_ 5 #[.slice A0_0 l0_0.length c0_0, .slice A0_1 l0_1.length c0_1, .int .i64 a0_2, .slice A0_3 l0_3.length c0_3] 28 ?_; intro gb310 hg w6 hbox hb; have BK310 := mk_ (hbox); have GW310 := mk_ (gs_ hg (be_ HB)); have GE310 := mk_ (gs_ hg (be_ HB)); replace HB := mk_ (below_step (be_ HB) hb); clear hb hbox hg) | ((with_reducible refine gate_dst (N := 6) rfl ?_); (try (refine gate_guard (by rfl) ?_; dsimp only)); refine bx_ 6 #[.int .i64 a1_0, .string a1_1, .slice A1_2 l1_2.length c1_2, .int .i64 a1_3, .int .i64 a1_4, .slice A1_5 l1_5.length c1_5] 32 ?_; intro gb311 hg w7 hbox hb; have n0_ := mk_ (bb_ BK310 hb); have n1_ := mk_ (below_step (be1_ HB GE310) hb); have n2_ := mk_ (hbox); have n3_ := mk_ (gs_ hg (be1_ HB GE310)); have n4_ := mk_ (gs_ hg (be1_ HB GE310)); have n5_ := mk_ ((by rw [hg]; exact Nat.ne_of_lt (blk_lt (g := gb310) (o := .cells #[.slice A0_0 l0_0.length c0_0, .slice A0_1 l0_1.length c0_1, .int .i64 a0_2, .slice A0_3 l0_3.length c0_3] 28 (0, 0)) (bq_ BK310)) : gb310 ≠ gb311)); have n6_ := mk_ ((by rw [hg]; exact Nat.ne_of_gt (blk_lt (g := gb310) (o := .cells #[.slice A0_0 l0_0.length c0_0, .slice A0_1 l0_1.length c0_1, .int .i64 a0_2, .slice A0_3 l0_3.length c0_3] 28 (0, 0)) (bq_ BK310)) : gb311 ≠ gb310)); clear BK310; clear HB; have BK310 := n0_; have HB := n1_; have BK311 := n2_; have GW311 := n3_; have GE311 := n4_; have NB310_311 := n5_; have NB311_310 := n6_; clear n0_ n1_ n2_ n3_ n4_ n5_ n6_; clear hb hbox hg))
 go_loopg [11] k (fun kq v11 w' => ∃ (x11_1 : Int), v11 = .int .i64 x11_1 ∧ Aside0 (pentaglotref26_atom.l0 kq l2 a3 a4 x11_1 l0_0 l0_1 a0_2 l0_3 a1_0 a1_1 l1_2 a1_3 a1_4 l1_5 = some r) ∧ Aside0 (kq ≤ k) ∧ Aside0 (w'.heap[gb310]? = some (.cells #[(.slice A0_0 l0_0.length c0_0), (.slice A0_1 l0_1.length c0_1), .int .i64 a0_2, (.slice A0_3 l0_3.length c0_3)] 28 (0, 0))) ∧ Aside0 (w'.heap[gb311]? = some (.cells #[.int .i64 a1_0, .string a1_1, (.slice A1_2 l1_2.length c1_2), .int .i64 a1_3, .int .i64 a1_4, (.slice A1_5 l1_5.length c1_5)] 32 (0, 0))) ∧ Aside0 (Below w.heap.size w w'))
 case atStart => exact ⟨(0), fi_, H', ⟨Nat.le_refl _⟩, ⟨bq_ BK310⟩, ⟨bq_ BK311⟩, ⟨be2_ HB GE310 GE311⟩⟩
 case round =>
  clear H'
  obtain ⟨x11_1, rfl, HA, HK1, BK310, BK311, HB⟩ := hrel
  cases gk with
  | zero => exact absurd HA.out (by simp [pentaglotref26_atom.l0])
  | succ k1 =>
   have H := HA.out
   clear HA
   simp only [pentaglotref26_atom.l0] at H
   by_cases c8 : x11_1 < (l0_3.length : Int)
   ·rw [if_pos c8] at H
    have c8b0 : decide (x11_1 < (l0_3.length : Int)) = true := decide_eq_true c8
    clear c8
    by_cases c9 : 0 ≤ x11_1
    ·rw [if_pos c9] at H
     have c9b0 : decide (0 ≤ x11_1) = true := decide_eq_true c9
     clear c9
     have HC10 := mk_ H
     clear H
     have hnb11 := NB310_311.out
     have hnc11 := NB311_310.out
     obtain ⟨_, _, _, _, _, _, _, _⟩ := hb4_ BK310
     have p312 : 0 ≤ (x11_1 : Int) := of_decide_eq_true (by first | (with_reducible assumption) | assumption)
     have q312 : x11_1 < (l0_3.length : Int) := of_decide_eq_true (by first | (with_reducible assumption) | assumption)
     obtain ⟨ad312, A312_1, c312_1, e312, hx312_0, hx312_1, hx312_2, hx312_3, hl312_1, hi312_1⟩ := at_T62 HR0_3.out x11_1 p312 q312
     cases e312
     replace hx312_0 := cb_ HB hx312_0
     replace hx312_1 := cb_ HB hx312_1
     replace hx312_2 := cb_ HB hx312_2
     replace hx312_3 := cb_ HB hx312_3
     have HR312_1 := mk_ hi312_1; have HC312_1 := mk_ hl312_1; clear hi312_1 hl312_1
     replace p312 := eq_true p312
     replace q312 := eq_true q312
     go_upto_region 5 with (first | ((with_reducible refine gate_dst (N := 12) rfl ?_); (try (refine gate_guard (by rfl) ?_; dsimp only)); refine bx_ 12 #[.string (⟨#[]⟩ : ByteArray), .slice none 0 0, .int .i64 0, .int .i64 0] 62 ?_; intro gb313 hg w13 hbox hb; have n0_ := mk_ (bb_ BK310 hb); have n1_ := mk_ (bb_ BK311 hb); have n2_ := mk_ (below_step (be2_ HB GE310 GE311) hb); have n3_ := mk_ (hbox); have n4_ := mk_ (gs_ hg (be2_ HB GE310 GE311)); have n5_ := mk_ (gs_ hg (be2_ HB GE310 GE311)); have n6_ := mk_ ((by rw [hg]; exact Nat.ne_of_lt (blk_lt (g := gb310) (o := .cells #[.slice A0_0 l0_0.length c0_0, .slice A0_1 l0_1.length c0_1, .int .i64 a0_2, .slice (some ad312) l0_3.length c0_3] 28 (0, 0)) (bq_ BK310)) : gb310 ≠ gb313)); have n7_ := mk_ ((by rw [hg]; exact Nat.ne_of_gt (blk_lt (g := gb310) (o := .cells #[.slice A0_0 l0_0.length c0_0, .slice A0_1 l0_1.length c0_1, .int .i64 a0_2, .slice (some ad312) l0_3.length c0_3] 28 (0, 0)) (bq_ BK310)) : gb313 ≠ gb310)); have n8_ := mk_ ((by rw [hg]; exact Nat.ne_of_lt (blk_lt (g := gb311) (o := .cells #[.int .i64 a1_0, .string a1_1, .slice A1_2 l1_2.length c1_2, .int .i64 a1_3, .int .i64 a1_4, .slice A1_5 l1_5.length c1_5] 32 (0, 0)) (bq_ BK311)) : gb311 ≠ gb313)); have n9_ := mk_ ((by rw [hg]; exact Nat.ne_of_gt (blk_lt (g := gb311) (o := .cells #[.int .i64 a1_0, .string a1_1, .slice A1_2 l1_2.length c1_2, .int .i64 a1_3, .int .i64 a1_4, .slice A1_5 l1_5.length c1_5] 32 (0, 0)) (bq_ BK311)) : gb313 ≠ gb311)); clear BK310; clear BK311; clear HB; have BK310 := n0_; have BK311 := n1_; have HB := n2_; have BK313 := n3_; have GW313 := n4_; have GE313 := n5_; have NB310_313 := n6_; have NB313_310 := n7_; have NB311_313 := n8_; have NB313_311 := n9_; clear n0_ n1_ n2_ n3_ n4_ n5_ n6_ n7_ n8_ n9_; clear hb hbox hg; have hnb14 := NB313_310.out; have hnc14 := NB310_313.out; have hnb15 := NB313_311.out; have hnc15 := NB311_313.out; obtain ⟨_, _, _, _, _, _, _, _⟩ := hb4_ BK313))
     (try simp only [Act.put, List.setIfInBounds_toArray, List.set_cons_zero, List.set_cons_succ])
     go_cut [13] (fun v13 wc => ∃ (kq : Nat) (x13_9 : Bool), v13 = .bool x13_9 ∧ Aside0 (pentaglotref26_atom.j1 kq l2 a3 a4 x11_1 x13_9 l0_0 l0_1 a0_2 l0_3 a1_0 a1_1 l1_2 a1_3 a1_4 l1_5 ((rd_T62 l0_3 x11_1).f0) ((rd_T62 l0_3 x11_1).f1) ((rd_T62 l0_3 x11_1).f2) ((rd_T62 l0_3 x11_1).f3) = some r) ∧ Aside0 (kq ≤ k1) ∧ Aside0 (wc.heap[gb310]? = some (.cells #[(.slice A0_0 l0_0.length c0_0), (.slice A0_1 l0_1.length c0_1), .int .i64 a0_2, (.slice (some ad312) l0_3.length c0_3)] 28 (0, 0))) ∧ Aside0 (wc.heap[gb311]? = some (.cells #[.int .i64 a1_0, .string a1_1, (.slice A1_2 l1_2.length c1_2), .int .i64 a1_3, .int .i64 a1_4, (.slice A1_5 l1_5.length c1_5)] 32 (0, 0))) ∧ Aside0 (wc.heap[gb313]? = some (.cells #[.string ((rd_T62 l0_3 x11_1).f0), (.slice A312_1 ((rd_T62 l0_3 x11_1).f1).length c312_1), .int .i64 ((rd_T62 l0_3 x11_1).f2), .int .i64 ((rd_T62 l0_3 x11_1).f3)] 62 (0, 0))) ∧ Aside0 (Below w.heap.size w wc))
     case first =>
      have H := HC10.out
      clear HC10
      by_cases c17 : ((rd_T62 l0_3 x11_1).f0).toList = a1_1.toList
      ·rw [if_pos c17] at H
       obtain ⟨c17b0, c17b1⟩ := eb_ c17
       clear c17
       (first | rw [c17b0] | (simp only [i64_w, i32_w]; rw [c17b0]) | skip)
       by_cases c18 : (((rd_T62 l0_3 x11_1).f1).length : Int) = (l1_2.length : Int)
       ·rw [if_pos c18] at H
        obtain ⟨c18b0, c18b1⟩ := eb_ c18
        have c18b2 : (((rd_T62 l0_3 x11_1).f1).length == l1_2.length) = true := by first | simpa using c18 | (simp at c18 ⊢; omega)
        clear c18
        by_cases c19 : ((rd_T62 l0_3 x11_1).f3) = a3
        ·rw [if_pos c19] at H
         obtain ⟨c19b0, c19b1⟩ := eb_ c19
         clear c19
         have H' := mk_ H
         clear H
         have hnb20 := NB313_310.out
         have hnc20 := NB310_313.out
         have hnb21 := NB313_311.out
         have hnc21 := NB311_313.out
         obtain ⟨_, _, _, _, _, _, _, _⟩ := hb4_ BK313
         have hnb23 := NB311_310.out
         have hnc23 := NB310_311.out
         obtain ⟨_, _, _, _, _, _, _, _, _, _, _, _⟩ := hb6_ BK311
         go_wp2
         go_meet
         case rel => exact ⟨_, ((((rd_T62 l0_3 x11_1).f2) == a4)), fi_, H', ⟨by have := HK1.out; first | omega | exact Nat.le_refl _⟩, ⟨by refine sb_ ?_; refine blk_far ?_ NB310_313.out _; refine sb_ ?_; refine blk_far ?_ NB310_313.out _; refine sb_ ?_; refine blk_far ?_ NB310_313.out _; refine sb_ ?_; refine blk_far ?_ NB310_313.out _; refine sb_ ?_; exact BK310.out⟩, ⟨by refine sb_ ?_; refine blk_far ?_ NB311_313.out _; refine sb_ ?_; refine blk_far ?_ NB311_313.out _; refine sb_ ?_; refine blk_far ?_ NB311_313.out _; refine sb_ ?_; refine blk_far ?_ NB311_313.out _; refine sb_ ?_; exact BK311.out⟩, ⟨by refine sb_ ?_; refine blk_put (cs := #[.string ((rd_T62 l0_3 x11_1).f0), .slice A312_1 ((rd_T62 l0_3 x11_1).f1).length c312_1, .int .i64 ((rd_T62 l0_3 x11_1).f2), .int .i64 0]) ?_ 3 _ rfl; refine sb_ ?_; refine blk_put (cs := #[.string ((rd_T62 l0_3 x11_1).f0), .slice A312_1 ((rd_T62 l0_3 x11_1).f1).length c312_1, .int .i64 0, .int .i64 0]) ?_ 2 _ rfl; refine sb_ ?_; refine blk_put (cs := #[.string ((rd_T62 l0_3 x11_1).f0), .slice none 0 0, .int .i64 0, .int .i64 0]) ?_ 1 _ rfl; refine sb_ ?_; refine blk_put (cs := #[.string (⟨#[]⟩ : ByteArray), .slice none 0 0, .int .i64 0, .int .i64 0]) ?_ 0 _ rfl; refine sb_ ?_; exact BK313.out⟩, ⟨be3_ HB GE310 GE311 GE313⟩⟩
        ·rw [if_neg c19] at H
         obtain ⟨c19b0, c19b1⟩ := en_ c19
         have H' := mk_ H
         clear H
         have hnb25 := NB313_310.out
         have hnc25 := NB310_313.out
         have hnb26 := NB313_311.out
         have hnc26 := NB311_313.out
         obtain ⟨_, _, _, _, _, _, _, _⟩ := hb4_ BK313
         have hnb28 := NB311_310.out
         have hnc28 := NB310_311.out
         obtain ⟨_, _, _, _, _, _, _, _, _, _, _, _⟩ := hb6_ BK311
         go_wp2
         go_meet
         case rel => exact ⟨_, (false), fi_, H', ⟨by have := HK1.out; first | omega | exact Nat.le_refl _⟩, ⟨by refine sb_ ?_; refine blk_far ?_ NB310_313.out _; refine sb_ ?_; refine blk_far ?_ NB310_313.out _; refine sb_ ?_; refine blk_far ?_ NB310_313.out _; refine sb_ ?_; refine blk_far ?_ NB310_313.out _; refine sb_ ?_; exact BK310.out⟩, ⟨by refine sb_ ?_; refine blk_far ?_ NB311_313.out _; refine sb_ ?_; refine blk_far ?_ NB311_313.out _; refine sb_ ?_; refine blk_far ?_ NB311_313.out _; refine sb_ ?_; refine blk_far ?_ NB311_313.out _; refine sb_ ?_; exact BK311.out⟩, ⟨by refine sb_ ?_; refine blk_put (cs := #[.string ((rd_T62 l0_3 x11_1).f0), .slice A312_1 ((rd_T62 l0_3 x11_1).f1).length c312_1, .int .i64 ((rd_T62 l0_3 x11_1).f2), .int .i64 0]) ?_ 3 _ rfl; refine sb_ ?_; refine blk_put (cs := #[.string ((rd_T62 l0_3 x11_1).f0), .slice A312_1 ((rd_T62 l0_3 x11_1).f1).length c312_1, .int .i64 0, .int .i64 0]) ?_ 2 _ rfl; refine sb_ ?_; refine blk_put (cs := #[.string ((rd_T62 l0_3 x11_1).f0), .slice none 0 0, .int .i64 0, .int .i64 0]) ?_ 1 _ rfl; refine sb_ ?_; refine blk_put (cs := #[.string (⟨#[]⟩ : ByteArray), .slice none 0 0, .int .i64 0, .int .i64 0]) ?_ 0 _ rfl; refine sb_ ?_; exact BK313.out⟩, ⟨be3_ HB GE310 GE311 GE313⟩⟩
       ·rw [if_neg c18] at H
        obtain ⟨c18b0, c18b1⟩ := en_ c18
        have c18b2 : (((rd_T62 l0_3 x11_1).f1).length == l1_2.length) = false := by first | simpa using c18 | (simp at c18 ⊢; omega)
        have H' := mk_ H
        clear H
        have hnb30 := NB313_310.out
        have hnc30 := NB310_313.out
        have hnb31 := NB313_311.out
        have hnc31 := NB311_313.out
        obtain ⟨_, _, _, _, _, _, _, _⟩ := hb4_ BK313
        have hnb33 := NB311_310.out
        have hnc33 := NB310_311.out
        obtain ⟨_, _, _, _, _, _, _, _, _, _, _, _⟩ := hb6_ BK311
        go_wp2
        go_meet
        case rel => exact ⟨_, (false), fi_, H', ⟨by have := HK1.out; first | omega | exact Nat.le_refl _⟩, ⟨by refine sb_ ?_; refine blk_far ?_ NB310_313.out _; refine sb_ ?_; refine blk_far ?_ NB310_313.out _; refine sb_ ?_; refine blk_far ?_ NB310_313.out _; refine sb_ ?_; refine blk_far ?_ NB310_313.out _; refine sb_ ?_; exact BK310.out⟩, ⟨by refine sb_ ?_; refine blk_far ?_ NB311_313.out _; refine sb_ ?_; refine blk_far ?_ NB311_313.out _; refine sb_ ?_; refine blk_far ?_ NB311_313.out _; refine sb_ ?_; refine blk_far ?_ NB311_313.out _; refine sb_ ?_; exact BK311.out⟩, ⟨by refine sb_ ?_; refine blk_put (cs := #[.string ((rd_T62 l0_3 x11_1).f0), .slice A312_1 ((rd_T62 l0_3 x11_1).f1).length c312_1, .int .i64 ((rd_T62 l0_3 x11_1).f2), .int .i64 0]) ?_ 3 _ rfl; refine sb_ ?_; refine blk_put (cs := #[.string ((rd_T62 l0_3 x11_1).f0), .slice A312_1 ((rd_T62 l0_3 x11_1).f1).length c312_1, .int .i64 0, .int .i64 0]) ?_ 2 _ rfl; refine sb_ ?_; refine blk_put (cs := #[.string ((rd_T62 l0_3 x11_1).f0), .slice none 0 0, .int .i64 0, .int .i64 0]) ?_ 1 _ rfl; refine sb_ ?_; refine blk_put (cs := #[.string (⟨#[]⟩ : ByteArray), .slice none 0 0, .int .i64 0, .int .i64 0]) ?_ 0 _ rfl; refine sb_ ?_; exact BK313.out⟩, ⟨be3_ HB GE310 GE311 GE313⟩⟩
      ·rw [if_neg c17] at H
       obtain ⟨c17b0, c17b1⟩ := en_ c17
       (first | rw [c17b0] | (simp only [i64_w, i32_w]; rw [c17b0]) | skip)
       have H' := mk_ H
       clear H
       have hnb35 := NB313_310.out
       have hnc35 := NB310_313.out
       have hnb36 := NB313_311.out
       have hnc36 := NB311_313.out
       obtain ⟨_, _, _, _, _, _, _, _⟩ := hb4_ BK313
       have hnb38 := NB311_310.out
       have hnc38 := NB310_311.out
       obtain ⟨_, _, _, _, _, _, _, _, _, _, _, _⟩ := hb6_ BK311
       go_wp2
       go_meet
       case rel => exact ⟨_, (false), fi_, H', ⟨by have := HK1.out; first | omega | exact Nat.le_refl _⟩, ⟨by refine sb_ ?_; refine blk_far ?_ NB310_313.out _; refine sb_ ?_; refine blk_far ?_ NB310_313.out _; refine sb_ ?_; refine blk_far ?_ NB310_313.out _; refine sb_ ?_; refine blk_far ?_ NB310_313.out _; refine sb_ ?_; exact BK310.out⟩, ⟨by refine sb_ ?_; refine blk_far ?_ NB311_313.out _; refine sb_ ?_; refine blk_far ?_ NB311_313.out _; refine sb_ ?_; refine blk_far ?_ NB311_313.out _; refine sb_ ?_; refine blk_far ?_ NB311_313.out _; refine sb_ ?_; exact BK311.out⟩, ⟨by refine sb_ ?_; refine blk_put (cs := #[.string ((rd_T62 l0_3 x11_1).f0), .slice A312_1 ((rd_T62 l0_3 x11_1).f1).length c312_1, .int .i64 ((rd_T62 l0_3 x11_1).f2), .int .i64 0]) ?_ 3 _ rfl; refine sb_ ?_; refine blk_put (cs := #[.string ((rd_T62 l0_3 x11_1).f0), .slice A312_1 ((rd_T62 l0_3 x11_1).f1).length c312_1, .int .i64 0, .int .i64 0]) ?_ 2 _ rfl; refine sb_ ?_; refine blk_put (cs := #[.string ((rd_T62 l0_3 x11_1).f0), .slice none 0 0, .int .i64 0, .int .i64 0]) ?_ 1 _ rfl; refine sb_ ?_; refine blk_put (cs := #[.string (⟨#[]⟩ : ByteArray), .slice none 0 0, .int .i64 0, .int .i64 0]) ?_ 0 _ rfl; refine sb_ ?_; exact BK313.out⟩, ⟨be3_ HB GE310 GE311 GE313⟩⟩
     case rest =>
      clear HC10
      obtain ⟨kq, x13_9, rfl, HA, HJ9, BK310, BK311, BK313, HB⟩ := hcut
      cases kq with
      | zero => exact absurd HA.out (by simp [pentaglotref26_atom.j1])
      | succ kj9 =>
       have H := HA.out
       clear HA
       simp only [pentaglotref26_atom.j1] at H
       have H' := mk_ H
       clear H
       go_wp2
       go_loopg [13, 14] kj9 (fun kq v13 v14 w' => ∃ (x13_3 : Bool) (x14_3 : Int), v13 = .bool x13_3 ∧ v14 = .int .i64 x14_3 ∧ Aside0 (pentaglotref26_atom.l1 kq l2 a3 a4 x11_1 x13_3 x14_3 l0_0 l0_1 a0_2 l0_3 a1_0 a1_1 l1_2 a1_3 a1_4 l1_5 ((rd_T62 l0_3 x11_1).f0) ((rd_T62 l0_3 x11_1).f1) ((rd_T62 l0_3 x11_1).f2) ((rd_T62 l0_3 x11_1).f3) = some r) ∧ Aside0 (kq ≤ kj9) ∧ Aside0 (w'.heap[gb310]? = some (.cells #[(.slice A0_0 l0_0.length c0_0), (.slice A0_1 l0_1.length c0_1), .int .i64 a0_2, (.slice (some ad312) l0_3.length c0_3)] 28 (0, 0))) ∧ Aside0 (w'.heap[gb311]? = some (.cells #[.int .i64 a1_0, .string a1_1, (.slice A1_2 l1_2.length c1_2), .int .i64 a1_3, .int .i64 a1_4, (.slice A1_5 l1_5.length c1_5)] 32 (0, 0))) ∧ Aside0 (w'.heap[gb313]? = some (.cells #[.string ((rd_T62 l0_3 x11_1).f0), (.slice A312_1 ((rd_T62 l0_3 x11_1).f1).length c312_1), .int .i64 ((rd_T62 l0_3 x11_1).f2), .int .i64 ((rd_T62 l0_3 x11_1).f3)] 62 (0, 0))) ∧ Aside0 (Below w.heap.size w w'))
       case atStart => exact ⟨(x13_9), (0), fi_, fi_, H', ⟨Nat.le_refl _⟩, ⟨bq_ BK310⟩, ⟨bq_ BK311⟩, ⟨bq_ BK313⟩, ⟨be3_ HB GE310 GE311 GE313⟩⟩
       case round =>
        clear H'
        obtain ⟨x13_3, x14_3, rfl, rfl, HA, HK3, BK310, BK311, BK313, HB⟩ := hrel
        cases gk with
        | zero => exact absurd HA.out (by simp [pentaglotref26_atom.l1])
        | succ k3 =>
         have H := HA.out
         clear HA
         simp only [pentaglotref26_atom.l1] at H
         by_cases c40 : x13_3 = true
         ·subst c40
          rw [if_pos rfl] at H
          by_cases c41 : x14_3 < (l1_2.length : Int)
          ·rw [if_pos c41] at H
           have c41b0 : decide (x14_3 < (l1_2.length : Int)) = true := decide_eq_true c41
           clear c41
           by_cases c42 : 0 ≤ x14_3
           ·rw [if_pos c42] at H
            have c42b0 : decide (0 ≤ x14_3) = true := decide_eq_true c42
            clear c42
            by_cases c43 : x14_3 < (((rd_T62 l0_3 x11_1).f1).length : Int)
            ·rw [if_pos c43] at H
             have c43b0 : decide (x14_3 < (((rd_T62 l0_3 x11_1).f1).length : Int)) = true := decide_eq_true c43
             clear c43
             replace H := Option.bind_eq_some_iff.mp H
             obtain ⟨t316, A440, H⟩ := H
             replace H : (pentaglotref26_atom.l1 k3 l2 a3 a4 x11_1 ((rdOf ByteArray.empty ((rd_T62 l0_3 x11_1).f1) x14_3).toList == t316.toList) (wrap64 (x14_3 + 1)) l0_0 l0_1 a0_2 l0_3 a1_0 a1_1 l1_2 a1_3 a1_4 l1_5 ((rd_T62 l0_3 x11_1).f0) ((rd_T62 l0_3 x11_1).f1) ((rd_T62 l0_3 x11_1).f2) ((rd_T62 l0_3 x11_1).f3)) = some r := H
             have A44 := mk_ A440
             clear A440
             have H' := mk_ H
             clear H
             have hnb45 := NB311_310.out
             have hnc45 := NB310_311.out
             have hnb46 := NB311_313.out
             have hnc46 := NB313_311.out
             obtain ⟨_, _, _, _, _, _, _, _, _, _, _, _⟩ := hb6_ BK311
             try go_wp2
             replace BK310 := mk_ (blk_drew BK310.out)
             replace BK311 := mk_ (blk_drew BK311.out)
             replace BK313 := mk_ (blk_drew BK313.out)
             replace HB := mk_ (below_drew1 HB.out)
             have p314 : 0 ≤ (x14_3 : Int) := of_decide_eq_true (by first | (with_reducible assumption) | assumption)
             have q314 : x14_3 < (((rd_T62 l0_3 x11_1).f1).length : Int) := of_decide_eq_true (by first | (with_reducible assumption) | assumption)
             obtain ⟨ad314, e314, hx314_0⟩ := Kd.at_string HR312_1.out x14_3 p314 q314
             have hw314_0 := hx314_0
             cases e314
             replace hx314_0 := cb_ HB hx314_0
             replace p314 := eq_true p314
             replace q314 := eq_true q314
             have p315 : 0 ≤ (x14_3 : Int) := of_decide_eq_true (by first | (with_reducible assumption) | assumption)
             have q315 : x14_3 < (l1_2.length : Int) := of_decide_eq_true (by first | (with_reducible assumption) | assumption)
             obtain ⟨ad315, e315, hx315_0, hx315_1, hx315_2⟩ := at_T92 HR1_2.out x14_3 p315 q315
             have hw315_2 := hx315_2
             have hw315_1 := hx315_1
             have hw315_0 := hx315_0
             cases e315
             replace hx315_0 := cb_ HB hx315_0
             replace hx315_1 := cb_ HB hx315_1
             replace hx315_2 := cb_ HB hx315_2
             replace p315 := eq_true p315
             replace q315 := eq_true q315
             refine start_ (n := 14) (S := fun w' => w'.cell? ⟨gb313, 0, none⟩ = some (.string ((rd_T62 l0_3 x11_1).f0)) ∧ w'.cell? ⟨gb313, 1, none⟩ = some (.slice (some ad314) ((rd_T62 l0_3 x11_1).f1).length c312_1) ∧ w'.cell? ⟨gb313, 2, none⟩ = some (.int .i64 ((rd_T62 l0_3 x11_1).f2)) ∧ w'.cell? ⟨gb313, 3, none⟩ = some (.int .i64 ((rd_T62 l0_3 x11_1).f3)) ∧ w'.cell? ⟨gb311, 0, none⟩ = some (.int .i64 a1_0) ∧ w'.cell? ⟨gb311, 1, none⟩ = some (.string a1_1) ∧ w'.cell? ⟨gb311, 2, none⟩ = some (.slice (some ad315) l1_2.length c1_2) ∧ w'.cell? ⟨gb311, 3, none⟩ = some (.int .i64 a1_3) ∧ w'.cell? ⟨gb311, 4, none⟩ = some (.int .i64 a1_4) ∧ w'.cell? ⟨gb311, 5, none⟩ = some (.slice A1_5 l1_5.length c1_5) ∧ w'.cell? (ad314.add (x14_3).toNat) = some (.string (rdOf ByteArray.empty ((rd_T62 l0_3 x11_1).f1) x14_3)) ∧ w'.cell? (ad315.add ((x14_3).toNat * 3)) = some (.int .i64 ((rd_T92 l1_2 x14_3).f0)) ∧ w'.cell? ⟨(ad315.add ((x14_3).toNat * 3)).block, (ad315.add ((x14_3).toNat * 3)).off + 1, none⟩ = some (.int .i64 ((rd_T92 l1_2 x14_3).f1)) ∧ w'.cell? ⟨(ad315.add ((x14_3).toNat * 3)).block, (ad315.add ((x14_3).toNat * 3)).off + 2, none⟩ = some (.string ((rd_T92 l1_2 x14_3).f2))) (ds := []) #[false, false, false, false, false, false, false, false, false, false, false, false, false, false] (by kernel_rfl) rfl rfl ⟨(blk_cell BK313.out 0).trans rfl, (blk_cell BK313.out 1).trans rfl, (blk_cell BK313.out 2).trans rfl, (blk_cell BK313.out 3).trans rfl, (blk_cell BK311.out 0).trans rfl, (blk_cell BK311.out 1).trans rfl, (blk_cell BK311.out 2).trans rfl, (blk_cell BK311.out 3).trans rfl, (blk_cell BK311.out 4).trans rfl, (blk_cell BK311.out 5).trans rfl, ((HB.out.cell (World.block_lt_of_cell? w _ hw314_0)).trans hw314_0), ((HB.out.cell (World.block_lt_of_cell? w _ hw315_0)).trans hw315_0), ((HB.out.cell (World.block_lt_of_cell? w _ hw315_1)).trans hw315_1), ((HB.out.cell (World.block_lt_of_cell? w _ hw315_2)).trans hw315_2)⟩ (fun hHeld => ?_); refine with_tabW pentaglotref26_atom.tab9 pentaglotref26_atom.bits9 (fun HT_ HW_ => ?_)
             generalize wr.drew = w48 at BK310 BK311 BK313 HB hx314_0 hx315_0 hx315_1 hx315_2 hHeld ⊢
             refine pu_ 0 (some 63) ?_
             refine pu_ 2 (some 65) ?_
             refine pu_ 5 (some 68) ?_
             refine pu_ 7 (some 70) ?_
             refine pu_ 10 (some 73) ?_
             refine tk_ 1 (some 64) hHeld ?_
             refine pu_ 3 (some 66) ?_
             refine tk_ 4 (some 67) hHeld ?_
             refine tk_ 6 (some 69) hHeld ?_
             refine pu_ 8 (some 71) ?_
             refine tk_ 9 (some 72) hHeld ?_
             refine on_ 11 (some 74) (fun K hK => ?_)
             refine goes_ Tryd.func59 (by kernel_rfl) rfl #[.agg #[.int .i64 ((rd_T92 l1_2 x14_3).f0), .int .i64 ((rd_T92 l1_2 x14_3).f1), .string ((rd_T92 l1_2 x14_3).f2)], .slice A2 l2.length c2] (by rfl) rfl rfl (by (try simp only [List.map_toArray, List.map_cons, List.map_nil]); first | done | rfl | (simp only [List.length_drop, List.length_take]; rfl)) ?_
             with_reducible refine (pentaglotref26_Name.calls k3 ((rd_T92 l1_2 x14_3).f0) ((rd_T92 l1_2 x14_3).f1) ((rd_T92 l1_2 x14_3).f2) _ _ l2 t316 _ ?side1 ?side2 A44.out).mono ?_
             (case side1 => exact cs_ (Kd.C_below HR2.out HB.out))
             (case side2 => exact HC2.out)
             rintro e w49 ⟨rfl, hb⟩
             refine ⟨_, rfl, ?_⟩
             replace BK310 := mk_ (bb_ BK310 hb)
             replace BK311 := mk_ (bb_ BK311 hb)
             replace BK313 := mk_ (bb_ BK313 hb)
             replace HB := mk_ (below_step (be3_ HB GE310 GE311 GE313) hb)
             refine hK.out _ _ ⟨(blk_cell BK313.out 0).trans rfl, (blk_cell BK313.out 1).trans rfl, (blk_cell BK313.out 2).trans rfl, (blk_cell BK313.out 3).trans rfl, (blk_cell BK311.out 0).trans rfl, (blk_cell BK311.out 1).trans rfl, (blk_cell BK311.out 2).trans rfl, (blk_cell BK311.out 3).trans rfl, (blk_cell BK311.out 4).trans rfl, (blk_cell BK311.out 5).trans rfl, ((HB.out.cell (World.block_lt_of_cell? w _ hw314_0)).trans hw314_0), ((HB.out.cell (World.block_lt_of_cell? w _ hw315_0)).trans hw315_0), ((HB.out.cell (World.block_lt_of_cell? w _ hw315_1)).trans hw315_1), ((HB.out.cell (World.block_lt_of_cell? w _ hw315_2)).trans hw315_2)⟩ (fun hHeld => ?_)
             clear hK K
             refine no_ (N := some 74) ?_
             refine pu_ 12 (some 75) ?_
             refine pu_ 13 (some 13) ?_
             refine done_ (done_of HT_.out (by kernel_rfl)) ?_
             try go_wp2
             go_roundg k3
             case measure => have := HK1.out; have := HJ9.out; have := HK3.out; omega
             case rel => exact ⟨(((rdOf ByteArray.empty ((rd_T62 l0_3 x11_1).f1) x14_3).toList == t316.toList)), (wrap64 (x14_3 + 1)), fi_, fi_, H', ⟨by have := HK1.out; have := HJ9.out; have := HK3.out; omega⟩, ⟨bq_ BK310⟩, ⟨bq_ BK311⟩, ⟨bq_ BK313⟩, ⟨be3_ HB GE310 GE311 GE313⟩⟩
            ·rw [if_neg c43] at H
             exact absurd H (by simp)
           ·rw [if_neg c42] at H
            exact absurd H (by simp)
          ·rw [if_neg c41] at H
           have c41b0 : decide (x14_3 < (l1_2.length : Int)) = false := decide_eq_false c41
           clear c41
           obtain rfl := Option.some.inj H
           have hnb50 := NB311_310.out
           have hnc50 := NB310_311.out
           have hnb51 := NB311_313.out
           have hnc51 := NB313_311.out
           obtain ⟨_, _, _, _, _, _, _, _, _, _, _, _⟩ := hb6_ BK311
           go_wp2
           go_ret
           exact ⟨er_, be3_ HB GE310 GE311 GE313⟩
         ·replace c40 := Bool.eq_false_iff.mpr c40
          subst c40
          rw [if_neg nf_] at H
          have H' := mk_ H
          clear H
          go_wp2
          go_roundg k3
          case measure => have := HK1.out; have := HJ9.out; have := HK3.out; omega
          case rel => exact ⟨(wrap64 (x11_1 + 1)), fi_, H', ⟨by have := HK1.out; have := HJ9.out; have := HK3.out; omega⟩, ⟨bq_ BK310⟩, ⟨bq_ BK311⟩, ⟨be3_ HB GE310 GE311 GE313⟩⟩
    ·rw [if_neg c9] at H
     exact absurd H (by simp)
   ·rw [if_neg c8] at H
    have c8b0 : decide (x11_1 < (l0_3.length : Int)) = false := decide_eq_false c8
    clear c8
    obtain rfl := Option.some.inj H
    have hnb53 := NB310_311.out
    have hnc53 := NB311_310.out
    obtain ⟨_, _, _, _, _, _, _, _⟩ := hb4_ BK310
    go_wp2
    go_ret
    exact ⟨er_, be2_ HB GE310 GE311⟩
end Go.Proofs.YtolpckflofjfhaaDoor.P
