-- printed by wip/tools/xprint.py
import Derived.Test.YtolpckflofjfhaaDoorPx0
import Derived.Test.YtolpckflofjfhaaDoorPx10
import Derived.Test.YtolpckflofjfhaaDoorPx12
import Derived.Test.YtolpckflofjfhaaDoorPx24
import Derived.Test.YtolpckflofjfhaaDoorPx27
import Derived.Test.YtolpckflofjfhaaDoorPx28
namespace Go.Proofs.YtolpckflofjfhaaDoor.P
open Go.RowKit Go.Proofs.YtolpckflofjfhaaDoorW.PrintWords Go.Proofs.YtolpckflofjfhaaDoorW.PrintLast Go.Proofs.YtolpckflofjfhaaDoorW.PrintMore
attribute [local go_sem] max2_int min2_int max_two min_two max_three min_three max_four min_four
set_option linter.unusedVariables false
set_option maxHeartbeats 8000000
set_option maxRecDepth 100000
set_option linter.unusedSimpArgs false

mutual
def pentaglotlaw26_EvaluateLists.l0 : Nat → List (S32) → Bool → Int → List Bool → Int → List (S73) → List Int → Int → List (S62) → Option (Bool)
 | 0, _, _, _, _, _, _, _, _, _ => none
 | k + 1, x1, x5, x6, x7, x8, x561000, x561001, x561002, x561003 => if x8 < (x1.length : Int) then (if 0 ≤ x8 then ((pentaglotref26_Light.f k x561000 x561001 x561002 x561003 ((rd_T32 x1 x8).f0) ((rd_T32 x1 x8).f1) ((rd_T32 x1 x8).f2) ((rd_T32 x1 x8).f3) ((rd_T32 x1 x8).f4) ((rd_T32 x1 x8).f5)).bind fun t566 => (if t566 = true then ((evaluate_True.f k x561000 x561001 x561002 x561003 ((rd_T32 x1 x8).f0) ((rd_T32 x1 x8).f1) ((rd_T32 x1 x8).f2) ((rd_T32 x1 x8).f3) ((rd_T32 x1 x8).f4) ((rd_T32 x1 x8).f5)).bind fun bt568 => (if x6 = 0 then (if x5 = true then (if x7.length < 140737488355328 then (pentaglotlaw26_EvaluateLists.l0 k x1 bt568.1 bt568.2 (x7 ++ [bt568.1]) (wrap64 (x8 + 1)) x561000 x561001 x561002 x561003) else (none)) else (if x7.length < 140737488355328 then (pentaglotlaw26_EvaluateLists.l0 k x1 false bt568.2 (x7 ++ [bt568.1]) (wrap64 (x8 + 1)) x561000 x561001 x561002 x561003) else (none))) else (if x5 = true then (if x7.length < 140737488355328 then (pentaglotlaw26_EvaluateLists.l0 k x1 bt568.1 x6 (x7 ++ [bt568.1]) (wrap64 (x8 + 1)) x561000 x561001 x561002 x561003) else (none)) else (if x7.length < 140737488355328 then (pentaglotlaw26_EvaluateLists.l0 k x1 false x6 (x7 ++ [bt568.1]) (wrap64 (x8 + 1)) x561000 x561001 x561002 x561003) else (none))))) else (some true))) else (none)) else ((evaluate_All.f k x561000 x561001 x561002 x561003 x1).bind fun bt582 => ((evaluate_Which.f k x561000 x561001 x561002 x561003 x1).bind fun bt584 => (if x6 = 0 then (if bt582.2 = 0 then (if bt584.2 = 0 then (if (bt582.1 != x5) = true then (pentaglotlaw26_EvaluateLists.j1 k x7 bt584.1 true) else (pentaglotlaw26_EvaluateLists.j1 k x7 bt584.1 ((bt584.1.length : Int) != (x7.length : Int)))) else (pentaglotlaw26_EvaluateLists.j1 k x7 bt584.1 true)) else (pentaglotlaw26_EvaluateLists.j1 k x7 bt584.1 true)) else (if bt582.1 = true then (some false) else (if (bt584.1.length : Int) = 0 then (if bt582.2 = x6 then (some (bt584.2 == x6)) else (some false)) else (some false))))))
def pentaglotlaw26_EvaluateLists.j1 : Nat → List Bool → List Bool → Bool → Option (Bool)
 | 0, _, _, _ => none
 | k + 1, x7, x13, x103 => if x103 = true then (some false) else (pentaglotlaw26_EvaluateLists.l1 k x7 x13 0)
def pentaglotlaw26_EvaluateLists.l1 : Nat → List Bool → List Bool → Int → Option (Bool)
 | 0, _, _, _ => none
 | k + 1, x7, x13, x15 => if x15 < (x7.length : Int) then (if 0 ≤ x15 then (if x15 < (x13.length : Int) then (if ((rdOf false x13 x15) != (rdOf false x7 x15)) = true then (some false) else (pentaglotlaw26_EvaluateLists.l1 k x7 x13 (wrap64 (x15 + 1)))) else (none)) else (none)) else (some true)
end
def pentaglotlaw26_EvaluateLists.f (k : Nat) (l0_0 : List (S73)) (l0_1 : List Int) (a0_2 : Int) (l0_3 : List (S62)) (l1 : List (S32)) : Option (Bool) := (pentaglotlaw26_awake.f k).bind fun t561 => (if t561 = true then (if (l1.length : Int) > 10 then (some true) else (pentaglotlaw26_EvaluateLists.l0 k l1 true 0 (([] : List Bool)) 0 l0_0 l0_1 a0_2 l0_3)) else (some false))
def pentaglotlaw26_EvaluateLists.T12 : Bool × List (List Nat × List Nat) := (true, [([], []), ([], []), ([], []), ([1, 2], [1, 2]), ([3], [3]), ([0, 4], [0, 4]), ([5], [5]), ([6], [6]), ([6], [6]), ([7, 5, 0, 1, 2, 3, 4, 5, 6, 7], [7]), ([8, 9, 0, 1, 2, 3, 4, 5, 6, 7, 8, 9], [8])])
def pentaglotlaw26_EvaluateLists.B12 : List Nat := [0, 0, 0, 6, 14, 31, 63, 127, 127, 255, 1023]
theorem pentaglotlaw26_EvaluateLists.tab12 : rtab .any (opsOf Tryd.f11 12) = pentaglotlaw26_EvaluateLists.T12 := by kernel_rfl
theorem pentaglotlaw26_EvaluateLists.bits12 : waitsOk pentaglotlaw26_EvaluateLists.T12.2 pentaglotlaw26_EvaluateLists.B12 = true := by kernel_rfl
def pentaglotlaw26_EvaluateLists.T26 : Bool × List (List Nat × List Nat) := (true, [([], []), ([], []), ([0, 1], [0, 1]), ([2], [2]), ([], []), ([], []), ([4, 5], [4, 5]), ([6], [6]), ([3, 7], [3, 7])])
def pentaglotlaw26_EvaluateLists.B26 : List Nat := [0, 0, 3, 7, 0, 0, 48, 112, 255]
theorem pentaglotlaw26_EvaluateLists.tab26 : rtab .any (opsOf Tryd.f11 26) = pentaglotlaw26_EvaluateLists.T26 := by kernel_rfl
theorem pentaglotlaw26_EvaluateLists.bits26 : waitsOk pentaglotlaw26_EvaluateLists.T26.2 pentaglotlaw26_EvaluateLists.B26 = true := by kernel_rfl
theorem pentaglotlaw26_EvaluateLists.calls (k : Nat) (A0_0 : Option Addr) (c0_0 : Nat) (l0_0 : List (S73)) (A0_1 : Option Addr) (c0_1 : Nat) (l0_1 : List Int) (a0_2 : Int) (A0_3 : Option Addr) (c0_3 : Nat) (l0_3 : List (S62)) (A1 : Option Addr) (c1 : Nat) (l1 : List (S32)) (r : Bool) (w : World) (hr0_0 : Kd.C k73 w A0_0 l0_0.length l0_0) (hc0_0 : l0_0.length ≤ c0_0) (hr0_1 : Kd.C (Kd.int .i64) w A0_1 l0_1.length l0_1) (hc0_1 : l0_1.length ≤ c0_1) (hr0_3 : Kd.C k62 w A0_3 l0_3.length l0_3) (hc0_3 : l0_3.length ≤ c0_3) (hr1 : Kd.C k32 w A1 l1.length l1) (hc1 : l1.length ≤ c1) (h : pentaglotlaw26_EvaluateLists.f k l0_0 l0_1 a0_2 l0_3 l1 = some r) (htb : Tb w) :
  Calls Tryd.prog 11 #[.agg #[.slice A0_0 l0_0.length c0_0, .slice A0_1 l0_1.length c0_1, .int .i64 a0_2, .slice A0_3 l0_3.length c0_3], .slice A1 l1.length c1] w fun e w' => e = .returned (.bool r) ∧ Below w.heap.size w w' := by
 have HTB := mk_ htb
 clear htb
 have hu28 := Tryd.underlying28
 have hu32 := Tryd.underlying32
 have HR0_0 := mk_ hr0_0
 have HC0_0 := mk_ hc0_0
 clear hr0_0 hc0_0
 have HR0_1 := mk_ hr0_1
 have HC0_1 := mk_ hc0_1
 clear hr0_1 hc0_1
 have HR0_3 := mk_ hr0_3
 have HC0_3 := mk_ hc0_3
 clear hr0_3 hc0_3
 have HR1 := mk_ hr1
 have HC1 := mk_ hc1
 clear hr1 hc1
 have HB := mk_ (Below.refl w.heap.size w)
 have H : ((pentaglotlaw26_awake.f k).bind fun t561 => (if t561 = true then (if (l1.length : Int) > 10 then (some true) else (pentaglotlaw26_EvaluateLists.l0 k l1 true 0 (([] : List Bool)) 0 l0_0 l0_1 a0_2 l0_3)) else (some false))) = some r := h
 clear h
 replace H := Option.bind_eq_some_iff.mp H
 obtain ⟨t561, A30, H⟩ := H
 replace H : (if t561 = true then (if (l1.length : Int) > 10 then (some true) else (pentaglotlaw26_EvaluateLists.l0 k l1 true 0 (([] : List Bool)) 0 l0_0 l0_1 a0_2 l0_3)) else (some false)) = some r := H
 have A3 := mk_ A30
 clear A30
 by_cases c4 : t561 = true
 ·subst c4
  rw [if_pos rfl] at H
  by_cases c5 : (l1.length : Int) > 10
  ·rw [if_pos c5] at H
   have c5b0 : decide (10 < (l1.length : Int)) = true := decide_eq_true c5
   have c5b1 : decide (10 < l1.length) = true := decide_eq_true (by omega)
   clear c5
   obtain rfl := Option.some.inj H
   go_enter Tryd.func11, Tryd.ntmps11
   go_wp2_with (first | ((with_reducible refine gate_dst (N := 2) rfl ?_); (try (refine gate_guard (by rfl) ?_; dsimp only)); refine bx_ 2 #[.slice A0_0 l0_0.length c0_0, .slice A0_1 l0_1.length c0_1, .int .i64 a0_2, .slice A0_3 l0_3.length c0_3] 28 ?_; intro gb560 hg w6 hbox hb; have BK560 := mk_ (hbox); have GW560 := mk_ (gs_ hg (be_ HB)); have GE560 := mk_ (gs_ hg (be_ HB)); replace HB := mk_ (below_step (be_ HB) hb); clear hb hbox hg) | ((with_reducible refine gate_callee (f := 12) rfl ?_); refine gl_ (some 16) Tryd.func12 #[] ?_; (with_reducible refine (pentaglotlaw26_awake.calls k  true _ A3.out (tb_on HTB.out (be1_ HB GE560))).mono ?_); rintro e w7 ⟨rfl, hb⟩; refine ⟨_, rfl, ?_⟩; replace BK560 := mk_ (bb_ BK560 hb); replace HB := mk_ (below_step (be1_ HB GE560) hb); (try clear hb); (try clear hb2); (try clear hk); (try clear hi)))
   go_ret
   exact ⟨er_, be1_ HB GE560⟩
  ·rw [if_neg c5] at H
   have c5b0 : decide (10 < (l1.length : Int)) = false := decide_eq_false c5
   have c5b1 : decide (10 < l1.length) = false := decide_eq_false (by omega)
   clear c5
   obtain ⟨y562, hy562⟩ : ∃ y_ : List Bool, y_ = (([] : List Bool)) := ⟨_, rfl⟩
   replace H : (pentaglotlaw26_EvaluateLists.l0 k l1 true 0 y562 0 l0_0 l0_1 a0_2 l0_3) = some r := by first | (rw [hy562]; with_reducible exact H) | (have H2_ := (Option.bind_some _ _).symm.trans H; rw [hy562]; with_reducible exact H2_) | (have H2_ := (Option.bind_some _ _).symm.trans H; with_reducible exact H2_) | with_reducible exact H | (rw [hy562]; exact H) | exact H
   have Ny562 := mk_ hy562
   clear hy562
   have H' := mk_ H
   clear H
   go_enter Tryd.func11, Tryd.ntmps11
   go_wp2_with (first | ((with_reducible refine gate_dst (N := 2) rfl ?_); (try (refine gate_guard (by rfl) ?_; dsimp only)); refine bx_ 2 #[.slice A0_0 l0_0.length c0_0, .slice A0_1 l0_1.length c0_1, .int .i64 a0_2, .slice A0_3 l0_3.length c0_3] 28 ?_; intro gb560 hg w8 hbox hb; have BK560 := mk_ (hbox); have GW560 := mk_ (gs_ hg (be_ HB)); have GE560 := mk_ (gs_ hg (be_ HB)); replace HB := mk_ (below_step (be_ HB) hb); clear hb hbox hg) | ((with_reducible refine gate_callee (f := 12) rfl ?_); refine gl_ (some 16) Tryd.func12 #[] ?_; (with_reducible refine (pentaglotlaw26_awake.calls k  true _ A3.out (tb_on HTB.out (be1_ HB GE560))).mono ?_); rintro e w9 ⟨rfl, hb⟩; refine ⟨_, rfl, ?_⟩; replace BK560 := mk_ (bb_ BK560 hb); replace HB := mk_ (below_step (be1_ HB GE560) hb); (try clear hb); (try clear hb2); (try clear hk); (try clear hi)) | ((with_reducible refine gate_dst (N := 21) rfl ?_); (try (refine gate_guard (by rfl) ?_; dsimp only)); refine Kd.R_lit Kd.bool _ 4 ?hg (N := 21) ?hd (xs := ([] : List Bool)) (inner := []) (ok := fun _ => True) (okp := fun _ => True) ?hr ?hp (fun _ hk => hk) trivial (Below.refl _ _) (Nat.le_refl _) (by simp) ?_; (case hd => rfl); (case hg => rfl); (case hr => first | (go_simp; done) | (go_simp; rfl)); (case hp => exact (Reps.none _ _)); intro v563 w10 ho11 hb hg_ hnew_; clear hg_ hnew_; (first | rw [← Ny562.out] at ho11 | (simp only [Int.reduceToNat] at ho11; rw [← Ny562.out] at ho11)); have HO564 := mk_ (Kd.R_lower ho11 (below_size (be1_ HB GE560))); replace BK560 := mk_ (bb_ BK560 hb); replace HB := mk_ (below_step (be1_ HB GE560) hb); clear hb ho11))
   go_loopg [5, 6, 7, 8] k (fun kq v5 v6 v7 v8 w' => ∃ (x5_1 : Bool) (x6_1 : Int) (x7_1 : List Bool) (x8_1 : Int), v5 = .bool x5_1 ∧ v6 = .int .i64 x6_1 ∧ v8 = .int .i64 x8_1 ∧ Aside0 (pentaglotlaw26_EvaluateLists.l0 kq l1 x5_1 x6_1 x7_1 x8_1 l0_0 l0_1 a0_2 l0_3 = some r) ∧ Aside0 (kq ≤ k) ∧ Aside0 (Kd.R Kd.bool 4 w' w.heap.size (fun _ => True) v7 x7_1) ∧ Aside0 (w'.heap[gb560]? = some (.cells #[(.slice A0_0 l0_0.length c0_0), (.slice A0_1 l0_1.length c0_1), .int .i64 a0_2, (.slice A0_3 l0_3.length c0_3)] 28 (0, 0))) ∧ Aside0 (Below w.heap.size w w'))
   case atStart => exact ⟨(true), (0), (y562), (0), fi_, fi_, fi_, H', ⟨Nat.le_refl _⟩, ⟨rq_ HO564⟩, ⟨bq_ BK560⟩, ⟨be1_ HB GE560⟩⟩
   case round =>
    clear H'
    obtain ⟨x5_1, x6_1, x7_1, x8_1, rfl, rfl, rfl, HA, HK1, HO_7, BK560, HB⟩ := hrel
    cases gk with
    | zero => exact absurd HA.out (by simp [pentaglotlaw26_EvaluateLists.l0])
    | succ k1 =>
     have H := HA.out
     clear HA
     simp only [pentaglotlaw26_EvaluateLists.l0] at H
     by_cases c12 : x8_1 < (l1.length : Int)
     ·rw [if_pos c12] at H
      have c12b0 : decide (x8_1 < (l1.length : Int)) = true := decide_eq_true c12
      clear c12
      by_cases c13 : 0 ≤ x8_1
      ·rw [if_pos c13] at H
       have c13b0 : decide (0 ≤ x8_1) = true := decide_eq_true c13
       clear c13
       replace H := Option.bind_eq_some_iff.mp H
       obtain ⟨t566, A140, H⟩ := H
       replace H : (if t566 = true then ((evaluate_True.f k1 l0_0 l0_1 a0_2 l0_3 ((rd_T32 l1 x8_1).f0) ((rd_T32 l1 x8_1).f1) ((rd_T32 l1 x8_1).f2) ((rd_T32 l1 x8_1).f3) ((rd_T32 l1 x8_1).f4) ((rd_T32 l1 x8_1).f5)).bind fun bt568 => (if x6_1 = 0 then (if x5_1 = true then (if x7_1.length < 140737488355328 then (pentaglotlaw26_EvaluateLists.l0 k1 l1 bt568.1 bt568.2 (x7_1 ++ [bt568.1]) (wrap64 (x8_1 + 1)) l0_0 l0_1 a0_2 l0_3) else (none)) else (if x7_1.length < 140737488355328 then (pentaglotlaw26_EvaluateLists.l0 k1 l1 false bt568.2 (x7_1 ++ [bt568.1]) (wrap64 (x8_1 + 1)) l0_0 l0_1 a0_2 l0_3) else (none))) else (if x5_1 = true then (if x7_1.length < 140737488355328 then (pentaglotlaw26_EvaluateLists.l0 k1 l1 bt568.1 x6_1 (x7_1 ++ [bt568.1]) (wrap64 (x8_1 + 1)) l0_0 l0_1 a0_2 l0_3) else (none)) else (if x7_1.length < 140737488355328 then (pentaglotlaw26_EvaluateLists.l0 k1 l1 false x6_1 (x7_1 ++ [bt568.1]) (wrap64 (x8_1 + 1)) l0_0 l0_1 a0_2 l0_3) else (none))))) else (some true)) = some r := H
       have A14 := mk_ A140
       clear A140
       by_cases c15 : t566 = true
       ·subst c15
        rw [if_pos rfl] at H
        replace H := Option.bind_eq_some_iff.mp H
        obtain ⟨⟨t568, t569⟩, A160, H⟩ := H
        replace H : (if x6_1 = 0 then (if x5_1 = true then (if x7_1.length < 140737488355328 then (pentaglotlaw26_EvaluateLists.l0 k1 l1 t568 t569 (x7_1 ++ [t568]) (wrap64 (x8_1 + 1)) l0_0 l0_1 a0_2 l0_3) else (none)) else (if x7_1.length < 140737488355328 then (pentaglotlaw26_EvaluateLists.l0 k1 l1 false t569 (x7_1 ++ [t568]) (wrap64 (x8_1 + 1)) l0_0 l0_1 a0_2 l0_3) else (none))) else (if x5_1 = true then (if x7_1.length < 140737488355328 then (pentaglotlaw26_EvaluateLists.l0 k1 l1 t568 x6_1 (x7_1 ++ [t568]) (wrap64 (x8_1 + 1)) l0_0 l0_1 a0_2 l0_3) else (none)) else (if x7_1.length < 140737488355328 then (pentaglotlaw26_EvaluateLists.l0 k1 l1 false x6_1 (x7_1 ++ [t568]) (wrap64 (x8_1 + 1)) l0_0 l0_1 a0_2 l0_3) else (none)))) = some r := H
        have A16 := mk_ A160
        clear A160
        by_cases c17 : x6_1 = 0
        ·rw [if_pos c17] at H
         obtain ⟨c17b0, c17b1⟩ := eb_ c17
         clear c17
         by_cases c18 : x5_1 = true
         ·subst c18
          rw [if_pos rfl] at H
          by_cases c19 : x7_1.length < 140737488355328
          ·rw [if_pos c19] at H
           have LMc19 := mk_ c19
           clear c19
           obtain ⟨y570, hy570⟩ : ∃ y_ : List Bool, y_ = (x7_1 ++ [t568]) := ⟨_, rfl⟩
           replace H : (pentaglotlaw26_EvaluateLists.l0 k1 l1 t568 t569 y570 (wrap64 (x8_1 + 1)) l0_0 l0_1 a0_2 l0_3) = some r := by first | (rw [hy570]; with_reducible exact H) | (have H2_ := (Option.bind_some _ _).symm.trans H; rw [hy570]; with_reducible exact H2_) | (have H2_ := (Option.bind_some _ _).symm.trans H; with_reducible exact H2_) | with_reducible exact H | (rw [hy570]; exact H) | exact H
           have Ny570 := mk_ hy570
           clear hy570
           have H' := mk_ H
           clear H
           try go_wp2
           have n0_ := mk_ (Kd.R_drew HO_7.out)
           have n1_ := mk_ (blk_drew BK560.out)
           have n2_ := mk_ (below_drew1 HB.out)
           clear HO_7
           clear BK560
           clear HB
           have HO_7 := n0_
           have BK560 := n1_
           have HB := n2_
           clear n0_ n1_ n2_
           have p565 : 0 ≤ (x8_1 : Int) := of_decide_eq_true (by first | (with_reducible assumption) | assumption)
           have q565 : x8_1 < (l1.length : Int) := of_decide_eq_true (by first | (with_reducible assumption) | assumption)
           obtain ⟨ad565, A565_2, c565_2, A565_5, c565_5, e565, hx565_0, hx565_1, hx565_2, hx565_3, hx565_4, hx565_5, hl565_2, hi565_2, hl565_5, hi565_5⟩ := at_T32 HR1.out x8_1 p565 q565
           have hw565_5 := hx565_5
           have hw565_4 := hx565_4
           have hw565_3 := hx565_3
           have hw565_2 := hx565_2
           have hw565_1 := hx565_1
           have hw565_0 := hx565_0
           cases e565
           replace hx565_0 := cb_ HB hx565_0
           replace hx565_1 := cb_ HB hx565_1
           replace hx565_2 := cb_ HB hx565_2
           replace hx565_3 := cb_ HB hx565_3
           replace hx565_4 := cb_ HB hx565_4
           replace hx565_5 := cb_ HB hx565_5
           have HR565_2 := mk_ hi565_2
           have HC565_2 := mk_ hl565_2
           clear hi565_2 hl565_2
           have HR565_5 := mk_ hi565_5
           have HC565_5 := mk_ hl565_5
           clear hi565_5 hl565_5
           replace p565 := eq_true p565
           replace q565 := eq_true q565
           refine start_ (n := 7) (S := fun w' => w'.cell? ⟨gb560, 0, none⟩ = some (.slice A0_0 l0_0.length c0_0) ∧ w'.cell? ⟨gb560, 1, none⟩ = some (.slice A0_1 l0_1.length c0_1) ∧ w'.cell? ⟨gb560, 2, none⟩ = some (.int .i64 a0_2) ∧ w'.cell? ⟨gb560, 3, none⟩ = some (.slice A0_3 l0_3.length c0_3) ∧ w'.cell? (ad565.add ((x8_1).toNat * 6)) = some (.int .i64 ((rd_T32 l1 x8_1).f0)) ∧ w'.cell? ⟨(ad565.add ((x8_1).toNat * 6)).block, (ad565.add ((x8_1).toNat * 6)).off + 1, none⟩ = some (.string ((rd_T32 l1 x8_1).f1)) ∧ w'.cell? ⟨(ad565.add ((x8_1).toNat * 6)).block, (ad565.add ((x8_1).toNat * 6)).off + 2, none⟩ = some (.slice A565_2 ((rd_T32 l1 x8_1).f2).length c565_2) ∧ w'.cell? ⟨(ad565.add ((x8_1).toNat * 6)).block, (ad565.add ((x8_1).toNat * 6)).off + 3, none⟩ = some (.int .i64 ((rd_T32 l1 x8_1).f3)) ∧ w'.cell? ⟨(ad565.add ((x8_1).toNat * 6)).block, (ad565.add ((x8_1).toNat * 6)).off + 4, none⟩ = some (.int .i64 ((rd_T32 l1 x8_1).f4)) ∧ w'.cell? ⟨(ad565.add ((x8_1).toNat * 6)).block, (ad565.add ((x8_1).toNat * 6)).off + 5, none⟩ = some (.slice A565_5 ((rd_T32 l1 x8_1).f5).length c565_5)) (ds := []) #[false, false, false, false, false, false, false] (by kernel_rfl) rfl rfl ⟨(blk_cell BK560.out 0).trans rfl, (blk_cell BK560.out 1).trans rfl, (blk_cell BK560.out 2).trans rfl, (blk_cell BK560.out 3).trans rfl, ((HB.out.cell (World.block_lt_of_cell? w _ hw565_0)).trans hw565_0), ((HB.out.cell (World.block_lt_of_cell? w _ hw565_1)).trans hw565_1), ((HB.out.cell (World.block_lt_of_cell? w _ hw565_2)).trans hw565_2), ((HB.out.cell (World.block_lt_of_cell? w _ hw565_3)).trans hw565_3), ((HB.out.cell (World.block_lt_of_cell? w _ hw565_4)).trans hw565_4), ((HB.out.cell (World.block_lt_of_cell? w _ hw565_5)).trans hw565_5)⟩ (fun hHeld => ?_)
           generalize wr.drew = w20 at HO_7 BK560 HB HR565_2 HR565_5 hx565_0 hx565_1 hx565_2 hx565_3 hx565_4 hx565_5 hHeld ⊢
           refine pu_ 1 (some 29) ?_
           refine pu_ 2 (some 30) ?_
           refine pu_ 3 (some 31) ?_
           refine tk_ 0 (some 28) hHeld ?_
           refine tk_ 4 (some 32) hHeld ?_
           refine on_ 5 (some 33) (fun K hK => ?_)
           refine goes_ Tryd.func13 (by kernel_rfl) rfl #[.agg #[.slice A0_0 l0_0.length c0_0, .slice A0_1 l0_1.length c0_1, .int .i64 a0_2, .slice A0_3 l0_3.length c0_3], .agg #[.int .i64 ((rd_T32 l1 x8_1).f0), .string ((rd_T32 l1 x8_1).f1), .slice A565_2 ((rd_T32 l1 x8_1).f2).length c565_2, .int .i64 ((rd_T32 l1 x8_1).f3), .int .i64 ((rd_T32 l1 x8_1).f4), .slice A565_5 ((rd_T32 l1 x8_1).f5).length c565_5]] (by rfl) rfl rfl (by (try simp only [List.map_toArray, List.map_cons, List.map_nil]); first | done | rfl | (simp only [List.length_drop, List.length_take]; rfl)) ?_
           with_reducible refine (pentaglotref26_Light.calls k1 _ _ l0_0 _ _ l0_1 a0_2 _ _ l0_3 ((rd_T32 l1 x8_1).f0) ((rd_T32 l1 x8_1).f1) _ _ ((rd_T32 l1 x8_1).f2) ((rd_T32 l1 x8_1).f3) ((rd_T32 l1 x8_1).f4) _ _ ((rd_T32 l1 x8_1).f5) true _ ?side1 ?side2 ?side3 ?side4 ?side5 ?side6 ?side7 ?side8 ?side9 ?side10 A14.out).mono ?_
           (case side1 => exact cs_ (Kd.C_below HR0_0.out HB.out))
           (case side2 => exact HC0_0.out)
           (case side3 => exact cs_ (Kd.C_below HR0_1.out HB.out))
           (case side4 => exact HC0_1.out)
           (case side5 => exact cs_ (Kd.C_below HR0_3.out HB.out))
           (case side6 => exact HC0_3.out)
           (case side7 => exact cs_ (Kd.C_below HR565_2.out HB.out))
           (case side8 => exact HC565_2.out)
           (case side9 => exact cs_ (Kd.C_below HR565_5.out HB.out))
           (case side10 => exact HC565_5.out)
           rintro e w21 ⟨rfl, hb⟩
           refine ⟨_, rfl, ?_⟩
           have n0_ := mk_ (Kd.R_below (rq_ HO_7) hb)
           have n1_ := mk_ (bb_ BK560 hb)
           have n2_ := mk_ (below_step (be1_ HB GE560) hb)
           clear HO_7
           clear BK560
           clear HB
           have HO_7 := n0_
           have BK560 := n1_
           have HB := n2_
           clear n0_ n1_ n2_
           (try clear hb)
           (try clear hb2)
           (try clear hk)
           (try clear hi)
           refine hK.out _ _ ⟨(blk_cell BK560.out 0).trans rfl, (blk_cell BK560.out 1).trans rfl, (blk_cell BK560.out 2).trans rfl, (blk_cell BK560.out 3).trans rfl, ((HB.out.cell (World.block_lt_of_cell? w _ hw565_0)).trans hw565_0), ((HB.out.cell (World.block_lt_of_cell? w _ hw565_1)).trans hw565_1), ((HB.out.cell (World.block_lt_of_cell? w _ hw565_2)).trans hw565_2), ((HB.out.cell (World.block_lt_of_cell? w _ hw565_3)).trans hw565_3), ((HB.out.cell (World.block_lt_of_cell? w _ hw565_4)).trans hw565_4), ((HB.out.cell (World.block_lt_of_cell? w _ hw565_5)).trans hw565_5)⟩ (fun hHeld => ?_)
           clear hK K
           refine no_ (N := some 33) ?_
           refine pu_ 6 (some 34) ?_
           refine done_ (by kernel_rfl) ?_
           try go_wp2
           have n0_ := mk_ (Kd.R_drew HO_7.out)
           have n1_ := mk_ (blk_drew BK560.out)
           have n2_ := mk_ (below_drew1 HB.out)
           clear HO_7
           clear BK560
           clear HB
           have HO_7 := n0_
           have BK560 := n1_
           have HB := n2_
           clear n0_ n1_ n2_
           have p567 : 0 ≤ (x8_1 : Int) := of_decide_eq_true (by first | (with_reducible assumption) | assumption)
           have q567 : x8_1 < (l1.length : Int) := of_decide_eq_true (by first | (with_reducible assumption) | assumption)
           obtain ⟨ad567, A567_2, c567_2, A567_5, c567_5, e567, hx567_0, hx567_1, hx567_2, hx567_3, hx567_4, hx567_5, hl567_2, hi567_2, hl567_5, hi567_5⟩ := at_T32 HR1.out x8_1 p567 q567
           have hw567_5 := hx567_5
           have hw567_4 := hx567_4
           have hw567_3 := hx567_3
           have hw567_2 := hx567_2
           have hw567_1 := hx567_1
           have hw567_0 := hx567_0
           obtain rfl : ad565 = ad567 := (by injection e567)
           replace hx567_0 := cb_ HB hx567_0
           replace hx567_1 := cb_ HB hx567_1
           replace hx567_2 := cb_ HB hx567_2
           replace hx567_3 := cb_ HB hx567_3
           replace hx567_4 := cb_ HB hx567_4
           replace hx567_5 := cb_ HB hx567_5
           have HR567_2 := mk_ hi567_2
           have HC567_2 := mk_ hl567_2
           clear hi567_2 hl567_2
           have HR567_5 := mk_ hi567_5
           have HC567_5 := mk_ hl567_5
           clear hi567_5 hl567_5
           replace p567 := eq_true p567
           replace q567 := eq_true q567
           refine start_ (n := 11) (S := fun w' => w'.cell? ⟨gb560, 0, none⟩ = some (.slice A0_0 l0_0.length c0_0) ∧ w'.cell? ⟨gb560, 1, none⟩ = some (.slice A0_1 l0_1.length c0_1) ∧ w'.cell? ⟨gb560, 2, none⟩ = some (.int .i64 a0_2) ∧ w'.cell? ⟨gb560, 3, none⟩ = some (.slice A0_3 l0_3.length c0_3) ∧ w'.cell? (ad565.add ((x8_1).toNat * 6)) = some (.int .i64 ((rd_T32 l1 x8_1).f0)) ∧ w'.cell? ⟨(ad565.add ((x8_1).toNat * 6)).block, (ad565.add ((x8_1).toNat * 6)).off + 1, none⟩ = some (.string ((rd_T32 l1 x8_1).f1)) ∧ w'.cell? ⟨(ad565.add ((x8_1).toNat * 6)).block, (ad565.add ((x8_1).toNat * 6)).off + 2, none⟩ = some (.slice A567_2 ((rd_T32 l1 x8_1).f2).length c567_2) ∧ w'.cell? ⟨(ad565.add ((x8_1).toNat * 6)).block, (ad565.add ((x8_1).toNat * 6)).off + 3, none⟩ = some (.int .i64 ((rd_T32 l1 x8_1).f3)) ∧ w'.cell? ⟨(ad565.add ((x8_1).toNat * 6)).block, (ad565.add ((x8_1).toNat * 6)).off + 4, none⟩ = some (.int .i64 ((rd_T32 l1 x8_1).f4)) ∧ w'.cell? ⟨(ad565.add ((x8_1).toNat * 6)).block, (ad565.add ((x8_1).toNat * 6)).off + 5, none⟩ = some (.slice A567_5 ((rd_T32 l1 x8_1).f5).length c567_5)) (ds := []) #[false, false, false, false, false, false, false, false, false, false, false] (by kernel_rfl) rfl rfl ⟨(blk_cell BK560.out 0).trans rfl, (blk_cell BK560.out 1).trans rfl, (blk_cell BK560.out 2).trans rfl, (blk_cell BK560.out 3).trans rfl, ((HB.out.cell (World.block_lt_of_cell? w _ hw567_0)).trans hw567_0), ((HB.out.cell (World.block_lt_of_cell? w _ hw567_1)).trans hw567_1), ((HB.out.cell (World.block_lt_of_cell? w _ hw567_2)).trans hw567_2), ((HB.out.cell (World.block_lt_of_cell? w _ hw567_3)).trans hw567_3), ((HB.out.cell (World.block_lt_of_cell? w _ hw567_4)).trans hw567_4), ((HB.out.cell (World.block_lt_of_cell? w _ hw567_5)).trans hw567_5)⟩ (fun hHeld => ?_); refine with_tabW pentaglotlaw26_EvaluateLists.tab12 pentaglotlaw26_EvaluateLists.bits12 (fun HT_ HW_ => ?_)
           generalize w21.drew = w22 at HO_7 BK560 HB HR567_2 HR567_5 hx567_0 hx567_1 hx567_2 hx567_3 hx567_4 hx567_5 hHeld ⊢
           refine pu_ 1 (some 37) ?_
           refine pu_ 2 (some 38) ?_
           refine pu_ 3 (some 39) ?_
           refine tk_ 0 (some 36) hHeld ?_
           refine tk_ 4 (some 40) hHeld ?_
           refine on_ 5 (some 41) (fun K hK => ?_)
           refine goes_ Tryd.func18 (by kernel_rfl) rfl #[.agg #[.slice A0_0 l0_0.length c0_0, .slice A0_1 l0_1.length c0_1, .int .i64 a0_2, .slice A0_3 l0_3.length c0_3], .agg #[.int .i64 ((rd_T32 l1 x8_1).f0), .string ((rd_T32 l1 x8_1).f1), .slice A567_2 ((rd_T32 l1 x8_1).f2).length c567_2, .int .i64 ((rd_T32 l1 x8_1).f3), .int .i64 ((rd_T32 l1 x8_1).f4), .slice A567_5 ((rd_T32 l1 x8_1).f5).length c567_5]] (by rfl) rfl rfl (by (try simp only [List.map_toArray, List.map_cons, List.map_nil]); first | done | rfl | (simp only [List.length_drop, List.length_take]; rfl)) ?_
           with_reducible refine (evaluate_True.calls k1 _ _ l0_0 _ _ l0_1 a0_2 _ _ l0_3 ((rd_T32 l1 x8_1).f0) ((rd_T32 l1 x8_1).f1) _ _ ((rd_T32 l1 x8_1).f2) ((rd_T32 l1 x8_1).f3) ((rd_T32 l1 x8_1).f4) _ _ ((rd_T32 l1 x8_1).f5) t568 t569 _ ?side1 ?side2 ?side3 ?side4 ?side5 ?side6 ?side7 ?side8 ?side9 ?side10 A16.out (tb_on HTB.out (be1_ HB GE560))).mono ?_
           (case side1 => exact cs_ (Kd.C_below HR0_0.out HB.out))
           (case side2 => exact HC0_0.out)
           (case side3 => exact cs_ (Kd.C_below HR0_1.out HB.out))
           (case side4 => exact HC0_1.out)
           (case side5 => exact cs_ (Kd.C_below HR0_3.out HB.out))
           (case side6 => exact HC0_3.out)
           (case side7 => exact cs_ (Kd.C_below HR567_2.out HB.out))
           (case side8 => exact HC567_2.out)
           (case side9 => exact cs_ (Kd.C_below HR567_5.out HB.out))
           (case side10 => exact HC567_5.out)
           rintro e w23 ⟨rfl, hb⟩
           refine ⟨_, rfl, ?_⟩
           have n0_ := mk_ (Kd.R_below (rq_ HO_7) hb)
           have n1_ := mk_ (bb_ BK560 hb)
           have n2_ := mk_ (below_step (be1_ HB GE560) hb)
           clear HO_7
           clear BK560
           clear HB
           have HO_7 := n0_
           have BK560 := n1_
           have HB := n2_
           clear n0_ n1_ n2_
           (try clear hb)
           (try clear hb2)
           (try clear hk)
           (try clear hi)
           refine hK.out _ _ ⟨(blk_cell BK560.out 0).trans rfl, (blk_cell BK560.out 1).trans rfl, (blk_cell BK560.out 2).trans rfl, (blk_cell BK560.out 3).trans rfl, ((HB.out.cell (World.block_lt_of_cell? w _ hw567_0)).trans hw567_0), ((HB.out.cell (World.block_lt_of_cell? w _ hw567_1)).trans hw567_1), ((HB.out.cell (World.block_lt_of_cell? w _ hw567_2)).trans hw567_2), ((HB.out.cell (World.block_lt_of_cell? w _ hw567_3)).trans hw567_3), ((HB.out.cell (World.block_lt_of_cell? w _ hw567_4)).trans hw567_4), ((HB.out.cell (World.block_lt_of_cell? w _ hw567_5)).trans hw567_5)⟩ (fun hHeld => ?_)
           clear hK K
           refine no_ (N := some 41) ?_
           refine pu_ 6 (some 35) ?_
           refine pu_ 7 (some 42) ?_
           refine pu_ 8 (some 43) ?_
           refine pu_ 9 (some 9) ?_
           refine pu_ 10 (some 10) ?_
           refine done_ (done_of HT_.out (by kernel_rfl)) ?_
           try go_wp2_with (first | ((with_reducible refine gate_builtin (b := .append) (xs := #[.tmp 51, .tmp 53]) rfl ?_); (try (refine gate_guard (by rfl) ?_; dsimp only)); at_builtin; refine Kd.R_append Kd.bool (w0 := w) w.heap.size rfl (.tmp 51) (.tmp 53) 65 4 (.bool false) 1 rfl Tryd.underlying65 info4 rfl (by decide) (by omega) u7 x7_1 t568 [.bool t568] (fun _ => True) (fun _ => False) rfl rfl ?aP (fun _ hk => hk.elim) ?aF ?aO ?aB ?aS ?aL ?_; (case aP => exact rfl); (case aB => exact (be1_ HB GE560)); (case aF => exact (fun _ _ => trivial)); (case aO => exact (rq_ HO_7)); (case aS => exact (below_size (be1_ HB GE560))); (case aL => have := LMc19.out; omega); intro v571 w24 ho hb hg hat; rw [← Ny570.out] at ho; have HO572 := mk_ (ho); replace BK560 := mk_ (blk_grown (g := gb560) (o := .cells #[.slice A0_0 l0_0.length c0_0, .slice A0_1 l0_1.length c0_1, .int .i64 a0_2, .slice A0_3 l0_3.length c0_3] 28 (0, 0)) (bq_ BK560) hg (Kd.R_ne HO_7.out BK560.out (by decide))); replace HB := mk_ (hb); clear HO_7; clear ho hb hg hat))
           go_roundg k1
           case measure => have := HK1.out; omega
           case rel => exact ⟨(t568), (t569), (y570), (wrap64 (x8_1 + 1)), fi_, fi_, fi_, H', ⟨by have := HK1.out; omega⟩, ⟨rq_ HO572⟩, ⟨bq_ BK560⟩, ⟨be1_ HB GE560⟩⟩
          ·rw [if_neg c19] at H
           exact absurd H (by simp)
         ·replace c18 := Bool.eq_false_iff.mpr c18
          subst c18
          rw [if_neg nf_] at H
          by_cases c25 : x7_1.length < 140737488355328
          ·rw [if_pos c25] at H
           have LMc25 := mk_ c25
           clear c25
           obtain ⟨y573, hy573⟩ : ∃ y_ : List Bool, y_ = (x7_1 ++ [t568]) := ⟨_, rfl⟩
           replace H : (pentaglotlaw26_EvaluateLists.l0 k1 l1 false t569 y573 (wrap64 (x8_1 + 1)) l0_0 l0_1 a0_2 l0_3) = some r := by first | (rw [hy573]; with_reducible exact H) | (have H2_ := (Option.bind_some _ _).symm.trans H; rw [hy573]; with_reducible exact H2_) | (have H2_ := (Option.bind_some _ _).symm.trans H; with_reducible exact H2_) | with_reducible exact H | (rw [hy573]; exact H) | exact H
           have Ny573 := mk_ hy573
           clear hy573
           have H' := mk_ H
           clear H
           try go_wp2
           have n0_ := mk_ (Kd.R_drew HO_7.out)
           have n1_ := mk_ (blk_drew BK560.out)
           have n2_ := mk_ (below_drew1 HB.out)
           clear HO_7
           clear BK560
           clear HB
           have HO_7 := n0_
           have BK560 := n1_
           have HB := n2_
           clear n0_ n1_ n2_
           have p565 : 0 ≤ (x8_1 : Int) := of_decide_eq_true (by first | (with_reducible assumption) | assumption)
           have q565 : x8_1 < (l1.length : Int) := of_decide_eq_true (by first | (with_reducible assumption) | assumption)
           obtain ⟨ad565, A565_2, c565_2, A565_5, c565_5, e565, hx565_0, hx565_1, hx565_2, hx565_3, hx565_4, hx565_5, hl565_2, hi565_2, hl565_5, hi565_5⟩ := at_T32 HR1.out x8_1 p565 q565
           have hw565_5 := hx565_5
           have hw565_4 := hx565_4
           have hw565_3 := hx565_3
           have hw565_2 := hx565_2
           have hw565_1 := hx565_1
           have hw565_0 := hx565_0
           cases e565
           replace hx565_0 := cb_ HB hx565_0
           replace hx565_1 := cb_ HB hx565_1
           replace hx565_2 := cb_ HB hx565_2
           replace hx565_3 := cb_ HB hx565_3
           replace hx565_4 := cb_ HB hx565_4
           replace hx565_5 := cb_ HB hx565_5
           have HR565_2 := mk_ hi565_2
           have HC565_2 := mk_ hl565_2
           clear hi565_2 hl565_2
           have HR565_5 := mk_ hi565_5
           have HC565_5 := mk_ hl565_5
           clear hi565_5 hl565_5
           replace p565 := eq_true p565
           replace q565 := eq_true q565
           refine start_ (n := 7) (S := fun w' => w'.cell? ⟨gb560, 0, none⟩ = some (.slice A0_0 l0_0.length c0_0) ∧ w'.cell? ⟨gb560, 1, none⟩ = some (.slice A0_1 l0_1.length c0_1) ∧ w'.cell? ⟨gb560, 2, none⟩ = some (.int .i64 a0_2) ∧ w'.cell? ⟨gb560, 3, none⟩ = some (.slice A0_3 l0_3.length c0_3) ∧ w'.cell? (ad565.add ((x8_1).toNat * 6)) = some (.int .i64 ((rd_T32 l1 x8_1).f0)) ∧ w'.cell? ⟨(ad565.add ((x8_1).toNat * 6)).block, (ad565.add ((x8_1).toNat * 6)).off + 1, none⟩ = some (.string ((rd_T32 l1 x8_1).f1)) ∧ w'.cell? ⟨(ad565.add ((x8_1).toNat * 6)).block, (ad565.add ((x8_1).toNat * 6)).off + 2, none⟩ = some (.slice A565_2 ((rd_T32 l1 x8_1).f2).length c565_2) ∧ w'.cell? ⟨(ad565.add ((x8_1).toNat * 6)).block, (ad565.add ((x8_1).toNat * 6)).off + 3, none⟩ = some (.int .i64 ((rd_T32 l1 x8_1).f3)) ∧ w'.cell? ⟨(ad565.add ((x8_1).toNat * 6)).block, (ad565.add ((x8_1).toNat * 6)).off + 4, none⟩ = some (.int .i64 ((rd_T32 l1 x8_1).f4)) ∧ w'.cell? ⟨(ad565.add ((x8_1).toNat * 6)).block, (ad565.add ((x8_1).toNat * 6)).off + 5, none⟩ = some (.slice A565_5 ((rd_T32 l1 x8_1).f5).length c565_5)) (ds := []) #[false, false, false, false, false, false, false] (by kernel_rfl) rfl rfl ⟨(blk_cell BK560.out 0).trans rfl, (blk_cell BK560.out 1).trans rfl, (blk_cell BK560.out 2).trans rfl, (blk_cell BK560.out 3).trans rfl, ((HB.out.cell (World.block_lt_of_cell? w _ hw565_0)).trans hw565_0), ((HB.out.cell (World.block_lt_of_cell? w _ hw565_1)).trans hw565_1), ((HB.out.cell (World.block_lt_of_cell? w _ hw565_2)).trans hw565_2), ((HB.out.cell (World.block_lt_of_cell? w _ hw565_3)).trans hw565_3), ((HB.out.cell (World.block_lt_of_cell? w _ hw565_4)).trans hw565_4), ((HB.out.cell (World.block_lt_of_cell? w _ hw565_5)).trans hw565_5)⟩ (fun hHeld => ?_)
           generalize wr.drew = w26 at HO_7 BK560 HB HR565_2 HR565_5 hx565_0 hx565_1 hx565_2 hx565_3 hx565_4 hx565_5 hHeld ⊢
           refine pu_ 1 (some 29) ?_
           refine pu_ 2 (some 30) ?_
           refine pu_ 3 (some 31) ?_
           refine tk_ 0 (some 28) hHeld ?_
           refine tk_ 4 (some 32) hHeld ?_
           refine on_ 5 (some 33) (fun K hK => ?_)
           refine goes_ Tryd.func13 (by kernel_rfl) rfl #[.agg #[.slice A0_0 l0_0.length c0_0, .slice A0_1 l0_1.length c0_1, .int .i64 a0_2, .slice A0_3 l0_3.length c0_3], .agg #[.int .i64 ((rd_T32 l1 x8_1).f0), .string ((rd_T32 l1 x8_1).f1), .slice A565_2 ((rd_T32 l1 x8_1).f2).length c565_2, .int .i64 ((rd_T32 l1 x8_1).f3), .int .i64 ((rd_T32 l1 x8_1).f4), .slice A565_5 ((rd_T32 l1 x8_1).f5).length c565_5]] (by rfl) rfl rfl (by (try simp only [List.map_toArray, List.map_cons, List.map_nil]); first | done | rfl | (simp only [List.length_drop, List.length_take]; rfl)) ?_
           with_reducible refine (pentaglotref26_Light.calls k1 _ _ l0_0 _ _ l0_1 a0_2 _ _ l0_3 ((rd_T32 l1 x8_1).f0) ((rd_T32 l1 x8_1).f1) _ _ ((rd_T32 l1 x8_1).f2) ((rd_T32 l1 x8_1).f3) ((rd_T32 l1 x8_1).f4) _ _ ((rd_T32 l1 x8_1).f5) true _ ?side1 ?side2 ?side3 ?side4 ?side5 ?side6 ?side7 ?side8 ?side9 ?side10 A14.out).mono ?_
           (case side1 => exact cs_ (Kd.C_below HR0_0.out HB.out))
           (case side2 => exact HC0_0.out)
           (case side3 => exact cs_ (Kd.C_below HR0_1.out HB.out))
           (case side4 => exact HC0_1.out)
           (case side5 => exact cs_ (Kd.C_below HR0_3.out HB.out))
           (case side6 => exact HC0_3.out)
           (case side7 => exact cs_ (Kd.C_below HR565_2.out HB.out))
           (case side8 => exact HC565_2.out)
           (case side9 => exact cs_ (Kd.C_below HR565_5.out HB.out))
           (case side10 => exact HC565_5.out)
           rintro e w27 ⟨rfl, hb⟩
           refine ⟨_, rfl, ?_⟩
           have n0_ := mk_ (Kd.R_below (rq_ HO_7) hb)
           have n1_ := mk_ (bb_ BK560 hb)
           have n2_ := mk_ (below_step (be1_ HB GE560) hb)
           clear HO_7
           clear BK560
           clear HB
           have HO_7 := n0_
           have BK560 := n1_
           have HB := n2_
           clear n0_ n1_ n2_
           (try clear hb)
           (try clear hb2)
           (try clear hk)
           (try clear hi)
           refine hK.out _ _ ⟨(blk_cell BK560.out 0).trans rfl, (blk_cell BK560.out 1).trans rfl, (blk_cell BK560.out 2).trans rfl, (blk_cell BK560.out 3).trans rfl, ((HB.out.cell (World.block_lt_of_cell? w _ hw565_0)).trans hw565_0), ((HB.out.cell (World.block_lt_of_cell? w _ hw565_1)).trans hw565_1), ((HB.out.cell (World.block_lt_of_cell? w _ hw565_2)).trans hw565_2), ((HB.out.cell (World.block_lt_of_cell? w _ hw565_3)).trans hw565_3), ((HB.out.cell (World.block_lt_of_cell? w _ hw565_4)).trans hw565_4), ((HB.out.cell (World.block_lt_of_cell? w _ hw565_5)).trans hw565_5)⟩ (fun hHeld => ?_)
           clear hK K
           refine no_ (N := some 33) ?_
           refine pu_ 6 (some 34) ?_
           refine done_ (by kernel_rfl) ?_
           try go_wp2
           have n0_ := mk_ (Kd.R_drew HO_7.out)
           have n1_ := mk_ (blk_drew BK560.out)
           have n2_ := mk_ (below_drew1 HB.out)
           clear HO_7
           clear BK560
           clear HB
           have HO_7 := n0_
           have BK560 := n1_
           have HB := n2_
           clear n0_ n1_ n2_
           have p567 : 0 ≤ (x8_1 : Int) := of_decide_eq_true (by first | (with_reducible assumption) | assumption)
           have q567 : x8_1 < (l1.length : Int) := of_decide_eq_true (by first | (with_reducible assumption) | assumption)
           obtain ⟨ad567, A567_2, c567_2, A567_5, c567_5, e567, hx567_0, hx567_1, hx567_2, hx567_3, hx567_4, hx567_5, hl567_2, hi567_2, hl567_5, hi567_5⟩ := at_T32 HR1.out x8_1 p567 q567
           have hw567_5 := hx567_5
           have hw567_4 := hx567_4
           have hw567_3 := hx567_3
           have hw567_2 := hx567_2
           have hw567_1 := hx567_1
           have hw567_0 := hx567_0
           obtain rfl : ad565 = ad567 := (by injection e567)
           replace hx567_0 := cb_ HB hx567_0
           replace hx567_1 := cb_ HB hx567_1
           replace hx567_2 := cb_ HB hx567_2
           replace hx567_3 := cb_ HB hx567_3
           replace hx567_4 := cb_ HB hx567_4
           replace hx567_5 := cb_ HB hx567_5
           have HR567_2 := mk_ hi567_2
           have HC567_2 := mk_ hl567_2
           clear hi567_2 hl567_2
           have HR567_5 := mk_ hi567_5
           have HC567_5 := mk_ hl567_5
           clear hi567_5 hl567_5
           replace p567 := eq_true p567
           replace q567 := eq_true q567
           refine start_ (n := 11) (S := fun w' => w'.cell? ⟨gb560, 0, none⟩ = some (.slice A0_0 l0_0.length c0_0) ∧ w'.cell? ⟨gb560, 1, none⟩ = some (.slice A0_1 l0_1.length c0_1) ∧ w'.cell? ⟨gb560, 2, none⟩ = some (.int .i64 a0_2) ∧ w'.cell? ⟨gb560, 3, none⟩ = some (.slice A0_3 l0_3.length c0_3) ∧ w'.cell? (ad565.add ((x8_1).toNat * 6)) = some (.int .i64 ((rd_T32 l1 x8_1).f0)) ∧ w'.cell? ⟨(ad565.add ((x8_1).toNat * 6)).block, (ad565.add ((x8_1).toNat * 6)).off + 1, none⟩ = some (.string ((rd_T32 l1 x8_1).f1)) ∧ w'.cell? ⟨(ad565.add ((x8_1).toNat * 6)).block, (ad565.add ((x8_1).toNat * 6)).off + 2, none⟩ = some (.slice A567_2 ((rd_T32 l1 x8_1).f2).length c567_2) ∧ w'.cell? ⟨(ad565.add ((x8_1).toNat * 6)).block, (ad565.add ((x8_1).toNat * 6)).off + 3, none⟩ = some (.int .i64 ((rd_T32 l1 x8_1).f3)) ∧ w'.cell? ⟨(ad565.add ((x8_1).toNat * 6)).block, (ad565.add ((x8_1).toNat * 6)).off + 4, none⟩ = some (.int .i64 ((rd_T32 l1 x8_1).f4)) ∧ w'.cell? ⟨(ad565.add ((x8_1).toNat * 6)).block, (ad565.add ((x8_1).toNat * 6)).off + 5, none⟩ = some (.slice A567_5 ((rd_T32 l1 x8_1).f5).length c567_5)) (ds := []) #[false, false, false, false, false, false, false, false, false, false, false] (by kernel_rfl) rfl rfl ⟨(blk_cell BK560.out 0).trans rfl, (blk_cell BK560.out 1).trans rfl, (blk_cell BK560.out 2).trans rfl, (blk_cell BK560.out 3).trans rfl, ((HB.out.cell (World.block_lt_of_cell? w _ hw567_0)).trans hw567_0), ((HB.out.cell (World.block_lt_of_cell? w _ hw567_1)).trans hw567_1), ((HB.out.cell (World.block_lt_of_cell? w _ hw567_2)).trans hw567_2), ((HB.out.cell (World.block_lt_of_cell? w _ hw567_3)).trans hw567_3), ((HB.out.cell (World.block_lt_of_cell? w _ hw567_4)).trans hw567_4), ((HB.out.cell (World.block_lt_of_cell? w _ hw567_5)).trans hw567_5)⟩ (fun hHeld => ?_); refine with_tabW pentaglotlaw26_EvaluateLists.tab12 pentaglotlaw26_EvaluateLists.bits12 (fun HT_ HW_ => ?_)
           generalize w27.drew = w28 at HO_7 BK560 HB HR567_2 HR567_5 hx567_0 hx567_1 hx567_2 hx567_3 hx567_4 hx567_5 hHeld ⊢
           refine pu_ 1 (some 37) ?_
           refine pu_ 2 (some 38) ?_
           refine pu_ 3 (some 39) ?_
           refine tk_ 0 (some 36) hHeld ?_
           refine tk_ 4 (some 40) hHeld ?_
           refine on_ 5 (some 41) (fun K hK => ?_)
           refine goes_ Tryd.func18 (by kernel_rfl) rfl #[.agg #[.slice A0_0 l0_0.length c0_0, .slice A0_1 l0_1.length c0_1, .int .i64 a0_2, .slice A0_3 l0_3.length c0_3], .agg #[.int .i64 ((rd_T32 l1 x8_1).f0), .string ((rd_T32 l1 x8_1).f1), .slice A567_2 ((rd_T32 l1 x8_1).f2).length c567_2, .int .i64 ((rd_T32 l1 x8_1).f3), .int .i64 ((rd_T32 l1 x8_1).f4), .slice A567_5 ((rd_T32 l1 x8_1).f5).length c567_5]] (by rfl) rfl rfl (by (try simp only [List.map_toArray, List.map_cons, List.map_nil]); first | done | rfl | (simp only [List.length_drop, List.length_take]; rfl)) ?_
           with_reducible refine (evaluate_True.calls k1 _ _ l0_0 _ _ l0_1 a0_2 _ _ l0_3 ((rd_T32 l1 x8_1).f0) ((rd_T32 l1 x8_1).f1) _ _ ((rd_T32 l1 x8_1).f2) ((rd_T32 l1 x8_1).f3) ((rd_T32 l1 x8_1).f4) _ _ ((rd_T32 l1 x8_1).f5) t568 t569 _ ?side1 ?side2 ?side3 ?side4 ?side5 ?side6 ?side7 ?side8 ?side9 ?side10 A16.out (tb_on HTB.out (be1_ HB GE560))).mono ?_
           (case side1 => exact cs_ (Kd.C_below HR0_0.out HB.out))
           (case side2 => exact HC0_0.out)
           (case side3 => exact cs_ (Kd.C_below HR0_1.out HB.out))
           (case side4 => exact HC0_1.out)
           (case side5 => exact cs_ (Kd.C_below HR0_3.out HB.out))
           (case side6 => exact HC0_3.out)
           (case side7 => exact cs_ (Kd.C_below HR567_2.out HB.out))
           (case side8 => exact HC567_2.out)
           (case side9 => exact cs_ (Kd.C_below HR567_5.out HB.out))
           (case side10 => exact HC567_5.out)
           rintro e w29 ⟨rfl, hb⟩
           refine ⟨_, rfl, ?_⟩
           have n0_ := mk_ (Kd.R_below (rq_ HO_7) hb)
           have n1_ := mk_ (bb_ BK560 hb)
           have n2_ := mk_ (below_step (be1_ HB GE560) hb)
           clear HO_7
           clear BK560
           clear HB
           have HO_7 := n0_
           have BK560 := n1_
           have HB := n2_
           clear n0_ n1_ n2_
           (try clear hb)
           (try clear hb2)
           (try clear hk)
           (try clear hi)
           refine hK.out _ _ ⟨(blk_cell BK560.out 0).trans rfl, (blk_cell BK560.out 1).trans rfl, (blk_cell BK560.out 2).trans rfl, (blk_cell BK560.out 3).trans rfl, ((HB.out.cell (World.block_lt_of_cell? w _ hw567_0)).trans hw567_0), ((HB.out.cell (World.block_lt_of_cell? w _ hw567_1)).trans hw567_1), ((HB.out.cell (World.block_lt_of_cell? w _ hw567_2)).trans hw567_2), ((HB.out.cell (World.block_lt_of_cell? w _ hw567_3)).trans hw567_3), ((HB.out.cell (World.block_lt_of_cell? w _ hw567_4)).trans hw567_4), ((HB.out.cell (World.block_lt_of_cell? w _ hw567_5)).trans hw567_5)⟩ (fun hHeld => ?_)
           clear hK K
           refine no_ (N := some 41) ?_
           refine pu_ 6 (some 35) ?_
           refine pu_ 7 (some 42) ?_
           refine pu_ 8 (some 43) ?_
           refine pu_ 9 (some 9) ?_
           refine pu_ 10 (some 10) ?_
           refine done_ (done_of HT_.out (by kernel_rfl)) ?_
           try go_wp2_with (first | ((with_reducible refine gate_builtin (b := .append) (xs := #[.tmp 51, .tmp 53]) rfl ?_); (try (refine gate_guard (by rfl) ?_; dsimp only)); at_builtin; refine Kd.R_append Kd.bool (w0 := w) w.heap.size rfl (.tmp 51) (.tmp 53) 65 4 (.bool false) 1 rfl Tryd.underlying65 info4 rfl (by decide) (by omega) u7 x7_1 t568 [.bool t568] (fun _ => True) (fun _ => False) rfl rfl ?aP (fun _ hk => hk.elim) ?aF ?aO ?aB ?aS ?aL ?_; (case aP => exact rfl); (case aB => exact (be1_ HB GE560)); (case aF => exact (fun _ _ => trivial)); (case aO => exact (rq_ HO_7)); (case aS => exact (below_size (be1_ HB GE560))); (case aL => have := LMc25.out; omega); intro v574 w30 ho hb hg hat; rw [← Ny573.out] at ho; have HO575 := mk_ (ho); replace BK560 := mk_ (blk_grown (g := gb560) (o := .cells #[.slice A0_0 l0_0.length c0_0, .slice A0_1 l0_1.length c0_1, .int .i64 a0_2, .slice A0_3 l0_3.length c0_3] 28 (0, 0)) (bq_ BK560) hg (Kd.R_ne HO_7.out BK560.out (by decide))); replace HB := mk_ (hb); clear HO_7; clear ho hb hg hat))
           go_roundg k1
           case measure => have := HK1.out; omega
           case rel => exact ⟨(false), (t569), (y573), (wrap64 (x8_1 + 1)), fi_, fi_, fi_, H', ⟨by have := HK1.out; omega⟩, ⟨rq_ HO575⟩, ⟨bq_ BK560⟩, ⟨be1_ HB GE560⟩⟩
          ·rw [if_neg c25] at H
           exact absurd H (by simp)
        ·rw [if_neg c17] at H
         obtain ⟨c17b0, c17b1⟩ := en_ c17
         by_cases c31 : x5_1 = true
         ·subst c31
          rw [if_pos rfl] at H
          by_cases c32 : x7_1.length < 140737488355328
          ·rw [if_pos c32] at H
           have LMc32 := mk_ c32
           clear c32
           obtain ⟨y576, hy576⟩ : ∃ y_ : List Bool, y_ = (x7_1 ++ [t568]) := ⟨_, rfl⟩
           replace H : (pentaglotlaw26_EvaluateLists.l0 k1 l1 t568 x6_1 y576 (wrap64 (x8_1 + 1)) l0_0 l0_1 a0_2 l0_3) = some r := by first | (rw [hy576]; with_reducible exact H) | (have H2_ := (Option.bind_some _ _).symm.trans H; rw [hy576]; with_reducible exact H2_) | (have H2_ := (Option.bind_some _ _).symm.trans H; with_reducible exact H2_) | with_reducible exact H | (rw [hy576]; exact H) | exact H
           have Ny576 := mk_ hy576
           clear hy576
           have H' := mk_ H
           clear H
           try go_wp2
           have n0_ := mk_ (Kd.R_drew HO_7.out)
           have n1_ := mk_ (blk_drew BK560.out)
           have n2_ := mk_ (below_drew1 HB.out)
           clear HO_7
           clear BK560
           clear HB
           have HO_7 := n0_
           have BK560 := n1_
           have HB := n2_
           clear n0_ n1_ n2_
           have p565 : 0 ≤ (x8_1 : Int) := of_decide_eq_true (by first | (with_reducible assumption) | assumption)
           have q565 : x8_1 < (l1.length : Int) := of_decide_eq_true (by first | (with_reducible assumption) | assumption)
           obtain ⟨ad565, A565_2, c565_2, A565_5, c565_5, e565, hx565_0, hx565_1, hx565_2, hx565_3, hx565_4, hx565_5, hl565_2, hi565_2, hl565_5, hi565_5⟩ := at_T32 HR1.out x8_1 p565 q565
           have hw565_5 := hx565_5
           have hw565_4 := hx565_4
           have hw565_3 := hx565_3
           have hw565_2 := hx565_2
           have hw565_1 := hx565_1
           have hw565_0 := hx565_0
           cases e565
           replace hx565_0 := cb_ HB hx565_0
           replace hx565_1 := cb_ HB hx565_1
           replace hx565_2 := cb_ HB hx565_2
           replace hx565_3 := cb_ HB hx565_3
           replace hx565_4 := cb_ HB hx565_4
           replace hx565_5 := cb_ HB hx565_5
           have HR565_2 := mk_ hi565_2
           have HC565_2 := mk_ hl565_2
           clear hi565_2 hl565_2
           have HR565_5 := mk_ hi565_5
           have HC565_5 := mk_ hl565_5
           clear hi565_5 hl565_5
           replace p565 := eq_true p565
           replace q565 := eq_true q565
           refine start_ (n := 7) (S := fun w' => w'.cell? ⟨gb560, 0, none⟩ = some (.slice A0_0 l0_0.length c0_0) ∧ w'.cell? ⟨gb560, 1, none⟩ = some (.slice A0_1 l0_1.length c0_1) ∧ w'.cell? ⟨gb560, 2, none⟩ = some (.int .i64 a0_2) ∧ w'.cell? ⟨gb560, 3, none⟩ = some (.slice A0_3 l0_3.length c0_3) ∧ w'.cell? (ad565.add ((x8_1).toNat * 6)) = some (.int .i64 ((rd_T32 l1 x8_1).f0)) ∧ w'.cell? ⟨(ad565.add ((x8_1).toNat * 6)).block, (ad565.add ((x8_1).toNat * 6)).off + 1, none⟩ = some (.string ((rd_T32 l1 x8_1).f1)) ∧ w'.cell? ⟨(ad565.add ((x8_1).toNat * 6)).block, (ad565.add ((x8_1).toNat * 6)).off + 2, none⟩ = some (.slice A565_2 ((rd_T32 l1 x8_1).f2).length c565_2) ∧ w'.cell? ⟨(ad565.add ((x8_1).toNat * 6)).block, (ad565.add ((x8_1).toNat * 6)).off + 3, none⟩ = some (.int .i64 ((rd_T32 l1 x8_1).f3)) ∧ w'.cell? ⟨(ad565.add ((x8_1).toNat * 6)).block, (ad565.add ((x8_1).toNat * 6)).off + 4, none⟩ = some (.int .i64 ((rd_T32 l1 x8_1).f4)) ∧ w'.cell? ⟨(ad565.add ((x8_1).toNat * 6)).block, (ad565.add ((x8_1).toNat * 6)).off + 5, none⟩ = some (.slice A565_5 ((rd_T32 l1 x8_1).f5).length c565_5)) (ds := []) #[false, false, false, false, false, false, false] (by kernel_rfl) rfl rfl ⟨(blk_cell BK560.out 0).trans rfl, (blk_cell BK560.out 1).trans rfl, (blk_cell BK560.out 2).trans rfl, (blk_cell BK560.out 3).trans rfl, ((HB.out.cell (World.block_lt_of_cell? w _ hw565_0)).trans hw565_0), ((HB.out.cell (World.block_lt_of_cell? w _ hw565_1)).trans hw565_1), ((HB.out.cell (World.block_lt_of_cell? w _ hw565_2)).trans hw565_2), ((HB.out.cell (World.block_lt_of_cell? w _ hw565_3)).trans hw565_3), ((HB.out.cell (World.block_lt_of_cell? w _ hw565_4)).trans hw565_4), ((HB.out.cell (World.block_lt_of_cell? w _ hw565_5)).trans hw565_5)⟩ (fun hHeld => ?_)
           generalize wr.drew = w33 at HO_7 BK560 HB HR565_2 HR565_5 hx565_0 hx565_1 hx565_2 hx565_3 hx565_4 hx565_5 hHeld ⊢
           refine pu_ 1 (some 29) ?_
           refine pu_ 2 (some 30) ?_
           refine pu_ 3 (some 31) ?_
           refine tk_ 0 (some 28) hHeld ?_
           refine tk_ 4 (some 32) hHeld ?_
           refine on_ 5 (some 33) (fun K hK => ?_)
           refine goes_ Tryd.func13 (by kernel_rfl) rfl #[.agg #[.slice A0_0 l0_0.length c0_0, .slice A0_1 l0_1.length c0_1, .int .i64 a0_2, .slice A0_3 l0_3.length c0_3], .agg #[.int .i64 ((rd_T32 l1 x8_1).f0), .string ((rd_T32 l1 x8_1).f1), .slice A565_2 ((rd_T32 l1 x8_1).f2).length c565_2, .int .i64 ((rd_T32 l1 x8_1).f3), .int .i64 ((rd_T32 l1 x8_1).f4), .slice A565_5 ((rd_T32 l1 x8_1).f5).length c565_5]] (by rfl) rfl rfl (by (try simp only [List.map_toArray, List.map_cons, List.map_nil]); first | done | rfl | (simp only [List.length_drop, List.length_take]; rfl)) ?_
           with_reducible refine (pentaglotref26_Light.calls k1 _ _ l0_0 _ _ l0_1 a0_2 _ _ l0_3 ((rd_T32 l1 x8_1).f0) ((rd_T32 l1 x8_1).f1) _ _ ((rd_T32 l1 x8_1).f2) ((rd_T32 l1 x8_1).f3) ((rd_T32 l1 x8_1).f4) _ _ ((rd_T32 l1 x8_1).f5) true _ ?side1 ?side2 ?side3 ?side4 ?side5 ?side6 ?side7 ?side8 ?side9 ?side10 A14.out).mono ?_
           (case side1 => exact cs_ (Kd.C_below HR0_0.out HB.out))
           (case side2 => exact HC0_0.out)
           (case side3 => exact cs_ (Kd.C_below HR0_1.out HB.out))
           (case side4 => exact HC0_1.out)
           (case side5 => exact cs_ (Kd.C_below HR0_3.out HB.out))
           (case side6 => exact HC0_3.out)
           (case side7 => exact cs_ (Kd.C_below HR565_2.out HB.out))
           (case side8 => exact HC565_2.out)
           (case side9 => exact cs_ (Kd.C_below HR565_5.out HB.out))
           (case side10 => exact HC565_5.out)
           rintro e w34 ⟨rfl, hb⟩
           refine ⟨_, rfl, ?_⟩
           have n0_ := mk_ (Kd.R_below (rq_ HO_7) hb)
           have n1_ := mk_ (bb_ BK560 hb)
           have n2_ := mk_ (below_step (be1_ HB GE560) hb)
           clear HO_7
           clear BK560
           clear HB
           have HO_7 := n0_
           have BK560 := n1_
           have HB := n2_
           clear n0_ n1_ n2_
           (try clear hb)
           (try clear hb2)
           (try clear hk)
           (try clear hi)
           refine hK.out _ _ ⟨(blk_cell BK560.out 0).trans rfl, (blk_cell BK560.out 1).trans rfl, (blk_cell BK560.out 2).trans rfl, (blk_cell BK560.out 3).trans rfl, ((HB.out.cell (World.block_lt_of_cell? w _ hw565_0)).trans hw565_0), ((HB.out.cell (World.block_lt_of_cell? w _ hw565_1)).trans hw565_1), ((HB.out.cell (World.block_lt_of_cell? w _ hw565_2)).trans hw565_2), ((HB.out.cell (World.block_lt_of_cell? w _ hw565_3)).trans hw565_3), ((HB.out.cell (World.block_lt_of_cell? w _ hw565_4)).trans hw565_4), ((HB.out.cell (World.block_lt_of_cell? w _ hw565_5)).trans hw565_5)⟩ (fun hHeld => ?_)
           clear hK K
           refine no_ (N := some 33) ?_
           refine pu_ 6 (some 34) ?_
           refine done_ (by kernel_rfl) ?_
           try go_wp2
           have n0_ := mk_ (Kd.R_drew HO_7.out)
           have n1_ := mk_ (blk_drew BK560.out)
           have n2_ := mk_ (below_drew1 HB.out)
           clear HO_7
           clear BK560
           clear HB
           have HO_7 := n0_
           have BK560 := n1_
           have HB := n2_
           clear n0_ n1_ n2_
           have p567 : 0 ≤ (x8_1 : Int) := of_decide_eq_true (by first | (with_reducible assumption) | assumption)
           have q567 : x8_1 < (l1.length : Int) := of_decide_eq_true (by first | (with_reducible assumption) | assumption)
           obtain ⟨ad567, A567_2, c567_2, A567_5, c567_5, e567, hx567_0, hx567_1, hx567_2, hx567_3, hx567_4, hx567_5, hl567_2, hi567_2, hl567_5, hi567_5⟩ := at_T32 HR1.out x8_1 p567 q567
           have hw567_5 := hx567_5
           have hw567_4 := hx567_4
           have hw567_3 := hx567_3
           have hw567_2 := hx567_2
           have hw567_1 := hx567_1
           have hw567_0 := hx567_0
           obtain rfl : ad565 = ad567 := (by injection e567)
           replace hx567_0 := cb_ HB hx567_0
           replace hx567_1 := cb_ HB hx567_1
           replace hx567_2 := cb_ HB hx567_2
           replace hx567_3 := cb_ HB hx567_3
           replace hx567_4 := cb_ HB hx567_4
           replace hx567_5 := cb_ HB hx567_5
           have HR567_2 := mk_ hi567_2
           have HC567_2 := mk_ hl567_2
           clear hi567_2 hl567_2
           have HR567_5 := mk_ hi567_5
           have HC567_5 := mk_ hl567_5
           clear hi567_5 hl567_5
           replace p567 := eq_true p567
           replace q567 := eq_true q567
           refine start_ (n := 11) (S := fun w' => w'.cell? ⟨gb560, 0, none⟩ = some (.slice A0_0 l0_0.length c0_0) ∧ w'.cell? ⟨gb560, 1, none⟩ = some (.slice A0_1 l0_1.length c0_1) ∧ w'.cell? ⟨gb560, 2, none⟩ = some (.int .i64 a0_2) ∧ w'.cell? ⟨gb560, 3, none⟩ = some (.slice A0_3 l0_3.length c0_3) ∧ w'.cell? (ad565.add ((x8_1).toNat * 6)) = some (.int .i64 ((rd_T32 l1 x8_1).f0)) ∧ w'.cell? ⟨(ad565.add ((x8_1).toNat * 6)).block, (ad565.add ((x8_1).toNat * 6)).off + 1, none⟩ = some (.string ((rd_T32 l1 x8_1).f1)) ∧ w'.cell? ⟨(ad565.add ((x8_1).toNat * 6)).block, (ad565.add ((x8_1).toNat * 6)).off + 2, none⟩ = some (.slice A567_2 ((rd_T32 l1 x8_1).f2).length c567_2) ∧ w'.cell? ⟨(ad565.add ((x8_1).toNat * 6)).block, (ad565.add ((x8_1).toNat * 6)).off + 3, none⟩ = some (.int .i64 ((rd_T32 l1 x8_1).f3)) ∧ w'.cell? ⟨(ad565.add ((x8_1).toNat * 6)).block, (ad565.add ((x8_1).toNat * 6)).off + 4, none⟩ = some (.int .i64 ((rd_T32 l1 x8_1).f4)) ∧ w'.cell? ⟨(ad565.add ((x8_1).toNat * 6)).block, (ad565.add ((x8_1).toNat * 6)).off + 5, none⟩ = some (.slice A567_5 ((rd_T32 l1 x8_1).f5).length c567_5)) (ds := []) #[false, false, false, false, false, false, false, false, false, false, false] (by kernel_rfl) rfl rfl ⟨(blk_cell BK560.out 0).trans rfl, (blk_cell BK560.out 1).trans rfl, (blk_cell BK560.out 2).trans rfl, (blk_cell BK560.out 3).trans rfl, ((HB.out.cell (World.block_lt_of_cell? w _ hw567_0)).trans hw567_0), ((HB.out.cell (World.block_lt_of_cell? w _ hw567_1)).trans hw567_1), ((HB.out.cell (World.block_lt_of_cell? w _ hw567_2)).trans hw567_2), ((HB.out.cell (World.block_lt_of_cell? w _ hw567_3)).trans hw567_3), ((HB.out.cell (World.block_lt_of_cell? w _ hw567_4)).trans hw567_4), ((HB.out.cell (World.block_lt_of_cell? w _ hw567_5)).trans hw567_5)⟩ (fun hHeld => ?_); refine with_tabW pentaglotlaw26_EvaluateLists.tab12 pentaglotlaw26_EvaluateLists.bits12 (fun HT_ HW_ => ?_)
           generalize w34.drew = w35 at HO_7 BK560 HB HR567_2 HR567_5 hx567_0 hx567_1 hx567_2 hx567_3 hx567_4 hx567_5 hHeld ⊢
           refine pu_ 1 (some 37) ?_
           refine pu_ 2 (some 38) ?_
           refine pu_ 3 (some 39) ?_
           refine tk_ 0 (some 36) hHeld ?_
           refine tk_ 4 (some 40) hHeld ?_
           refine on_ 5 (some 41) (fun K hK => ?_)
           refine goes_ Tryd.func18 (by kernel_rfl) rfl #[.agg #[.slice A0_0 l0_0.length c0_0, .slice A0_1 l0_1.length c0_1, .int .i64 a0_2, .slice A0_3 l0_3.length c0_3], .agg #[.int .i64 ((rd_T32 l1 x8_1).f0), .string ((rd_T32 l1 x8_1).f1), .slice A567_2 ((rd_T32 l1 x8_1).f2).length c567_2, .int .i64 ((rd_T32 l1 x8_1).f3), .int .i64 ((rd_T32 l1 x8_1).f4), .slice A567_5 ((rd_T32 l1 x8_1).f5).length c567_5]] (by rfl) rfl rfl (by (try simp only [List.map_toArray, List.map_cons, List.map_nil]); first | done | rfl | (simp only [List.length_drop, List.length_take]; rfl)) ?_
           with_reducible refine (evaluate_True.calls k1 _ _ l0_0 _ _ l0_1 a0_2 _ _ l0_3 ((rd_T32 l1 x8_1).f0) ((rd_T32 l1 x8_1).f1) _ _ ((rd_T32 l1 x8_1).f2) ((rd_T32 l1 x8_1).f3) ((rd_T32 l1 x8_1).f4) _ _ ((rd_T32 l1 x8_1).f5) t568 t569 _ ?side1 ?side2 ?side3 ?side4 ?side5 ?side6 ?side7 ?side8 ?side9 ?side10 A16.out (tb_on HTB.out (be1_ HB GE560))).mono ?_
           (case side1 => exact cs_ (Kd.C_below HR0_0.out HB.out))
           (case side2 => exact HC0_0.out)
           (case side3 => exact cs_ (Kd.C_below HR0_1.out HB.out))
           (case side4 => exact HC0_1.out)
           (case side5 => exact cs_ (Kd.C_below HR0_3.out HB.out))
           (case side6 => exact HC0_3.out)
           (case side7 => exact cs_ (Kd.C_below HR567_2.out HB.out))
           (case side8 => exact HC567_2.out)
           (case side9 => exact cs_ (Kd.C_below HR567_5.out HB.out))
           (case side10 => exact HC567_5.out)
           rintro e w36 ⟨rfl, hb⟩
           refine ⟨_, rfl, ?_⟩
           have n0_ := mk_ (Kd.R_below (rq_ HO_7) hb)
           have n1_ := mk_ (bb_ BK560 hb)
           have n2_ := mk_ (below_step (be1_ HB GE560) hb)
           clear HO_7
           clear BK560
           clear HB
           have HO_7 := n0_
           have BK560 := n1_
           have HB := n2_
           clear n0_ n1_ n2_
           (try clear hb)
           (try clear hb2)
           (try clear hk)
           (try clear hi)
           refine hK.out _ _ ⟨(blk_cell BK560.out 0).trans rfl, (blk_cell BK560.out 1).trans rfl, (blk_cell BK560.out 2).trans rfl, (blk_cell BK560.out 3).trans rfl, ((HB.out.cell (World.block_lt_of_cell? w _ hw567_0)).trans hw567_0), ((HB.out.cell (World.block_lt_of_cell? w _ hw567_1)).trans hw567_1), ((HB.out.cell (World.block_lt_of_cell? w _ hw567_2)).trans hw567_2), ((HB.out.cell (World.block_lt_of_cell? w _ hw567_3)).trans hw567_3), ((HB.out.cell (World.block_lt_of_cell? w _ hw567_4)).trans hw567_4), ((HB.out.cell (World.block_lt_of_cell? w _ hw567_5)).trans hw567_5)⟩ (fun hHeld => ?_)
           clear hK K
           refine no_ (N := some 41) ?_
           refine pu_ 6 (some 35) ?_
           refine pu_ 7 (some 42) ?_
           refine pu_ 8 (some 43) ?_
           refine pu_ 9 (some 9) ?_
           refine pu_ 10 (some 10) ?_
           refine done_ (done_of HT_.out (by kernel_rfl)) ?_
           try go_wp2_with (first | ((with_reducible refine gate_builtin (b := .append) (xs := #[.tmp 51, .tmp 53]) rfl ?_); (try (refine gate_guard (by rfl) ?_; dsimp only)); at_builtin; refine Kd.R_append Kd.bool (w0 := w) w.heap.size rfl (.tmp 51) (.tmp 53) 65 4 (.bool false) 1 rfl Tryd.underlying65 info4 rfl (by decide) (by omega) u7 x7_1 t568 [.bool t568] (fun _ => True) (fun _ => False) rfl rfl ?aP (fun _ hk => hk.elim) ?aF ?aO ?aB ?aS ?aL ?_; (case aP => exact rfl); (case aB => exact (be1_ HB GE560)); (case aF => exact (fun _ _ => trivial)); (case aO => exact (rq_ HO_7)); (case aS => exact (below_size (be1_ HB GE560))); (case aL => have := LMc32.out; omega); intro v577 w37 ho hb hg hat; rw [← Ny576.out] at ho; have HO578 := mk_ (ho); replace BK560 := mk_ (blk_grown (g := gb560) (o := .cells #[.slice A0_0 l0_0.length c0_0, .slice A0_1 l0_1.length c0_1, .int .i64 a0_2, .slice A0_3 l0_3.length c0_3] 28 (0, 0)) (bq_ BK560) hg (Kd.R_ne HO_7.out BK560.out (by decide))); replace HB := mk_ (hb); clear HO_7; clear ho hb hg hat))
           go_roundg k1
           case measure => have := HK1.out; omega
           case rel => exact ⟨(t568), (x6_1), (y576), (wrap64 (x8_1 + 1)), fi_, fi_, fi_, H', ⟨by have := HK1.out; omega⟩, ⟨rq_ HO578⟩, ⟨bq_ BK560⟩, ⟨be1_ HB GE560⟩⟩
          ·rw [if_neg c32] at H
           exact absurd H (by simp)
         ·replace c31 := Bool.eq_false_iff.mpr c31
          subst c31
          rw [if_neg nf_] at H
          by_cases c38 : x7_1.length < 140737488355328
          ·rw [if_pos c38] at H
           have LMc38 := mk_ c38
           clear c38
           obtain ⟨y579, hy579⟩ : ∃ y_ : List Bool, y_ = (x7_1 ++ [t568]) := ⟨_, rfl⟩
           replace H : (pentaglotlaw26_EvaluateLists.l0 k1 l1 false x6_1 y579 (wrap64 (x8_1 + 1)) l0_0 l0_1 a0_2 l0_3) = some r := by first | (rw [hy579]; with_reducible exact H) | (have H2_ := (Option.bind_some _ _).symm.trans H; rw [hy579]; with_reducible exact H2_) | (have H2_ := (Option.bind_some _ _).symm.trans H; with_reducible exact H2_) | with_reducible exact H | (rw [hy579]; exact H) | exact H
           have Ny579 := mk_ hy579
           clear hy579
           have H' := mk_ H
           clear H
           try go_wp2
           have n0_ := mk_ (Kd.R_drew HO_7.out)
           have n1_ := mk_ (blk_drew BK560.out)
           have n2_ := mk_ (below_drew1 HB.out)
           clear HO_7
           clear BK560
           clear HB
           have HO_7 := n0_
           have BK560 := n1_
           have HB := n2_
           clear n0_ n1_ n2_
           have p565 : 0 ≤ (x8_1 : Int) := of_decide_eq_true (by first | (with_reducible assumption) | assumption)
           have q565 : x8_1 < (l1.length : Int) := of_decide_eq_true (by first | (with_reducible assumption) | assumption)
           obtain ⟨ad565, A565_2, c565_2, A565_5, c565_5, e565, hx565_0, hx565_1, hx565_2, hx565_3, hx565_4, hx565_5, hl565_2, hi565_2, hl565_5, hi565_5⟩ := at_T32 HR1.out x8_1 p565 q565
           have hw565_5 := hx565_5
           have hw565_4 := hx565_4
           have hw565_3 := hx565_3
           have hw565_2 := hx565_2
           have hw565_1 := hx565_1
           have hw565_0 := hx565_0
           cases e565
           replace hx565_0 := cb_ HB hx565_0
           replace hx565_1 := cb_ HB hx565_1
           replace hx565_2 := cb_ HB hx565_2
           replace hx565_3 := cb_ HB hx565_3
           replace hx565_4 := cb_ HB hx565_4
           replace hx565_5 := cb_ HB hx565_5
           have HR565_2 := mk_ hi565_2
           have HC565_2 := mk_ hl565_2
           clear hi565_2 hl565_2
           have HR565_5 := mk_ hi565_5
           have HC565_5 := mk_ hl565_5
           clear hi565_5 hl565_5
           replace p565 := eq_true p565
           replace q565 := eq_true q565
           refine start_ (n := 7) (S := fun w' => w'.cell? ⟨gb560, 0, none⟩ = some (.slice A0_0 l0_0.length c0_0) ∧ w'.cell? ⟨gb560, 1, none⟩ = some (.slice A0_1 l0_1.length c0_1) ∧ w'.cell? ⟨gb560, 2, none⟩ = some (.int .i64 a0_2) ∧ w'.cell? ⟨gb560, 3, none⟩ = some (.slice A0_3 l0_3.length c0_3) ∧ w'.cell? (ad565.add ((x8_1).toNat * 6)) = some (.int .i64 ((rd_T32 l1 x8_1).f0)) ∧ w'.cell? ⟨(ad565.add ((x8_1).toNat * 6)).block, (ad565.add ((x8_1).toNat * 6)).off + 1, none⟩ = some (.string ((rd_T32 l1 x8_1).f1)) ∧ w'.cell? ⟨(ad565.add ((x8_1).toNat * 6)).block, (ad565.add ((x8_1).toNat * 6)).off + 2, none⟩ = some (.slice A565_2 ((rd_T32 l1 x8_1).f2).length c565_2) ∧ w'.cell? ⟨(ad565.add ((x8_1).toNat * 6)).block, (ad565.add ((x8_1).toNat * 6)).off + 3, none⟩ = some (.int .i64 ((rd_T32 l1 x8_1).f3)) ∧ w'.cell? ⟨(ad565.add ((x8_1).toNat * 6)).block, (ad565.add ((x8_1).toNat * 6)).off + 4, none⟩ = some (.int .i64 ((rd_T32 l1 x8_1).f4)) ∧ w'.cell? ⟨(ad565.add ((x8_1).toNat * 6)).block, (ad565.add ((x8_1).toNat * 6)).off + 5, none⟩ = some (.slice A565_5 ((rd_T32 l1 x8_1).f5).length c565_5)) (ds := []) #[false, false, false, false, false, false, false] (by kernel_rfl) rfl rfl ⟨(blk_cell BK560.out 0).trans rfl, (blk_cell BK560.out 1).trans rfl, (blk_cell BK560.out 2).trans rfl, (blk_cell BK560.out 3).trans rfl, ((HB.out.cell (World.block_lt_of_cell? w _ hw565_0)).trans hw565_0), ((HB.out.cell (World.block_lt_of_cell? w _ hw565_1)).trans hw565_1), ((HB.out.cell (World.block_lt_of_cell? w _ hw565_2)).trans hw565_2), ((HB.out.cell (World.block_lt_of_cell? w _ hw565_3)).trans hw565_3), ((HB.out.cell (World.block_lt_of_cell? w _ hw565_4)).trans hw565_4), ((HB.out.cell (World.block_lt_of_cell? w _ hw565_5)).trans hw565_5)⟩ (fun hHeld => ?_)
           generalize wr.drew = w39 at HO_7 BK560 HB HR565_2 HR565_5 hx565_0 hx565_1 hx565_2 hx565_3 hx565_4 hx565_5 hHeld ⊢
           refine pu_ 1 (some 29) ?_
           refine pu_ 2 (some 30) ?_
           refine pu_ 3 (some 31) ?_
           refine tk_ 0 (some 28) hHeld ?_
           refine tk_ 4 (some 32) hHeld ?_
           refine on_ 5 (some 33) (fun K hK => ?_)
           refine goes_ Tryd.func13 (by kernel_rfl) rfl #[.agg #[.slice A0_0 l0_0.length c0_0, .slice A0_1 l0_1.length c0_1, .int .i64 a0_2, .slice A0_3 l0_3.length c0_3], .agg #[.int .i64 ((rd_T32 l1 x8_1).f0), .string ((rd_T32 l1 x8_1).f1), .slice A565_2 ((rd_T32 l1 x8_1).f2).length c565_2, .int .i64 ((rd_T32 l1 x8_1).f3), .int .i64 ((rd_T32 l1 x8_1).f4), .slice A565_5 ((rd_T32 l1 x8_1).f5).length c565_5]] (by rfl) rfl rfl (by (try simp only [List.map_toArray, List.map_cons, List.map_nil]); first | done | rfl | (simp only [List.length_drop, List.length_take]; rfl)) ?_
           with_reducible refine (pentaglotref26_Light.calls k1 _ _ l0_0 _ _ l0_1 a0_2 _ _ l0_3 ((rd_T32 l1 x8_1).f0) ((rd_T32 l1 x8_1).f1) _ _ ((rd_T32 l1 x8_1).f2) ((rd_T32 l1 x8_1).f3) ((rd_T32 l1 x8_1).f4) _ _ ((rd_T32 l1 x8_1).f5) true _ ?side1 ?side2 ?side3 ?side4 ?side5 ?side6 ?side7 ?side8 ?side9 ?side10 A14.out).mono ?_
           (case side1 => exact cs_ (Kd.C_below HR0_0.out HB.out))
           (case side2 => exact HC0_0.out)
           (case side3 => exact cs_ (Kd.C_below HR0_1.out HB.out))
           (case side4 => exact HC0_1.out)
           (case side5 => exact cs_ (Kd.C_below HR0_3.out HB.out))
           (case side6 => exact HC0_3.out)
           (case side7 => exact cs_ (Kd.C_below HR565_2.out HB.out))
           (case side8 => exact HC565_2.out)
           (case side9 => exact cs_ (Kd.C_below HR565_5.out HB.out))
           (case side10 => exact HC565_5.out)
           rintro e w40 ⟨rfl, hb⟩
           refine ⟨_, rfl, ?_⟩
           have n0_ := mk_ (Kd.R_below (rq_ HO_7) hb)
           have n1_ := mk_ (bb_ BK560 hb)
           have n2_ := mk_ (below_step (be1_ HB GE560) hb)
           clear HO_7
           clear BK560
           clear HB
           have HO_7 := n0_
           have BK560 := n1_
           have HB := n2_
           clear n0_ n1_ n2_
           (try clear hb)
           (try clear hb2)
           (try clear hk)
           (try clear hi)
           refine hK.out _ _ ⟨(blk_cell BK560.out 0).trans rfl, (blk_cell BK560.out 1).trans rfl, (blk_cell BK560.out 2).trans rfl, (blk_cell BK560.out 3).trans rfl, ((HB.out.cell (World.block_lt_of_cell? w _ hw565_0)).trans hw565_0), ((HB.out.cell (World.block_lt_of_cell? w _ hw565_1)).trans hw565_1), ((HB.out.cell (World.block_lt_of_cell? w _ hw565_2)).trans hw565_2), ((HB.out.cell (World.block_lt_of_cell? w _ hw565_3)).trans hw565_3), ((HB.out.cell (World.block_lt_of_cell? w _ hw565_4)).trans hw565_4), ((HB.out.cell (World.block_lt_of_cell? w _ hw565_5)).trans hw565_5)⟩ (fun hHeld => ?_)
           clear hK K
           refine no_ (N := some 33) ?_
           refine pu_ 6 (some 34) ?_
           refine done_ (by kernel_rfl) ?_
           try go_wp2
           have n0_ := mk_ (Kd.R_drew HO_7.out)
           have n1_ := mk_ (blk_drew BK560.out)
           have n2_ := mk_ (below_drew1 HB.out)
           clear HO_7
           clear BK560
           clear HB
           have HO_7 := n0_
           have BK560 := n1_
           have HB := n2_
           clear n0_ n1_ n2_
           have p567 : 0 ≤ (x8_1 : Int) := of_decide_eq_true (by first | (with_reducible assumption) | assumption)
           have q567 : x8_1 < (l1.length : Int) := of_decide_eq_true (by first | (with_reducible assumption) | assumption)
           obtain ⟨ad567, A567_2, c567_2, A567_5, c567_5, e567, hx567_0, hx567_1, hx567_2, hx567_3, hx567_4, hx567_5, hl567_2, hi567_2, hl567_5, hi567_5⟩ := at_T32 HR1.out x8_1 p567 q567
           have hw567_5 := hx567_5
           have hw567_4 := hx567_4
           have hw567_3 := hx567_3
           have hw567_2 := hx567_2
           have hw567_1 := hx567_1
           have hw567_0 := hx567_0
           obtain rfl : ad565 = ad567 := (by injection e567)
           replace hx567_0 := cb_ HB hx567_0
           replace hx567_1 := cb_ HB hx567_1
           replace hx567_2 := cb_ HB hx567_2
           replace hx567_3 := cb_ HB hx567_3
           replace hx567_4 := cb_ HB hx567_4
           replace hx567_5 := cb_ HB hx567_5
           have HR567_2 := mk_ hi567_2
           have HC567_2 := mk_ hl567_2
           clear hi567_2 hl567_2
           have HR567_5 := mk_ hi567_5
           have HC567_5 := mk_ hl567_5
           clear hi567_5 hl567_5
           replace p567 := eq_true p567
           replace q567 := eq_true q567
           refine start_ (n := 11) (S := fun w' => w'.cell? ⟨gb560, 0, none⟩ = some (.slice A0_0 l0_0.length c0_0) ∧ w'.cell? ⟨gb560, 1, none⟩ = some (.slice A0_1 l0_1.length c0_1) ∧ w'.cell? ⟨gb560, 2, none⟩ = some (.int .i64 a0_2) ∧ w'.cell? ⟨gb560, 3, none⟩ = some (.slice A0_3 l0_3.length c0_3) ∧ w'.cell? (ad565.add ((x8_1).toNat * 6)) = some (.int .i64 ((rd_T32 l1 x8_1).f0)) ∧ w'.cell? ⟨(ad565.add ((x8_1).toNat * 6)).block, (ad565.add ((x8_1).toNat * 6)).off + 1, none⟩ = some (.string ((rd_T32 l1 x8_1).f1)) ∧ w'.cell? ⟨(ad565.add ((x8_1).toNat * 6)).block, (ad565.add ((x8_1).toNat * 6)).off + 2, none⟩ = some (.slice A567_2 ((rd_T32 l1 x8_1).f2).length c567_2) ∧ w'.cell? ⟨(ad565.add ((x8_1).toNat * 6)).block, (ad565.add ((x8_1).toNat * 6)).off + 3, none⟩ = some (.int .i64 ((rd_T32 l1 x8_1).f3)) ∧ w'.cell? ⟨(ad565.add ((x8_1).toNat * 6)).block, (ad565.add ((x8_1).toNat * 6)).off + 4, none⟩ = some (.int .i64 ((rd_T32 l1 x8_1).f4)) ∧ w'.cell? ⟨(ad565.add ((x8_1).toNat * 6)).block, (ad565.add ((x8_1).toNat * 6)).off + 5, none⟩ = some (.slice A567_5 ((rd_T32 l1 x8_1).f5).length c567_5)) (ds := []) #[false, false, false, false, false, false, false, false, false, false, false] (by kernel_rfl) rfl rfl ⟨(blk_cell BK560.out 0).trans rfl, (blk_cell BK560.out 1).trans rfl, (blk_cell BK560.out 2).trans rfl, (blk_cell BK560.out 3).trans rfl, ((HB.out.cell (World.block_lt_of_cell? w _ hw567_0)).trans hw567_0), ((HB.out.cell (World.block_lt_of_cell? w _ hw567_1)).trans hw567_1), ((HB.out.cell (World.block_lt_of_cell? w _ hw567_2)).trans hw567_2), ((HB.out.cell (World.block_lt_of_cell? w _ hw567_3)).trans hw567_3), ((HB.out.cell (World.block_lt_of_cell? w _ hw567_4)).trans hw567_4), ((HB.out.cell (World.block_lt_of_cell? w _ hw567_5)).trans hw567_5)⟩ (fun hHeld => ?_); refine with_tabW pentaglotlaw26_EvaluateLists.tab12 pentaglotlaw26_EvaluateLists.bits12 (fun HT_ HW_ => ?_)
           generalize w40.drew = w41 at HO_7 BK560 HB HR567_2 HR567_5 hx567_0 hx567_1 hx567_2 hx567_3 hx567_4 hx567_5 hHeld ⊢
           refine pu_ 1 (some 37) ?_
           refine pu_ 2 (some 38) ?_
           refine pu_ 3 (some 39) ?_
           refine tk_ 0 (some 36) hHeld ?_
           refine tk_ 4 (some 40) hHeld ?_
           refine on_ 5 (some 41) (fun K hK => ?_)
           refine goes_ Tryd.func18 (by kernel_rfl) rfl #[.agg #[.slice A0_0 l0_0.length c0_0, .slice A0_1 l0_1.length c0_1, .int .i64 a0_2, .slice A0_3 l0_3.length c0_3], .agg #[.int .i64 ((rd_T32 l1 x8_1).f0), .string ((rd_T32 l1 x8_1).f1), .slice A567_2 ((rd_T32 l1 x8_1).f2).length c567_2, .int .i64 ((rd_T32 l1 x8_1).f3), .int .i64 ((rd_T32 l1 x8_1).f4), .slice A567_5 ((rd_T32 l1 x8_1).f5).length c567_5]] (by rfl) rfl rfl (by (try simp only [List.map_toArray, List.map_cons, List.map_nil]); first | done | rfl | (simp only [List.length_drop, List.length_take]; rfl)) ?_
           with_reducible refine (evaluate_True.calls k1 _ _ l0_0 _ _ l0_1 a0_2 _ _ l0_3 ((rd_T32 l1 x8_1).f0) ((rd_T32 l1 x8_1).f1) _ _ ((rd_T32 l1 x8_1).f2) ((rd_T32 l1 x8_1).f3) ((rd_T32 l1 x8_1).f4) _ _ ((rd_T32 l1 x8_1).f5) t568 t569 _ ?side1 ?side2 ?side3 ?side4 ?side5 ?side6 ?side7 ?side8 ?side9 ?side10 A16.out (tb_on HTB.out (be1_ HB GE560))).mono ?_
           (case side1 => exact cs_ (Kd.C_below HR0_0.out HB.out))
           (case side2 => exact HC0_0.out)
           (case side3 => exact cs_ (Kd.C_below HR0_1.out HB.out))
           (case side4 => exact HC0_1.out)
           (case side5 => exact cs_ (Kd.C_below HR0_3.out HB.out))
           (case side6 => exact HC0_3.out)
           (case side7 => exact cs_ (Kd.C_below HR567_2.out HB.out))
           (case side8 => exact HC567_2.out)
           (case side9 => exact cs_ (Kd.C_below HR567_5.out HB.out))
           (case side10 => exact HC567_5.out)
           rintro e w42 ⟨rfl, hb⟩
           refine ⟨_, rfl, ?_⟩
           have n0_ := mk_ (Kd.R_below (rq_ HO_7) hb)
           have n1_ := mk_ (bb_ BK560 hb)
           have n2_ := mk_ (below_step (be1_ HB GE560) hb)
           clear HO_7
           clear BK560
           clear HB
           have HO_7 := n0_
           have BK560 := n1_
           have HB := n2_
           clear n0_ n1_ n2_
           (try clear hb)
           (try clear hb2)
           (try clear hk)
           (try clear hi)
           refine hK.out _ _ ⟨(blk_cell BK560.out 0).trans rfl, (blk_cell BK560.out 1).trans rfl, (blk_cell BK560.out 2).trans rfl, (blk_cell BK560.out 3).trans rfl, ((HB.out.cell (World.block_lt_of_cell? w _ hw567_0)).trans hw567_0), ((HB.out.cell (World.block_lt_of_cell? w _ hw567_1)).trans hw567_1), ((HB.out.cell (World.block_lt_of_cell? w _ hw567_2)).trans hw567_2), ((HB.out.cell (World.block_lt_of_cell? w _ hw567_3)).trans hw567_3), ((HB.out.cell (World.block_lt_of_cell? w _ hw567_4)).trans hw567_4), ((HB.out.cell (World.block_lt_of_cell? w _ hw567_5)).trans hw567_5)⟩ (fun hHeld => ?_)
           clear hK K
           refine no_ (N := some 41) ?_
           refine pu_ 6 (some 35) ?_
           refine pu_ 7 (some 42) ?_
           refine pu_ 8 (some 43) ?_
           refine pu_ 9 (some 9) ?_
           refine pu_ 10 (some 10) ?_
           refine done_ (done_of HT_.out (by kernel_rfl)) ?_
           try go_wp2_with (first | ((with_reducible refine gate_builtin (b := .append) (xs := #[.tmp 51, .tmp 53]) rfl ?_); (try (refine gate_guard (by rfl) ?_; dsimp only)); at_builtin; refine Kd.R_append Kd.bool (w0 := w) w.heap.size rfl (.tmp 51) (.tmp 53) 65 4 (.bool false) 1 rfl Tryd.underlying65 info4 rfl (by decide) (by omega) u7 x7_1 t568 [.bool t568] (fun _ => True) (fun _ => False) rfl rfl ?aP (fun _ hk => hk.elim) ?aF ?aO ?aB ?aS ?aL ?_; (case aP => exact rfl); (case aB => exact (be1_ HB GE560)); (case aF => exact (fun _ _ => trivial)); (case aO => exact (rq_ HO_7)); (case aS => exact (below_size (be1_ HB GE560))); (case aL => have := LMc38.out; omega); intro v580 w43 ho hb hg hat; rw [← Ny579.out] at ho; have HO581 := mk_ (ho); replace BK560 := mk_ (blk_grown (g := gb560) (o := .cells #[.slice A0_0 l0_0.length c0_0, .slice A0_1 l0_1.length c0_1, .int .i64 a0_2, .slice A0_3 l0_3.length c0_3] 28 (0, 0)) (bq_ BK560) hg (Kd.R_ne HO_7.out BK560.out (by decide))); replace HB := mk_ (hb); clear HO_7; clear ho hb hg hat))
           go_roundg k1
           case measure => have := HK1.out; omega
           case rel => exact ⟨(false), (x6_1), (y579), (wrap64 (x8_1 + 1)), fi_, fi_, fi_, H', ⟨by have := HK1.out; omega⟩, ⟨rq_ HO581⟩, ⟨bq_ BK560⟩, ⟨be1_ HB GE560⟩⟩
          ·rw [if_neg c38] at H
           exact absurd H (by simp)
       ·replace c15 := Bool.eq_false_iff.mpr c15
        subst c15
        rw [if_neg nf_] at H
        obtain rfl := Option.some.inj H
        try go_wp2
        have n0_ := mk_ (Kd.R_drew HO_7.out)
        have n1_ := mk_ (blk_drew BK560.out)
        have n2_ := mk_ (below_drew1 HB.out)
        clear HO_7
        clear BK560
        clear HB
        have HO_7 := n0_
        have BK560 := n1_
        have HB := n2_
        clear n0_ n1_ n2_
        have p565 : 0 ≤ (x8_1 : Int) := of_decide_eq_true (by first | (with_reducible assumption) | assumption)
        have q565 : x8_1 < (l1.length : Int) := of_decide_eq_true (by first | (with_reducible assumption) | assumption)
        obtain ⟨ad565, A565_2, c565_2, A565_5, c565_5, e565, hx565_0, hx565_1, hx565_2, hx565_3, hx565_4, hx565_5, hl565_2, hi565_2, hl565_5, hi565_5⟩ := at_T32 HR1.out x8_1 p565 q565
        have hw565_5 := hx565_5
        have hw565_4 := hx565_4
        have hw565_3 := hx565_3
        have hw565_2 := hx565_2
        have hw565_1 := hx565_1
        have hw565_0 := hx565_0
        cases e565
        replace hx565_0 := cb_ HB hx565_0
        replace hx565_1 := cb_ HB hx565_1
        replace hx565_2 := cb_ HB hx565_2
        replace hx565_3 := cb_ HB hx565_3
        replace hx565_4 := cb_ HB hx565_4
        replace hx565_5 := cb_ HB hx565_5
        have HR565_2 := mk_ hi565_2
        have HC565_2 := mk_ hl565_2
        clear hi565_2 hl565_2
        have HR565_5 := mk_ hi565_5
        have HC565_5 := mk_ hl565_5
        clear hi565_5 hl565_5
        replace p565 := eq_true p565
        replace q565 := eq_true q565
        refine start_ (n := 7) (S := fun w' => w'.cell? ⟨gb560, 0, none⟩ = some (.slice A0_0 l0_0.length c0_0) ∧ w'.cell? ⟨gb560, 1, none⟩ = some (.slice A0_1 l0_1.length c0_1) ∧ w'.cell? ⟨gb560, 2, none⟩ = some (.int .i64 a0_2) ∧ w'.cell? ⟨gb560, 3, none⟩ = some (.slice A0_3 l0_3.length c0_3) ∧ w'.cell? (ad565.add ((x8_1).toNat * 6)) = some (.int .i64 ((rd_T32 l1 x8_1).f0)) ∧ w'.cell? ⟨(ad565.add ((x8_1).toNat * 6)).block, (ad565.add ((x8_1).toNat * 6)).off + 1, none⟩ = some (.string ((rd_T32 l1 x8_1).f1)) ∧ w'.cell? ⟨(ad565.add ((x8_1).toNat * 6)).block, (ad565.add ((x8_1).toNat * 6)).off + 2, none⟩ = some (.slice A565_2 ((rd_T32 l1 x8_1).f2).length c565_2) ∧ w'.cell? ⟨(ad565.add ((x8_1).toNat * 6)).block, (ad565.add ((x8_1).toNat * 6)).off + 3, none⟩ = some (.int .i64 ((rd_T32 l1 x8_1).f3)) ∧ w'.cell? ⟨(ad565.add ((x8_1).toNat * 6)).block, (ad565.add ((x8_1).toNat * 6)).off + 4, none⟩ = some (.int .i64 ((rd_T32 l1 x8_1).f4)) ∧ w'.cell? ⟨(ad565.add ((x8_1).toNat * 6)).block, (ad565.add ((x8_1).toNat * 6)).off + 5, none⟩ = some (.slice A565_5 ((rd_T32 l1 x8_1).f5).length c565_5)) (ds := []) #[false, false, false, false, false, false, false] (by kernel_rfl) rfl rfl ⟨(blk_cell BK560.out 0).trans rfl, (blk_cell BK560.out 1).trans rfl, (blk_cell BK560.out 2).trans rfl, (blk_cell BK560.out 3).trans rfl, ((HB.out.cell (World.block_lt_of_cell? w _ hw565_0)).trans hw565_0), ((HB.out.cell (World.block_lt_of_cell? w _ hw565_1)).trans hw565_1), ((HB.out.cell (World.block_lt_of_cell? w _ hw565_2)).trans hw565_2), ((HB.out.cell (World.block_lt_of_cell? w _ hw565_3)).trans hw565_3), ((HB.out.cell (World.block_lt_of_cell? w _ hw565_4)).trans hw565_4), ((HB.out.cell (World.block_lt_of_cell? w _ hw565_5)).trans hw565_5)⟩ (fun hHeld => ?_)
        generalize wr.drew = w44 at HO_7 BK560 HB HR565_2 HR565_5 hx565_0 hx565_1 hx565_2 hx565_3 hx565_4 hx565_5 hHeld ⊢
        refine pu_ 1 (some 29) ?_
        refine pu_ 2 (some 30) ?_
        refine pu_ 3 (some 31) ?_
        refine tk_ 0 (some 28) hHeld ?_
        refine tk_ 4 (some 32) hHeld ?_
        refine on_ 5 (some 33) (fun K hK => ?_)
        refine goes_ Tryd.func13 (by kernel_rfl) rfl #[.agg #[.slice A0_0 l0_0.length c0_0, .slice A0_1 l0_1.length c0_1, .int .i64 a0_2, .slice A0_3 l0_3.length c0_3], .agg #[.int .i64 ((rd_T32 l1 x8_1).f0), .string ((rd_T32 l1 x8_1).f1), .slice A565_2 ((rd_T32 l1 x8_1).f2).length c565_2, .int .i64 ((rd_T32 l1 x8_1).f3), .int .i64 ((rd_T32 l1 x8_1).f4), .slice A565_5 ((rd_T32 l1 x8_1).f5).length c565_5]] (by rfl) rfl rfl (by (try simp only [List.map_toArray, List.map_cons, List.map_nil]); first | done | rfl | (simp only [List.length_drop, List.length_take]; rfl)) ?_
        with_reducible refine (pentaglotref26_Light.calls k1 _ _ l0_0 _ _ l0_1 a0_2 _ _ l0_3 ((rd_T32 l1 x8_1).f0) ((rd_T32 l1 x8_1).f1) _ _ ((rd_T32 l1 x8_1).f2) ((rd_T32 l1 x8_1).f3) ((rd_T32 l1 x8_1).f4) _ _ ((rd_T32 l1 x8_1).f5) false _ ?side1 ?side2 ?side3 ?side4 ?side5 ?side6 ?side7 ?side8 ?side9 ?side10 A14.out).mono ?_
        (case side1 => exact cs_ (Kd.C_below HR0_0.out HB.out))
        (case side2 => exact HC0_0.out)
        (case side3 => exact cs_ (Kd.C_below HR0_1.out HB.out))
        (case side4 => exact HC0_1.out)
        (case side5 => exact cs_ (Kd.C_below HR0_3.out HB.out))
        (case side6 => exact HC0_3.out)
        (case side7 => exact cs_ (Kd.C_below HR565_2.out HB.out))
        (case side8 => exact HC565_2.out)
        (case side9 => exact cs_ (Kd.C_below HR565_5.out HB.out))
        (case side10 => exact HC565_5.out)
        rintro e w45 ⟨rfl, hb⟩
        refine ⟨_, rfl, ?_⟩
        have n0_ := mk_ (Kd.R_below (rq_ HO_7) hb)
        have n1_ := mk_ (bb_ BK560 hb)
        have n2_ := mk_ (below_step (be1_ HB GE560) hb)
        clear HO_7
        clear BK560
        clear HB
        have HO_7 := n0_
        have BK560 := n1_
        have HB := n2_
        clear n0_ n1_ n2_
        (try clear hb)
        (try clear hb2)
        (try clear hk)
        (try clear hi)
        refine hK.out _ _ ⟨(blk_cell BK560.out 0).trans rfl, (blk_cell BK560.out 1).trans rfl, (blk_cell BK560.out 2).trans rfl, (blk_cell BK560.out 3).trans rfl, ((HB.out.cell (World.block_lt_of_cell? w _ hw565_0)).trans hw565_0), ((HB.out.cell (World.block_lt_of_cell? w _ hw565_1)).trans hw565_1), ((HB.out.cell (World.block_lt_of_cell? w _ hw565_2)).trans hw565_2), ((HB.out.cell (World.block_lt_of_cell? w _ hw565_3)).trans hw565_3), ((HB.out.cell (World.block_lt_of_cell? w _ hw565_4)).trans hw565_4), ((HB.out.cell (World.block_lt_of_cell? w _ hw565_5)).trans hw565_5)⟩ (fun hHeld => ?_)
        clear hK K
        refine no_ (N := some 33) ?_
        refine pu_ 6 (some 34) ?_
        refine done_ (by kernel_rfl) ?_
        try go_wp2
        go_ret
        exact ⟨er_, be1_ HB GE560⟩
      ·rw [if_neg c13] at H
       exact absurd H (by simp)
     ·rw [if_neg c12] at H
      have c12b0 : decide (x8_1 < (l1.length : Int)) = false := decide_eq_false c12
      clear c12
      replace H := Option.bind_eq_some_iff.mp H
      obtain ⟨⟨t582, t583⟩, A460, H⟩ := H
      replace H : ((evaluate_Which.f k1 l0_0 l0_1 a0_2 l0_3 l1).bind fun bt584 => (if x6_1 = 0 then (if t583 = 0 then (if bt584.2 = 0 then (if (t582 != x5_1) = true then (pentaglotlaw26_EvaluateLists.j1 k1 x7_1 bt584.1 true) else (pentaglotlaw26_EvaluateLists.j1 k1 x7_1 bt584.1 ((bt584.1.length : Int) != (x7_1.length : Int)))) else (pentaglotlaw26_EvaluateLists.j1 k1 x7_1 bt584.1 true)) else (pentaglotlaw26_EvaluateLists.j1 k1 x7_1 bt584.1 true)) else (if t582 = true then (some false) else (if (bt584.1.length : Int) = 0 then (if t583 = x6_1 then (some (bt584.2 == x6_1)) else (some false)) else (some false))))) = some r := H
      have A46 := mk_ A460
      clear A460
      replace H := Option.bind_eq_some_iff.mp H
      obtain ⟨⟨t584, t587⟩, A470, H⟩ := H
      replace H : (if x6_1 = 0 then (if t583 = 0 then (if t587 = 0 then (if (t582 != x5_1) = true then (pentaglotlaw26_EvaluateLists.j1 k1 x7_1 t584 true) else (pentaglotlaw26_EvaluateLists.j1 k1 x7_1 t584 ((t584.length : Int) != (x7_1.length : Int)))) else (pentaglotlaw26_EvaluateLists.j1 k1 x7_1 t584 true)) else (pentaglotlaw26_EvaluateLists.j1 k1 x7_1 t584 true)) else (if t582 = true then (some false) else (if (t584.length : Int) = 0 then (if t583 = x6_1 then (some (t587 == x6_1)) else (some false)) else (some false)))) = some r := H
      have A47 := mk_ A470
      clear A470
      by_cases c48 : x6_1 = 0
      ·rw [if_pos c48] at H
       obtain ⟨c48b0, c48b1⟩ := eb_ c48
       clear c48
       have HC49 := mk_ H
       clear H
       obtain ⟨_, _, _, _, _, _, _, _⟩ := hb4_ BK560
       go_upto_region 21 with (first | ((with_reducible refine gate_callee (f := 31) rfl ?_); refine gl_ (some 58) Tryd.func31 #[.agg #[.slice A0_0 l0_0.length c0_0, .slice A0_1 l0_1.length c0_1, .int .i64 a0_2, .slice A0_3 l0_3.length c0_3], .slice A1 l1.length c1] ?_; (with_reducible refine (evaluate_All.calls k1 _ _ l0_0 _ _ l0_1 a0_2 _ _ l0_3 _ _ l1 t582 t583 _ ?side1 ?side2 ?side3 ?side4 ?side5 ?side6 ?side7 ?side8 A46.out (tb_on HTB.out (be1_ HB GE560))).mono ?_); (case side1 => exact cs_ (Kd.C_below HR0_0.out HB.out)); (case side2 => exact HC0_0.out); (case side3 => exact cs_ (Kd.C_below HR0_1.out HB.out)); (case side4 => exact HC0_1.out); (case side5 => exact cs_ (Kd.C_below HR0_3.out HB.out)); (case side6 => exact HC0_3.out); (case side7 => exact cs_ (Kd.C_below HR1.out HB.out)); (case side8 => exact HC1.out); rintro e w51 ⟨rfl, hb⟩; refine ⟨_, rfl, ?_⟩; replace HO_7 := mk_ (Kd.R_below (rq_ HO_7) hb); replace BK560 := mk_ (bb_ BK560 hb); replace HB := mk_ (below_step (be1_ HB GE560) hb); (try clear hb); (try clear hb2); (try clear hk); (try clear hi); obtain ⟨_, _, _, _, _, _, _, _⟩ := hb4_ BK560) | ((with_reducible refine gate_callee (f := 32) rfl ?_); refine gl_ (some 64) Tryd.func32 #[.agg #[.slice A0_0 l0_0.length c0_0, .slice A0_1 l0_1.length c0_1, .int .i64 a0_2, .slice A0_3 l0_3.length c0_3], .slice A1 l1.length c1] ?_; (with_reducible refine (evaluate_Which.calls k1 _ _ l0_0 _ _ l0_1 a0_2 _ _ l0_3 _ _ l1 t584 t587 _ ?side1 ?side2 ?side3 ?side4 ?side5 ?side6 ?side7 ?side8 A47.out (tb_on HTB.out (be1_ HB GE560))).mono ?_); (case side1 => exact cs_ (Kd.C_below HR0_0.out HB.out)); (case side2 => exact HC0_0.out); (case side3 => exact cs_ (Kd.C_below HR0_1.out HB.out)); (case side4 => exact HC0_1.out); (case side5 => exact cs_ (Kd.C_below HR0_3.out HB.out)); (case side6 => exact HC0_3.out); (case side7 => exact cs_ (Kd.C_below HR1.out HB.out)); (case side8 => exact HC1.out); rintro e w53 ⟨v585, rfl, ho0, hb⟩; refine ⟨_, rfl, ?_⟩; have HO586 := mk_ (Kd.R_lower (Kd.R_new' ho0 (Kd.R_lt (rq_ HO_7))) (below_size (be1_ HB GE560))); replace HO_7 := mk_ (Kd.R_elder' (rq_ HO_7) (Kd.R_base ho0) hb); replace BK560 := mk_ (bb_ BK560 hb); replace HB := mk_ (below_step (be1_ HB GE560) hb); (try clear hb); (try clear hb2); (try clear hk); (try clear hi); (try clear ho0)))
       (try simp only [Act.put, List.setIfInBounds_toArray, List.set_cons_zero, List.set_cons_succ])
       go_cut [103] (fun v103 wc => ∃ (kq : Nat) (x103_48 : Bool), v103 = .bool x103_48 ∧ Aside0 (pentaglotlaw26_EvaluateLists.j1 kq x7_1 t584 x103_48 = some r) ∧ Aside0 (kq ≤ k1) ∧ Aside0 (Kd.R Kd.bool 4 wc w.heap.size (fun k_ => some k_ ≠ (v585 : Value).ownBlock) u7 x7_1) ∧ Aside0 (Kd.R Kd.bool 4 wc w.heap.size (fun k_ => some k_ ≠ (u7 : Value).ownBlock) v585 t584) ∧ Aside0 (wc.heap[gb560]? = some (.cells #[(.slice A0_0 l0_0.length c0_0), (.slice A0_1 l0_1.length c0_1), .int .i64 a0_2, (.slice A0_3 l0_3.length c0_3)] 28 (0, 0))) ∧ Aside0 (Below w.heap.size w wc))
       case first =>
        have H := HC49.out
        clear HC49
        by_cases c54 : t583 = 0
        ·rw [if_pos c54] at H
         obtain ⟨c54b0, c54b1⟩ := eb_ c54
         clear c54
         (first | rw [c54b0] | (simp only [i64_w, i32_w]; rw [c54b0]) | skip)
         by_cases c55 : t587 = 0
         ·rw [if_pos c55] at H
          obtain ⟨c55b0, c55b1⟩ := eb_ c55
          clear c55
          by_cases c56 : (t582 != x5_1) = true
          ·rw [if_pos c56] at H
           have c56b0 : (t582 != x5_1) = true := c56
           (try (have c56b1 : decide (t582 = x5_1) = false := by simpa using c56))
           (try (have c56b2 : (t582 == x5_1) = false := by simpa using c56))
           (try (have c56b3 : ¬ (t582 = x5_1) := by simpa using c56))
           clear c56
           have H' := mk_ H
           clear H
           go_wp2
           go_meet
           case rel => exact ⟨_, (true), fi_, H', ⟨by have := HK1.out; first | omega | exact Nat.le_refl _⟩, ⟨by refine sr_ ?_; exact Kd.R_mono HO_7.out (fun _ hk => hk.2)⟩, ⟨by refine sr_ ?_; exact Kd.R_mono HO586.out (fun _ hk => hk.2)⟩, ⟨bq_ BK560⟩, ⟨be1_ HB GE560⟩⟩
          ·rw [if_neg c56] at H
           have c56b0 : (t582 != x5_1) = false := by simpa using c56
           (try (have c56b1 : decide (t582 = x5_1) = true := by simpa using c56))
           (try (have c56b2 : (t582 == x5_1) = true := by simpa using c56))
           clear c56
           have H' := mk_ H
           clear H
           obtain ⟨Ao57, co57, eo57⟩ := Kd.R_slice HO586.out
           subst eo57
           obtain ⟨Ao58, co58, eo58⟩ := Kd.R_slice HO_7.out
           subst eo58
           go_wp2
           go_meet
           case rel => exact ⟨_, (((t584.length : Int) != (x7_1.length : Int))), fi_, H', ⟨by have := HK1.out; first | omega | exact Nat.le_refl _⟩, ⟨by refine sr_ ?_; exact Kd.R_mono HO_7.out (fun _ hk => hk.2)⟩, ⟨by refine sr_ ?_; exact Kd.R_mono HO586.out (fun _ hk => hk.2)⟩, ⟨bq_ BK560⟩, ⟨be1_ HB GE560⟩⟩
         ·rw [if_neg c55] at H
          obtain ⟨c55b0, c55b1⟩ := en_ c55
          have H' := mk_ H
          clear H
          go_wp2
          go_meet
          case rel => exact ⟨_, (true), fi_, H', ⟨by have := HK1.out; first | omega | exact Nat.le_refl _⟩, ⟨by refine sr_ ?_; exact Kd.R_mono HO_7.out (fun _ hk => hk.2)⟩, ⟨by refine sr_ ?_; exact Kd.R_mono HO586.out (fun _ hk => hk.2)⟩, ⟨bq_ BK560⟩, ⟨be1_ HB GE560⟩⟩
        ·rw [if_neg c54] at H
         obtain ⟨c54b0, c54b1⟩ := en_ c54
         (first | rw [c54b0] | (simp only [i64_w, i32_w]; rw [c54b0]) | skip)
         have H' := mk_ H
         clear H
         go_wp2
         go_meet
         case rel => exact ⟨_, (true), fi_, H', ⟨by have := HK1.out; first | omega | exact Nat.le_refl _⟩, ⟨by refine sr_ ?_; exact Kd.R_mono HO_7.out (fun _ hk => hk.2)⟩, ⟨by refine sr_ ?_; exact Kd.R_mono HO586.out (fun _ hk => hk.2)⟩, ⟨bq_ BK560⟩, ⟨be1_ HB GE560⟩⟩
       case rest =>
        clear HC49
        obtain ⟨kq, x103_48, rfl, HA, HJ48, HO_7, HO_13, BK560, HB⟩ := hcut
        cases kq with
        | zero => exact absurd HA.out (by simp [pentaglotlaw26_EvaluateLists.j1])
        | succ kj48 =>
         have H := HA.out
         clear HA
         simp only [pentaglotlaw26_EvaluateLists.j1] at H
         by_cases c59 : x103_48 = true
         ·subst c59
          rw [if_pos rfl] at H
          obtain rfl := Option.some.inj H
          go_wp2
          go_ret
          exact ⟨er_, be1_ HB GE560⟩
         ·replace c59 := Bool.eq_false_iff.mpr c59
          subst c59
          rw [if_neg nf_] at H
          have H' := mk_ H
          clear H
          go_wp2
          go_loopg [15] kj48 (fun kq v15 w' => ∃ (x15_3 : Int), v15 = .int .i64 x15_3 ∧ Aside0 (pentaglotlaw26_EvaluateLists.l1 kq x7_1 t584 x15_3 = some r) ∧ Aside0 (kq ≤ kj48) ∧ Aside0 (Kd.R Kd.bool 4 w' w.heap.size (fun k_ => some k_ ≠ (v585 : Value).ownBlock) u7 x7_1) ∧ Aside0 (Kd.R Kd.bool 4 w' w.heap.size (fun k_ => some k_ ≠ (u7 : Value).ownBlock) v585 t584) ∧ Aside0 (w'.heap[gb560]? = some (.cells #[(.slice A0_0 l0_0.length c0_0), (.slice A0_1 l0_1.length c0_1), .int .i64 a0_2, (.slice A0_3 l0_3.length c0_3)] 28 (0, 0))) ∧ Aside0 (Below w.heap.size w w'))
          case atStart => exact ⟨(0), fi_, H', ⟨Nat.le_refl _⟩, ⟨rq_ HO_7⟩, ⟨rq_ HO_13⟩, ⟨bq_ BK560⟩, ⟨be1_ HB GE560⟩⟩
          case round =>
           clear H'
           obtain ⟨x15_3, rfl, HA, HK3, HO_7, HO_13, BK560, HB⟩ := hrel
           cases gk with
           | zero => exact absurd HA.out (by simp [pentaglotlaw26_EvaluateLists.l1])
           | succ k3 =>
            have H := HA.out
            clear HA
            simp only [pentaglotlaw26_EvaluateLists.l1] at H
            by_cases c60 : x15_3 < (x7_1.length : Int)
            ·rw [if_pos c60] at H
             have c60b0 : decide (x15_3 < (x7_1.length : Int)) = true := decide_eq_true c60
             clear c60
             by_cases c61 : 0 ≤ x15_3
             ·rw [if_pos c61] at H
              have c61b0 : decide (0 ≤ x15_3) = true := decide_eq_true c61
              clear c61
              by_cases c62 : x15_3 < (t584.length : Int)
              ·rw [if_pos c62] at H
               have c62b0 : decide (x15_3 < (t584.length : Int)) = true := decide_eq_true c62
               clear c62
               by_cases c63 : ((rdOf false t584 x15_3) != (rdOf false x7_1 x15_3)) = true
               ·rw [if_pos c63] at H
                have c63b0 : ((rdOf false t584 x15_3) != (rdOf false x7_1 x15_3)) = true := c63
                (try (have c63b1 : decide ((rdOf false t584 x15_3) = (rdOf false x7_1 x15_3)) = false := by simpa using c63))
                (try (have c63b2 : ((rdOf false t584 x15_3) == (rdOf false x7_1 x15_3)) = false := by simpa using c63))
                (try (have c63b3 : ¬ ((rdOf false t584 x15_3) = (rdOf false x7_1 x15_3)) := by simpa using c63))
                clear c63
                obtain rfl := Option.some.inj H
                obtain ⟨Ao64, co64, eo64⟩ := Kd.R_slice HO_7.out
                subst eo64
                try go_wp2
                have n0_ := mk_ (Kd.R_drew HO_7.out)
                have n1_ := mk_ (Kd.R_drew HO_13.out)
                have n2_ := mk_ (blk_drew BK560.out)
                have n3_ := mk_ (below_drew1 HB.out)
                clear HO_7
                clear HO_13
                clear BK560
                clear HB
                have HO_7 := n0_
                have HO_13 := n1_
                have BK560 := n2_
                have HB := n3_
                clear n0_ n1_ n2_ n3_
                obtain ⟨Ao66, co66, eo66⟩ := Kd.R_slice HO_13.out
                (first | subst eo66 | (injection eo66 with f1_ f2_ f3_; have f4_ := f1_.symm; have f5_ := f3_.symm; clear f1_ f2_ f3_; subst f4_; subst f5_))
                have p588 : 0 ≤ (x15_3 : Int) := of_decide_eq_true (by first | (with_reducible assumption) | assumption)
                have q588 : x15_3 < (t584.length : Int) := of_decide_eq_true (by first | (with_reducible assumption) | assumption)
                obtain ⟨ad588, e588, hx588_0⟩ := Kd.at_bool (Kd.R_reads' HO_13.out).2.2 x15_3 p588 q588
                cases e588
                replace p588 := eq_true p588
                replace q588 := eq_true q588
                have p589 : 0 ≤ (x15_3 : Int) := of_decide_eq_true (by first | (with_reducible assumption) | assumption)
                have q589 : x15_3 < (x7_1.length : Int) := of_decide_eq_true (by first | (with_reducible assumption) | assumption)
                obtain ⟨ad589, e589, hx589_0⟩ := Kd.at_bool (Kd.R_reads' HO_7.out).2.2 x15_3 p589 q589
                cases e589
                replace p589 := eq_true p589
                replace q589 := eq_true q589
                refine start_ (n := 9) (S := fun w' => w'.cell? (ad588.add (x15_3).toNat) = some (.bool (rdOf false t584 x15_3)) ∧ w'.cell? (ad589.add (x15_3).toNat) = some (.bool (rdOf false x7_1 x15_3))) (ds := []) #[false, false, false, false, false, false, false, false, false] (by kernel_rfl) rfl rfl ⟨hx588_0, hx589_0⟩ (fun hHeld => ?_); refine with_tabW pentaglotlaw26_EvaluateLists.tab26 pentaglotlaw26_EvaluateLists.bits26 (fun HT_ HW_ => ?_)
                generalize wr.drew = w65 at HO_7 HO_13 BK560 HB hx588_0 hx589_0 hHeld ⊢
                refine pu_ 0 (some 110) ?_
                refine pu_ 1 (some 111) ?_
                refine pu_ 2 (some 112) ?_
                refine pu_ 4 (some 114) ?_
                refine pu_ 5 (some 115) ?_
                refine pu_ 6 (some 116) ?_
                refine tk_ 3 (some 113) hHeld ?_
                refine tk_ 7 (some 117) hHeld ?_
                refine pu_ 8 (some 118) ?_
                refine done_ (done_of HT_.out (by kernel_rfl)) ?_
                try go_wp2
                go_ret
                exact ⟨er_, be1_ HB GE560⟩
               ·rw [if_neg c63] at H
                have c63b0 : ((rdOf false t584 x15_3) != (rdOf false x7_1 x15_3)) = false := by simpa using c63
                (try (have c63b1 : decide ((rdOf false t584 x15_3) = (rdOf false x7_1 x15_3)) = true := by simpa using c63))
                (try (have c63b2 : ((rdOf false t584 x15_3) == (rdOf false x7_1 x15_3)) = true := by simpa using c63))
                clear c63
                have H' := mk_ H
                clear H
                obtain ⟨Ao67, co67, eo67⟩ := Kd.R_slice HO_7.out
                subst eo67
                try go_wp2
                have n0_ := mk_ (Kd.R_drew HO_7.out)
                have n1_ := mk_ (Kd.R_drew HO_13.out)
                have n2_ := mk_ (blk_drew BK560.out)
                have n3_ := mk_ (below_drew1 HB.out)
                clear HO_7
                clear HO_13
                clear BK560
                clear HB
                have HO_7 := n0_
                have HO_13 := n1_
                have BK560 := n2_
                have HB := n3_
                clear n0_ n1_ n2_ n3_
                obtain ⟨Ao69, co69, eo69⟩ := Kd.R_slice HO_13.out
                (first | subst eo69 | (injection eo69 with f1_ f2_ f3_; have f4_ := f1_.symm; have f5_ := f3_.symm; clear f1_ f2_ f3_; subst f4_; subst f5_))
                have p588 : 0 ≤ (x15_3 : Int) := of_decide_eq_true (by first | (with_reducible assumption) | assumption)
                have q588 : x15_3 < (t584.length : Int) := of_decide_eq_true (by first | (with_reducible assumption) | assumption)
                obtain ⟨ad588, e588, hx588_0⟩ := Kd.at_bool (Kd.R_reads' HO_13.out).2.2 x15_3 p588 q588
                cases e588
                replace p588 := eq_true p588
                replace q588 := eq_true q588
                have p589 : 0 ≤ (x15_3 : Int) := of_decide_eq_true (by first | (with_reducible assumption) | assumption)
                have q589 : x15_3 < (x7_1.length : Int) := of_decide_eq_true (by first | (with_reducible assumption) | assumption)
                obtain ⟨ad589, e589, hx589_0⟩ := Kd.at_bool (Kd.R_reads' HO_7.out).2.2 x15_3 p589 q589
                cases e589
                replace p589 := eq_true p589
                replace q589 := eq_true q589
                refine start_ (n := 9) (S := fun w' => w'.cell? (ad588.add (x15_3).toNat) = some (.bool (rdOf false t584 x15_3)) ∧ w'.cell? (ad589.add (x15_3).toNat) = some (.bool (rdOf false x7_1 x15_3))) (ds := []) #[false, false, false, false, false, false, false, false, false] (by kernel_rfl) rfl rfl ⟨hx588_0, hx589_0⟩ (fun hHeld => ?_); refine with_tabW pentaglotlaw26_EvaluateLists.tab26 pentaglotlaw26_EvaluateLists.bits26 (fun HT_ HW_ => ?_)
                generalize wr.drew = w68 at HO_7 HO_13 BK560 HB hx588_0 hx589_0 hHeld ⊢
                refine pu_ 0 (some 110) ?_
                refine pu_ 1 (some 111) ?_
                refine pu_ 2 (some 112) ?_
                refine pu_ 4 (some 114) ?_
                refine pu_ 5 (some 115) ?_
                refine pu_ 6 (some 116) ?_
                refine tk_ 3 (some 113) hHeld ?_
                refine tk_ 7 (some 117) hHeld ?_
                refine pu_ 8 (some 118) ?_
                refine done_ (done_of HT_.out (by kernel_rfl)) ?_
                try go_wp2
                go_roundg k3
                case measure => have := HK1.out; have := HJ48.out; have := HK3.out; omega
                case rel => exact ⟨(wrap64 (x15_3 + 1)), fi_, H', ⟨by have := HK1.out; have := HJ48.out; have := HK3.out; omega⟩, ⟨rq_ HO_7⟩, ⟨rq_ HO_13⟩, ⟨bq_ BK560⟩, ⟨be1_ HB GE560⟩⟩
              ·rw [if_neg c62] at H
               exact absurd H (by simp)
             ·rw [if_neg c61] at H
              exact absurd H (by simp)
            ·rw [if_neg c60] at H
             have c60b0 : decide (x15_3 < (x7_1.length : Int)) = false := decide_eq_false c60
             clear c60
             obtain rfl := Option.some.inj H
             obtain ⟨Ao70, co70, eo70⟩ := Kd.R_slice HO_7.out
             subst eo70
             go_wp2
             go_ret
             exact ⟨er_, be1_ HB GE560⟩
      ·rw [if_neg c48] at H
       obtain ⟨c48b0, c48b1⟩ := en_ c48
       by_cases c71 : t582 = true
       ·subst c71
        rw [if_pos rfl] at H
        obtain rfl := Option.some.inj H
        obtain ⟨_, _, _, _, _, _, _, _⟩ := hb4_ BK560
        go_wp2_with (first | ((with_reducible refine gate_callee (f := 31) rfl ?_); refine gl_ (some 58) Tryd.func31 #[.agg #[.slice A0_0 l0_0.length c0_0, .slice A0_1 l0_1.length c0_1, .int .i64 a0_2, .slice A0_3 l0_3.length c0_3], .slice A1 l1.length c1] ?_; (with_reducible refine (evaluate_All.calls k1 _ _ l0_0 _ _ l0_1 a0_2 _ _ l0_3 _ _ l1 true t583 _ ?side1 ?side2 ?side3 ?side4 ?side5 ?side6 ?side7 ?side8 A46.out (tb_on HTB.out (be1_ HB GE560))).mono ?_); (case side1 => exact cs_ (Kd.C_below HR0_0.out HB.out)); (case side2 => exact HC0_0.out); (case side3 => exact cs_ (Kd.C_below HR0_1.out HB.out)); (case side4 => exact HC0_1.out); (case side5 => exact cs_ (Kd.C_below HR0_3.out HB.out)); (case side6 => exact HC0_3.out); (case side7 => exact cs_ (Kd.C_below HR1.out HB.out)); (case side8 => exact HC1.out); rintro e w73 ⟨rfl, hb⟩; refine ⟨_, rfl, ?_⟩; replace HO_7 := mk_ (Kd.R_below (rq_ HO_7) hb); replace BK560 := mk_ (bb_ BK560 hb); replace HB := mk_ (below_step (be1_ HB GE560) hb); (try clear hb); (try clear hb2); (try clear hk); (try clear hi); obtain ⟨_, _, _, _, _, _, _, _⟩ := hb4_ BK560) | ((with_reducible refine gate_callee (f := 32) rfl ?_); refine gl_ (some 64) Tryd.func32 #[.agg #[.slice A0_0 l0_0.length c0_0, .slice A0_1 l0_1.length c0_1, .int .i64 a0_2, .slice A0_3 l0_3.length c0_3], .slice A1 l1.length c1] ?_; (with_reducible refine (evaluate_Which.calls k1 _ _ l0_0 _ _ l0_1 a0_2 _ _ l0_3 _ _ l1 t584 t587 _ ?side1 ?side2 ?side3 ?side4 ?side5 ?side6 ?side7 ?side8 A47.out (tb_on HTB.out (be1_ HB GE560))).mono ?_); (case side1 => exact cs_ (Kd.C_below HR0_0.out HB.out)); (case side2 => exact HC0_0.out); (case side3 => exact cs_ (Kd.C_below HR0_1.out HB.out)); (case side4 => exact HC0_1.out); (case side5 => exact cs_ (Kd.C_below HR0_3.out HB.out)); (case side6 => exact HC0_3.out); (case side7 => exact cs_ (Kd.C_below HR1.out HB.out)); (case side8 => exact HC1.out); rintro e w75 ⟨v585, rfl, ho0, hb⟩; refine ⟨_, rfl, ?_⟩; have HO586 := mk_ (Kd.R_lower (Kd.R_new' ho0 (Kd.R_lt (rq_ HO_7))) (below_size (be1_ HB GE560))); replace HO_7 := mk_ (Kd.R_elder' (rq_ HO_7) (Kd.R_base ho0) hb); replace BK560 := mk_ (bb_ BK560 hb); replace HB := mk_ (below_step (be1_ HB GE560) hb); (try clear hb); (try clear hb2); (try clear hk); (try clear hi); (try clear ho0)))
        go_ret
        exact ⟨er_, be1_ HB GE560⟩
       ·replace c71 := Bool.eq_false_iff.mpr c71
        subst c71
        rw [if_neg nf_] at H
        by_cases c76 : (t584.length : Int) = 0
        ·rw [if_pos c76] at H
         obtain ⟨c76b0, c76b1⟩ := eb_ c76
         clear c76
         by_cases c77 : t583 = x6_1
         ·rw [if_pos c77] at H
          obtain ⟨c77b0, c77b1⟩ := eb_ c77
          clear c77
          obtain rfl := Option.some.inj H
          obtain ⟨_, _, _, _, _, _, _, _⟩ := hb4_ BK560
          go_wp2_with (first | ((with_reducible refine gate_callee (f := 31) rfl ?_); refine gl_ (some 58) Tryd.func31 #[.agg #[.slice A0_0 l0_0.length c0_0, .slice A0_1 l0_1.length c0_1, .int .i64 a0_2, .slice A0_3 l0_3.length c0_3], .slice A1 l1.length c1] ?_; (with_reducible refine (evaluate_All.calls k1 _ _ l0_0 _ _ l0_1 a0_2 _ _ l0_3 _ _ l1 false t583 _ ?side1 ?side2 ?side3 ?side4 ?side5 ?side6 ?side7 ?side8 A46.out (tb_on HTB.out (be1_ HB GE560))).mono ?_); (case side1 => exact cs_ (Kd.C_below HR0_0.out HB.out)); (case side2 => exact HC0_0.out); (case side3 => exact cs_ (Kd.C_below HR0_1.out HB.out)); (case side4 => exact HC0_1.out); (case side5 => exact cs_ (Kd.C_below HR0_3.out HB.out)); (case side6 => exact HC0_3.out); (case side7 => exact cs_ (Kd.C_below HR1.out HB.out)); (case side8 => exact HC1.out); rintro e w79 ⟨rfl, hb⟩; refine ⟨_, rfl, ?_⟩; replace HO_7 := mk_ (Kd.R_below (rq_ HO_7) hb); replace BK560 := mk_ (bb_ BK560 hb); replace HB := mk_ (below_step (be1_ HB GE560) hb); (try clear hb); (try clear hb2); (try clear hk); (try clear hi); obtain ⟨_, _, _, _, _, _, _, _⟩ := hb4_ BK560) | ((with_reducible refine gate_callee (f := 32) rfl ?_); refine gl_ (some 64) Tryd.func32 #[.agg #[.slice A0_0 l0_0.length c0_0, .slice A0_1 l0_1.length c0_1, .int .i64 a0_2, .slice A0_3 l0_3.length c0_3], .slice A1 l1.length c1] ?_; (with_reducible refine (evaluate_Which.calls k1 _ _ l0_0 _ _ l0_1 a0_2 _ _ l0_3 _ _ l1 t584 t587 _ ?side1 ?side2 ?side3 ?side4 ?side5 ?side6 ?side7 ?side8 A47.out (tb_on HTB.out (be1_ HB GE560))).mono ?_); (case side1 => exact cs_ (Kd.C_below HR0_0.out HB.out)); (case side2 => exact HC0_0.out); (case side3 => exact cs_ (Kd.C_below HR0_1.out HB.out)); (case side4 => exact HC0_1.out); (case side5 => exact cs_ (Kd.C_below HR0_3.out HB.out)); (case side6 => exact HC0_3.out); (case side7 => exact cs_ (Kd.C_below HR1.out HB.out)); (case side8 => exact HC1.out); rintro e w81 ⟨v585, rfl, ho0, hb⟩; refine ⟨_, rfl, ?_⟩; have HO586 := mk_ (Kd.R_lower (Kd.R_new' ho0 (Kd.R_lt (rq_ HO_7))) (below_size (be1_ HB GE560))); replace HO_7 := mk_ (Kd.R_elder' (rq_ HO_7) (Kd.R_base ho0) hb); replace BK560 := mk_ (bb_ BK560 hb); replace HB := mk_ (below_step (be1_ HB GE560) hb); (try clear hb); (try clear hb2); (try clear hk); (try clear hi); (try clear ho0); obtain ⟨Ao82, co82, eo82⟩ := Kd.R_slice HO586.out; subst eo82))
          go_ret
          exact ⟨er_, be1_ HB GE560⟩
         ·rw [if_neg c77] at H
          obtain ⟨c77b0, c77b1⟩ := en_ c77
          obtain rfl := Option.some.inj H
          obtain ⟨_, _, _, _, _, _, _, _⟩ := hb4_ BK560
          go_wp2_with (first | ((with_reducible refine gate_callee (f := 31) rfl ?_); refine gl_ (some 58) Tryd.func31 #[.agg #[.slice A0_0 l0_0.length c0_0, .slice A0_1 l0_1.length c0_1, .int .i64 a0_2, .slice A0_3 l0_3.length c0_3], .slice A1 l1.length c1] ?_; (with_reducible refine (evaluate_All.calls k1 _ _ l0_0 _ _ l0_1 a0_2 _ _ l0_3 _ _ l1 false t583 _ ?side1 ?side2 ?side3 ?side4 ?side5 ?side6 ?side7 ?side8 A46.out (tb_on HTB.out (be1_ HB GE560))).mono ?_); (case side1 => exact cs_ (Kd.C_below HR0_0.out HB.out)); (case side2 => exact HC0_0.out); (case side3 => exact cs_ (Kd.C_below HR0_1.out HB.out)); (case side4 => exact HC0_1.out); (case side5 => exact cs_ (Kd.C_below HR0_3.out HB.out)); (case side6 => exact HC0_3.out); (case side7 => exact cs_ (Kd.C_below HR1.out HB.out)); (case side8 => exact HC1.out); rintro e w84 ⟨rfl, hb⟩; refine ⟨_, rfl, ?_⟩; replace HO_7 := mk_ (Kd.R_below (rq_ HO_7) hb); replace BK560 := mk_ (bb_ BK560 hb); replace HB := mk_ (below_step (be1_ HB GE560) hb); (try clear hb); (try clear hb2); (try clear hk); (try clear hi); obtain ⟨_, _, _, _, _, _, _, _⟩ := hb4_ BK560) | ((with_reducible refine gate_callee (f := 32) rfl ?_); refine gl_ (some 64) Tryd.func32 #[.agg #[.slice A0_0 l0_0.length c0_0, .slice A0_1 l0_1.length c0_1, .int .i64 a0_2, .slice A0_3 l0_3.length c0_3], .slice A1 l1.length c1] ?_; (with_reducible refine (evaluate_Which.calls k1 _ _ l0_0 _ _ l0_1 a0_2 _ _ l0_3 _ _ l1 t584 t587 _ ?side1 ?side2 ?side3 ?side4 ?side5 ?side6 ?side7 ?side8 A47.out (tb_on HTB.out (be1_ HB GE560))).mono ?_); (case side1 => exact cs_ (Kd.C_below HR0_0.out HB.out)); (case side2 => exact HC0_0.out); (case side3 => exact cs_ (Kd.C_below HR0_1.out HB.out)); (case side4 => exact HC0_1.out); (case side5 => exact cs_ (Kd.C_below HR0_3.out HB.out)); (case side6 => exact HC0_3.out); (case side7 => exact cs_ (Kd.C_below HR1.out HB.out)); (case side8 => exact HC1.out); rintro e w86 ⟨v585, rfl, ho0, hb⟩; refine ⟨_, rfl, ?_⟩; have HO586 := mk_ (Kd.R_lower (Kd.R_new' ho0 (Kd.R_lt (rq_ HO_7))) (below_size (be1_ HB GE560))); replace HO_7 := mk_ (Kd.R_elder' (rq_ HO_7) (Kd.R_base ho0) hb); replace BK560 := mk_ (bb_ BK560 hb); replace HB := mk_ (below_step (be1_ HB GE560) hb); (try clear hb); (try clear hb2); (try clear hk); (try clear hi); (try clear ho0); obtain ⟨Ao87, co87, eo87⟩ := Kd.R_slice HO586.out; subst eo87))
          go_ret
          exact ⟨er_, be1_ HB GE560⟩
        ·rw [if_neg c76] at H
         obtain ⟨c76b0, c76b1⟩ := en_ c76
         have c76b2 : ¬ (t584 = []) := fun h_ => c76 (by rw [h_]; rfl)
         obtain rfl := Option.some.inj H
         obtain ⟨_, _, _, _, _, _, _, _⟩ := hb4_ BK560
         go_wp2_with (first | ((with_reducible refine gate_callee (f := 31) rfl ?_); refine gl_ (some 58) Tryd.func31 #[.agg #[.slice A0_0 l0_0.length c0_0, .slice A0_1 l0_1.length c0_1, .int .i64 a0_2, .slice A0_3 l0_3.length c0_3], .slice A1 l1.length c1] ?_; (with_reducible refine (evaluate_All.calls k1 _ _ l0_0 _ _ l0_1 a0_2 _ _ l0_3 _ _ l1 false t583 _ ?side1 ?side2 ?side3 ?side4 ?side5 ?side6 ?side7 ?side8 A46.out (tb_on HTB.out (be1_ HB GE560))).mono ?_); (case side1 => exact cs_ (Kd.C_below HR0_0.out HB.out)); (case side2 => exact HC0_0.out); (case side3 => exact cs_ (Kd.C_below HR0_1.out HB.out)); (case side4 => exact HC0_1.out); (case side5 => exact cs_ (Kd.C_below HR0_3.out HB.out)); (case side6 => exact HC0_3.out); (case side7 => exact cs_ (Kd.C_below HR1.out HB.out)); (case side8 => exact HC1.out); rintro e w89 ⟨rfl, hb⟩; refine ⟨_, rfl, ?_⟩; replace HO_7 := mk_ (Kd.R_below (rq_ HO_7) hb); replace BK560 := mk_ (bb_ BK560 hb); replace HB := mk_ (below_step (be1_ HB GE560) hb); (try clear hb); (try clear hb2); (try clear hk); (try clear hi); obtain ⟨_, _, _, _, _, _, _, _⟩ := hb4_ BK560) | ((with_reducible refine gate_callee (f := 32) rfl ?_); refine gl_ (some 64) Tryd.func32 #[.agg #[.slice A0_0 l0_0.length c0_0, .slice A0_1 l0_1.length c0_1, .int .i64 a0_2, .slice A0_3 l0_3.length c0_3], .slice A1 l1.length c1] ?_; (with_reducible refine (evaluate_Which.calls k1 _ _ l0_0 _ _ l0_1 a0_2 _ _ l0_3 _ _ l1 t584 t587 _ ?side1 ?side2 ?side3 ?side4 ?side5 ?side6 ?side7 ?side8 A47.out (tb_on HTB.out (be1_ HB GE560))).mono ?_); (case side1 => exact cs_ (Kd.C_below HR0_0.out HB.out)); (case side2 => exact HC0_0.out); (case side3 => exact cs_ (Kd.C_below HR0_1.out HB.out)); (case side4 => exact HC0_1.out); (case side5 => exact cs_ (Kd.C_below HR0_3.out HB.out)); (case side6 => exact HC0_3.out); (case side7 => exact cs_ (Kd.C_below HR1.out HB.out)); (case side8 => exact HC1.out); rintro e w91 ⟨v585, rfl, ho0, hb⟩; refine ⟨_, rfl, ?_⟩; have HO586 := mk_ (Kd.R_lower (Kd.R_new' ho0 (Kd.R_lt (rq_ HO_7))) (below_size (be1_ HB GE560))); replace HO_7 := mk_ (Kd.R_elder' (rq_ HO_7) (Kd.R_base ho0) hb); replace BK560 := mk_ (bb_ BK560 hb); replace HB := mk_ (below_step (be1_ HB GE560) hb); (try clear hb); (try clear hb2); (try clear hk); (try clear hi); (try clear ho0); obtain ⟨Ao92, co92, eo92⟩ := Kd.R_slice HO586.out; subst eo92))
         go_ret
         exact ⟨er_, be1_ HB GE560⟩
 ·replace c4 := Bool.eq_false_iff.mpr c4
  subst c4
  rw [if_neg nf_] at H
  obtain rfl := Option.some.inj H
  go_enter Tryd.func11, Tryd.ntmps11
  go_wp2_with (first | ((with_reducible refine gate_dst (N := 2) rfl ?_); (try (refine gate_guard (by rfl) ?_; dsimp only)); refine bx_ 2 #[.slice A0_0 l0_0.length c0_0, .slice A0_1 l0_1.length c0_1, .int .i64 a0_2, .slice A0_3 l0_3.length c0_3] 28 ?_; intro gb560 hg w93 hbox hb; have BK560 := mk_ (hbox); have GW560 := mk_ (gs_ hg (be_ HB)); have GE560 := mk_ (gs_ hg (be_ HB)); replace HB := mk_ (below_step (be_ HB) hb); clear hb hbox hg) | ((with_reducible refine gate_callee (f := 12) rfl ?_); refine gl_ (some 16) Tryd.func12 #[] ?_; (with_reducible refine (pentaglotlaw26_awake.calls k  false _ A3.out (tb_on HTB.out (be1_ HB GE560))).mono ?_); rintro e w94 ⟨rfl, hb⟩; refine ⟨_, rfl, ?_⟩; replace BK560 := mk_ (bb_ BK560 hb); replace HB := mk_ (below_step (be1_ HB GE560) hb); (try clear hb); (try clear hb2); (try clear hk); (try clear hi)))
  go_ret
  exact ⟨er_, be1_ HB GE560⟩

/-- THE ONE PURE STATEMENT of pentaglotlaw26_EvaluateLists. -/
def pentaglotlaw26_EvaluateLists.Pure : Prop := ∀ (p0 : S28) (p1 : List (S32)), wf28 p0 → (∀ a ∈ p1, wf32 a) → bulk28 p0 + ((p1.map bulk32).sum + 1) ≤ 1048576 → ∃ k, pentaglotlaw26_EvaluateLists.f k p0.f0.f0 p0.f0.f1 p0.f0.f2 p0.f1 p1 = some true

end Go.Proofs.YtolpckflofjfhaaDoor.P
