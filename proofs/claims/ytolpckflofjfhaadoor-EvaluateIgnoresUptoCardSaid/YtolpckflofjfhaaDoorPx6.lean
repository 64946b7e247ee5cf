-- printed by wip/tools/xprint.py
import Derived.Test.YtolpckflofjfhaaDoorPx0
namespace Go.Proofs.YtolpckflofjfhaaDoor.P
open Go.RowKit Go.Proofs.YtolpckflofjfhaaDoorW.PrintWords Go.Proofs.YtolpckflofjfhaaDoorW.PrintLast Go.Proofs.YtolpckflofjfhaaDoorW.PrintMore
attribute [local go_sem] max2_int min2_int max_two min_two max_three min_three max_four min_four
set_option linter.unusedVariables false
set_option maxHeartbeats 8000000
set_option maxRecDepth 100000
set_option linter.unusedSimpArgs false

def evaluate_individuals.l0 : Nat → ByteArray → List (S73) → Int → Int → Option (List ByteArray × Bool)
 | 0, _, _, _, _ => none
 | k + 1, x1, x9, x10, x11 => if x11 < x10 then (if 0 ≤ x11 then (if x11 < (x9.length : Int) then (if ((rd_T73 x9 x11).f0).toList = x1.toList then (some ((rd_T73 x9 x11).f1, true)) else (evaluate_individuals.l0 k x1 x9 x10 (wrap64 (x11 + 1)))) else (none)) else (none)) else (some (([] : List ByteArray), false))
def evaluate_individuals.f (k : Nat) (l0_0 : List (S73)) (l0_1 : List Int) (a0_2 : Int) (a1 : ByteArray) : Option (List ByteArray × Bool) := evaluate_individuals.l0 k a1 l0_0 (l0_0.length : Int) 0
theorem evaluate_individuals.calls (k : Nat) (P0_0_ : Nat → Prop) (A0_0 : Option Addr) (c0_0 : Nat) (l0_0 : List (S73)) (A0_1 : Option Addr) (c0_1 : Nat) (l0_1 : List Int) (a0_2 : Int) (a1 : ByteArray) (r1 : List ByteArray) (r2 : Bool) (w : World) (hs0_0 : Kd.V k73 73 w w.heap.size (fun k_ => P0_0_ k_) (.slice A0_0 l0_0.length c0_0) l0_0) (hr0_1 : Kd.C (Kd.int .i64) w A0_1 l0_1.length l0_1) (hc0_1 : l0_1.length ≤ c0_1) (h : evaluate_individuals.f k l0_0 l0_1 a0_2 a1 = some (r1, r2)) :
  Calls Tryd.prog 47 #[.agg #[.slice A0_0 l0_0.length c0_0, .slice A0_1 l0_1.length c0_1, .int .i64 a0_2], .string a1] w fun e w' => ∃ v0_ : Value, e = .returned (.tuple #[v0_, .bool r2]) ∧ Kd.V Kd.string 9 w' w.heap.size (fun k_ => (P0_0_ k_ ∨ w.heap.size ≤ k_)) v0_ r1 ∧ Below w.heap.size w w' := by
 have hu25 := Tryd.underlying25
 have hu73 := Tryd.underlying73
 have HO0_0 := mk_ (show Kd.V k73 73 w w.heap.size (fun k_ => (P0_0_ k_ ∨ w.heap.size ≤ k_)) (.slice A0_0 l0_0.length c0_0) l0_0 from Kd.V_mono hs0_0 (fun k_ hk => .inl hk))
 have HR0_1 := mk_ hr0_1
 have HC0_1 := mk_ hc0_1
 clear hr0_1 hc0_1
 have HB := mk_ (Below.refl w.heap.size w)
 have H : (evaluate_individuals.l0 k a1 l0_0 (l0_0.length : Int) 0) = some (r1, r2) := h
 clear h
 have H' := mk_ H
 clear H
 go_enter Tryd.func47, Tryd.ntmps47
 go_wp2_with (first | ((with_reducible refine gate_dst (N := 2) rfl ?_); refine bx_ 2 #[.slice A0_0 l0_0.length c0_0, .slice A0_1 l0_1.length c0_1, .int .i64 a0_2] 25 ?_; intro gb148 hg w3 hbox hb; have BK148 := mk_ (hbox); have GW148 := mk_ (gs_ hg (be_ HB)); have GE148 := mk_ (gs_ hg (be_ HB)); replace HO0_0 := mk_ (Kd.V_below (Kd.V_elderB (vq_ HO0_0) gb148 (Nat.le_of_eq hg.symm)) hb); replace HB := mk_ (below_step (be_ HB) hb); clear hb hbox hg; obtain ⟨_, _, _, _, _, _⟩ := hb3_ BK148))
 go_loopg [11] k (fun kq v11 w' => ∃ (x11_1 : Int), v11 = .int .i64 x11_1 ∧ Aside0 (evaluate_individuals.l0 kq a1 l0_0 (l0_0.length : Int) x11_1 = some (r1, r2)) ∧ Aside0 (kq ≤ k) ∧ Aside0 (Kd.V k73 73 w' w.heap.size (fun k_ => (P0_0_ k_ ∨ w.heap.size ≤ k_) ∧ k_ ≠ gb148) (.slice A0_0 l0_0.length c0_0) l0_0) ∧ Aside0 (Kd.V k73 73 w' w.heap.size (fun k_ => (P0_0_ k_ ∨ w.heap.size ≤ k_) ∧ k_ ≠ gb148) (.slice A0_0 l0_0.length c0_0) l0_0) ∧ Aside0 (w'.heap[gb148]? = some (.cells #[(.slice A0_0 l0_0.length c0_0), (.slice A0_1 l0_1.length c0_1), .int .i64 a0_2] 25 (0, 0))) ∧ Aside0 (Below w.heap.size w w'))
 case atStart => exact ⟨(0), fi_, H', ⟨Nat.le_refl _⟩, ⟨vq_ HO0_0⟩, ⟨vq_ HO0_0⟩, ⟨bq_ BK148⟩, ⟨be1_ HB GE148⟩⟩
 case round =>
  clear H'
  obtain ⟨x11_1, rfl, HA, HK1, HO_9, HO_149000, BK148, HB⟩ := hrel
  cases gk with
  | zero => exact absurd HA.out (by simp [evaluate_individuals.l0])
  | succ k1 =>
   have H := HA.out
   clear HA
   simp only [evaluate_individuals.l0] at H
   by_cases c5 : x11_1 < (l0_0.length : Int)
   ·rw [if_pos c5] at H
    have c5b0 : decide (x11_1 < (l0_0.length : Int)) = true := decide_eq_true c5
    clear c5
    by_cases c6 : 0 ≤ x11_1
    ·rw [if_pos c6] at H
     have c6b0 : decide (0 ≤ x11_1) = true := decide_eq_true c6
     clear c6
     by_cases c7 : x11_1 < (l0_0.length : Int)
     ·rw [if_pos c7] at H
      have c7b0 : decide (x11_1 < (l0_0.length : Int)) = true := decide_eq_true c7
      clear c7
      by_cases c8 : ((rd_T73 l0_0 x11_1).f0).toList = a1.toList
      ·rw [if_pos c8] at H
       obtain ⟨c8b0, c8b1⟩ := eb_ c8
       clear c8
       simp only [Option.some.injEq, Prod.mk.injEq] at H
       obtain ⟨rfl, rfl⟩ := H
       have p149 : 0 ≤ (x11_1 : Int) := of_decide_eq_true (by first | (with_reducible assumption) | assumption)
       have q149 : x11_1 < (l0_0.length : Int) := of_decide_eq_true (by first | (with_reducible assumption) | assumption)
       obtain ⟨ad149, A149_1, c149_1, e149, hx149_0, hx149_1, hl149_1, hi149_1⟩ := at_T73 (Kd.V_reads' HO_9.out).2.2 x11_1 p149 q149
       cases e149
       obtain ⟨ce149, hce149, hMe149, hcc149⟩ := Kd.V_get HO_9.out z73 x11_1 p149 (by first | exact q149 | exact of_decide_eq_true (by first | (with_reducible assumption) | assumption) | (have e_ := (Kd.V_reads' HO_9.out).1; omega))
       obtain ⟨ua149_1, uc149_1, rfl, ul149_1, ge149_1⟩ := k73_openF hMe149
       have hv149_1 := hcc149 1 _ rfl
       rw [add_field _ _ 1 (by omega)] at hv149_1
       replace hv149_1 := Option.some.inj (hv149_1.symm.trans hx149_1)
       injection hv149_1 with hva_ hvn_ hvc_
       rw [hva_] at ge149_1
       rw [hvc_] at ul149_1
       have HL149_1 := mk_ (show Kd.V Kd.string 9 _ w.heap.size _ _ ((rd_T73 l0_0 x11_1).f1) from Kd.V_mk ul149_1 ge149_1)
       clear hva_ hvn_ hvc_ ge149_1 ul149_1
       clear hcc149 hce149
       have HR149_1 := mk_ hi149_1
       have HC149_1 := mk_ hl149_1
       clear hi149_1 hl149_1
       replace p149 := eq_true p149
       replace q149 := eq_true q149
       go_wp2_with (first | ((with_reducible refine gate_dst (N := 7) rfl ?_); refine bx_ 7 #[.string (⟨#[]⟩ : ByteArray), .slice none 0 0] 73 ?_; intro gb150 hg w9 hbox hb; have n0_ := mk_ (Kd.V_below (Kd.V_elderB (vq_ HO_9) gb150 (Nat.le_of_eq hg.symm)) hb); have n1_ := mk_ (Kd.V_below (Kd.V_elderB (vq_ HO_149000) gb150 (Nat.le_of_eq hg.symm)) hb); have n2_ := mk_ (Kd.V_below (Kd.V_elderB (vq_ HL149_1) gb150 (Nat.le_of_eq hg.symm)) hb); have n3_ := mk_ (bb_ BK148 hb); have n4_ := mk_ (Kd.C_below (cq_ HR149_1) hb); have n5_ := mk_ (below_step (be1_ HB GE148) hb); have n6_ := mk_ (hbox); have n7_ := mk_ (gs_ hg (be1_ HB GE148)); have n8_ := mk_ (gs_ hg (be1_ HB GE148)); have n9_ := mk_ ((by rw [hg]; exact Nat.ne_of_lt (blk_lt (g := gb148) (o := .cells #[.slice (some ad149) l0_0.length c0_0, .slice A0_1 l0_1.length c0_1, .int .i64 a0_2] 25 (0, 0)) (bq_ BK148)) : gb148 ≠ gb150)); have n10_ := mk_ ((by rw [hg]; exact Nat.ne_of_gt (blk_lt (g := gb148) (o := .cells #[.slice (some ad149) l0_0.length c0_0, .slice A0_1 l0_1.length c0_1, .int .i64 a0_2] 25 (0, 0)) (bq_ BK148)) : gb150 ≠ gb148)); clear HO_9; clear HO_149000; clear HL149_1; clear BK148; clear HR149_1; clear HB; have HO_9 := n0_; have HO_149000 := n1_; have HL149_1 := n2_; have BK148 := n3_; have HR149_1 := n4_; have HB := n5_; have BK150 := n6_; have GW150 := n7_; have GE150 := n8_; have NB148_150 := n9_; have NB150_148 := n10_; clear n0_ n1_ n2_ n3_ n4_ n5_ n6_ n7_ n8_ n9_ n10_; clear hb hbox hg; have hnb10 := NB150_148.out; have hnc10 := NB148_150.out; obtain ⟨_, _, _, _⟩ := hb2_ BK150))
       go_ret2
       exact ⟨_, er_, by refine sv_ ?_; exact Kd.V_mono (Kd.V_far (p := ⟨gb150, 1, none⟩) (Kd.V_far (p := ⟨gb150, 0, none⟩) (Kd.V_mono HL149_1.out (fun k_ hk => (⟨hk, hk.2⟩ : _ ∧ k_ ≠ gb150))) (fun _ hk => hk.2) (.string ((rd_T73 l0_0 x11_1).f0))) (fun _ hk => hk.2) (.slice A149_1 ((rd_T73 l0_0 x11_1).f1).length c149_1)) (fun _ hk => hk.1.1.1), be2_ HB GE148 GE150⟩
      ·rw [if_neg c8] at H
       obtain ⟨c8b0, c8b1⟩ := en_ c8
       have H' := mk_ H
       clear H
       have p149 : 0 ≤ (x11_1 : Int) := of_decide_eq_true (by first | (with_reducible assumption) | assumption)
       have q149 : x11_1 < (l0_0.length : Int) := of_decide_eq_true (by first | (with_reducible assumption) | assumption)
       obtain ⟨ad149, A149_1, c149_1, e149, hx149_0, hx149_1, hl149_1, hi149_1⟩ := at_T73 (Kd.V_reads' HO_9.out).2.2 x11_1 p149 q149
       cases e149
       obtain ⟨ce149, hce149, hMe149, hcc149⟩ := Kd.V_get HO_9.out z73 x11_1 p149 (by first | exact q149 | exact of_decide_eq_true (by first | (with_reducible assumption) | assumption) | (have e_ := (Kd.V_reads' HO_9.out).1; omega))
       obtain ⟨ua149_1, uc149_1, rfl, ul149_1, ge149_1⟩ := k73_openF hMe149
       have hv149_1 := hcc149 1 _ rfl
       rw [add_field _ _ 1 (by omega)] at hv149_1
       replace hv149_1 := Option.some.inj (hv149_1.symm.trans hx149_1)
       injection hv149_1 with hva_ hvn_ hvc_
       rw [hva_] at ge149_1
       rw [hvc_] at ul149_1
       have HL149_1 := mk_ (show Kd.V Kd.string 9 _ w.heap.size _ _ ((rd_T73 l0_0 x11_1).f1) from Kd.V_mk ul149_1 ge149_1)
       clear hva_ hvn_ hvc_ ge149_1 ul149_1
       clear hcc149 hce149
       have HR149_1 := mk_ hi149_1
       have HC149_1 := mk_ hl149_1
       clear hi149_1 hl149_1
       replace p149 := eq_true p149
       replace q149 := eq_true q149
       go_wp2_with (first | ((with_reducible refine gate_dst (N := 7) rfl ?_); refine bx_ 7 #[.string (⟨#[]⟩ : ByteArray), .slice none 0 0] 73 ?_; intro gb150 hg w12 hbox hb; have n0_ := mk_ (Kd.V_below (Kd.V_elderB (vq_ HO_9) gb150 (Nat.le_of_eq hg.symm)) hb); have n1_ := mk_ (Kd.V_below (Kd.V_elderB (vq_ HO_149000) gb150 (Nat.le_of_eq hg.symm)) hb); have n2_ := mk_ (Kd.V_below (Kd.V_elderB (vq_ HL149_1) gb150 (Nat.le_of_eq hg.symm)) hb); have n3_ := mk_ (bb_ BK148 hb); have n4_ := mk_ (Kd.C_below (cq_ HR149_1) hb); have n5_ := mk_ (below_step (be1_ HB GE148) hb); have n6_ := mk_ (hbox); have n7_ := mk_ (gs_ hg (be1_ HB GE148)); have n8_ := mk_ (gs_ hg (be1_ HB GE148)); have n9_ := mk_ ((by rw [hg]; exact Nat.ne_of_lt (blk_lt (g := gb148) (o := .cells #[.slice (some ad149) l0_0.length c0_0, .slice A0_1 l0_1.length c0_1, .int .i64 a0_2] 25 (0, 0)) (bq_ BK148)) : gb148 ≠ gb150)); have n10_ := mk_ ((by rw [hg]; exact Nat.ne_of_gt (blk_lt (g := gb148) (o := .cells #[.slice (some ad149) l0_0.length c0_0, .slice A0_1 l0_1.length c0_1, .int .i64 a0_2] 25 (0, 0)) (bq_ BK148)) : gb150 ≠ gb148)); clear HO_9; clear HO_149000; clear HL149_1; clear BK148; clear HR149_1; clear HB; have HO_9 := n0_; have HO_149000 := n1_; have HL149_1 := n2_; have BK148 := n3_; have HR149_1 := n4_; have HB := n5_; have BK150 := n6_; have GW150 := n7_; have GE150 := n8_; have NB148_150 := n9_; have NB150_148 := n10_; clear n0_ n1_ n2_ n3_ n4_ n5_ n6_ n7_ n8_ n9_ n10_; clear hb hbox hg; have hnb13 := NB150_148.out; have hnc13 := NB148_150.out; obtain ⟨_, _, _, _⟩ := hb2_ BK150))
       go_roundg k1
       case measure => have := HK1.out; omega
       case rel => exact ⟨(wrap64 (x11_1 + 1)), fi_, H', ⟨by have := HK1.out; omega⟩, ⟨by refine sv_ ?_; exact Kd.V_mono (Kd.V_far (p := ⟨gb150, 1, none⟩) (Kd.V_far (p := ⟨gb150, 0, none⟩) (Kd.V_mono HO_9.out (fun k_ hk => (⟨hk, hk.2⟩ : _ ∧ k_ ≠ gb150))) (fun _ hk => hk.2) (.string ((rd_T73 l0_0 x11_1).f0))) (fun _ hk => hk.2) (.slice A149_1 ((rd_T73 l0_0 x11_1).f1).length c149_1)) (fun _ hk => ⟨hk.1.1.1, hk.1.1.2⟩)⟩, ⟨by refine sv_ ?_; exact Kd.V_mono (Kd.V_far (p := ⟨gb150, 1, none⟩) (Kd.V_far (p := ⟨gb150, 0, none⟩) (Kd.V_mono HO_149000.out (fun k_ hk => (⟨hk, hk.2⟩ : _ ∧ k_ ≠ gb150))) (fun _ hk => hk.2) (.string ((rd_T73 l0_0 x11_1).f0))) (fun _ hk => hk.2) (.slice A149_1 ((rd_T73 l0_0 x11_1).f1).length c149_1)) (fun _ hk => ⟨hk.1.1.1, hk.1.1.2⟩)⟩, ⟨by refine sb_ ?_; refine blk_far ?_ NB148_150.out _; refine sb_ ?_; refine blk_far ?_ NB148_150.out _; refine sb_ ?_; exact BK148.out⟩, ⟨be2_ HB GE148 GE150⟩⟩
     ·rw [if_neg c7] at H
      exact absurd H (by simp)
    ·rw [if_neg c6] at H
     exact absurd H (by simp)
   ·rw [if_neg c5] at H
    have c5b0 : decide (x11_1 < (l0_0.length : Int)) = false := decide_eq_false c5
    clear c5
    simp only [Option.some.injEq, Prod.mk.injEq] at H
    obtain ⟨rfl, rfl⟩ := H
    go_wp2
    go_ret2
    exact ⟨_, er_, Kd.V_nil _ _ _ _ _, be1_ HB GE148⟩

end Go.Proofs.YtolpckflofjfhaaDoor.P
