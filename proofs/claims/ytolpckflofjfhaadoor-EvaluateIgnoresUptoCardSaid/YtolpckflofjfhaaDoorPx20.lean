-- printed by wip/tools/xprint.py
import Derived.Test.YtolpckflofjfhaaDoorPx0
namespace Go.Proofs.YtolpckflofjfhaaDoor.P
open Go.RowKit Go.Proofs.YtolpckflofjfhaaDoorW.PrintWords Go.Proofs.YtolpckflofjfhaaDoorW.PrintLast Go.Proofs.YtolpckflofjfhaaDoorW.PrintMore
attribute [local go_sem] max2_int min2_int max_two min_two max_three min_three max_four min_four
set_option linter.unusedVariables false
set_option maxHeartbeats 8000000
set_option maxRecDepth 100000
set_option linter.unusedSimpArgs false

def pentaglotref26_Individuals.l0 : Nat → ByteArray → Int → List (S73) → List Int → Int → Option (List ByteArray × Bool)
 | 0, _, _, _, _, _ => none
 | k + 1, x1, x6, x259000, x259001, x259002 => if x6 < (x259000.length : Int) then (if 0 ≤ x6 then (if ((rd_T73 x259000 x6).f0).toList = x1.toList then (some ((rd_T73 x259000 x6).f1, true)) else (pentaglotref26_Individuals.l0 k x1 (wrap64 (x6 + 1)) x259000 x259001 x259002)) else (none)) else (some (([] : List ByteArray), false))
def pentaglotref26_Individuals.f (k : Nat) (l0_0 : List (S73)) (l0_1 : List Int) (a0_2 : Int) (a1 : ByteArray) : Option (List ByteArray × Bool) := pentaglotref26_Individuals.l0 k a1 0 l0_0 l0_1 a0_2
theorem pentaglotref26_Individuals.calls (k : Nat) (P0_0_ : Nat → Prop) (A0_0 : Option Addr) (c0_0 : Nat) (l0_0 : List (S73)) (A0_1 : Option Addr) (c0_1 : Nat) (l0_1 : List Int) (a0_2 : Int) (a1 : ByteArray) (r1 : List ByteArray) (r2 : Bool) (w : World) (hs0_0 : Kd.V k73 73 w w.heap.size (fun k_ => P0_0_ k_) (.slice A0_0 l0_0.length c0_0) l0_0) (hr0_1 : Kd.C (Kd.int .i64) w A0_1 l0_1.length l0_1) (hc0_1 : l0_1.length ≤ c0_1) (h : pentaglotref26_Individuals.f k l0_0 l0_1 a0_2 a1 = some (r1, r2)) :
  Calls Tryd.prog 48 #[.agg #[.slice A0_0 l0_0.length c0_0, .slice A0_1 l0_1.length c0_1, .int .i64 a0_2], .string a1] w fun e w' => ∃ v0_ : Value, e = .returned (.tuple #[v0_, .bool r2]) ∧ Kd.V Kd.string 9 w' w.heap.size (fun k_ => (P0_0_ k_ ∨ w.heap.size ≤ k_)) v0_ r1 ∧ Below w.heap.size w w' := by
 have hu25 := Tryd.underlying25
 have HO0_0 := mk_ (show Kd.V k73 73 w w.heap.size (fun k_ => (P0_0_ k_ ∨ w.heap.size ≤ k_)) (.slice A0_0 l0_0.length c0_0) l0_0 from Kd.V_mono hs0_0 (fun k_ hk => .inl hk))
 have HR0_1 := mk_ hr0_1
 have HC0_1 := mk_ hc0_1
 clear hr0_1 hc0_1
 have HB := mk_ (Below.refl w.heap.size w)
 have H : (pentaglotref26_Individuals.l0 k a1 0 l0_0 l0_1 a0_2) = some (r1, r2) := h
 clear h
 have H' := mk_ H
 clear H
 go_enter Tryd.func48, Tryd.ntmps48
 go_wp2_with (first | ((with_reducible refine gate_dst (N := 2) rfl ?_); refine bx_ 2 #[.slice A0_0 l0_0.length c0_0, .slice A0_1 l0_1.length c0_1, .int .i64 a0_2] 25 ?_; intro gb258 hg w3 hbox hb; have BK258 := mk_ (hbox); have GW258 := mk_ (gs_ hg (be_ HB)); have GE258 := mk_ (gs_ hg (be_ HB)); replace HO0_0 := mk_ (Kd.V_below (Kd.V_elderB (vq_ HO0_0) gb258 (Nat.le_of_eq hg.symm)) hb); replace HB := mk_ (below_step (be_ HB) hb); clear hb hbox hg))
 go_loopg [6] k (fun kq v6 w' => ∃ (x6_1 : Int), v6 = .int .i64 x6_1 ∧ Aside0 (pentaglotref26_Individuals.l0 kq a1 x6_1 l0_0 l0_1 a0_2 = some (r1, r2)) ∧ Aside0 (kq ≤ k) ∧ Aside0 (Kd.V k73 73 w' w.heap.size (fun k_ => (P0_0_ k_ ∨ w.heap.size ≤ k_) ∧ k_ ≠ gb258) (.slice A0_0 l0_0.length c0_0) l0_0) ∧ Aside0 (w'.heap[gb258]? = some (.cells #[(.slice A0_0 l0_0.length c0_0), (.slice A0_1 l0_1.length c0_1), .int .i64 a0_2] 25 (0, 0))) ∧ Aside0 (Below w.heap.size w w'))
 case atStart => exact ⟨(0), fi_, H', ⟨Nat.le_refl _⟩, ⟨vq_ HO0_0⟩, ⟨bq_ BK258⟩, ⟨be1_ HB GE258⟩⟩
 case round =>
  clear H'
  obtain ⟨x6_1, rfl, HA, HK1, HO_259000, BK258, HB⟩ := hrel
  cases gk with
  | zero => exact absurd HA.out (by simp [pentaglotref26_Individuals.l0])
  | succ k1 =>
   have H := HA.out
   clear HA
   simp only [pentaglotref26_Individuals.l0] at H
   by_cases c4 : x6_1 < (l0_0.length : Int)
   ·rw [if_pos c4] at H
    have c4b0 : decide (x6_1 < (l0_0.length : Int)) = true := decide_eq_true c4
    clear c4
    by_cases c5 : 0 ≤ x6_1
    ·rw [if_pos c5] at H
     have c5b0 : decide (0 ≤ x6_1) = true := decide_eq_true c5
     clear c5
     by_cases c6 : ((rd_T73 l0_0 x6_1).f0).toList = a1.toList
     ·rw [if_pos c6] at H
      obtain ⟨c6b0, c6b1⟩ := eb_ c6
      clear c6
      simp only [Option.some.injEq, Prod.mk.injEq] at H
      obtain ⟨rfl, rfl⟩ := H
      obtain ⟨_, _, _, _, _, _⟩ := hb3_ BK258
      have p259 : 0 ≤ (x6_1 : Int) := of_decide_eq_true (by first | (with_reducible assumption) | assumption)
      have q259 : x6_1 < (l0_0.length : Int) := of_decide_eq_true (by first | (with_reducible assumption) | assumption)
      obtain ⟨ad259, A259_1, c259_1, e259, hx259_0, hx259_1, hl259_1, hi259_1⟩ := at_T73 (Kd.V_reads' HO_259000.out).2.2 x6_1 p259 q259
      cases e259
      obtain ⟨ce259, hce259, hMe259, hcc259⟩ := Kd.V_get HO_259000.out z73 x6_1 p259 (by first | exact q259 | exact of_decide_eq_true (by first | (with_reducible assumption) | assumption) | (have e_ := (Kd.V_reads' HO_259000.out).1; omega))
      obtain ⟨ua259_1, uc259_1, rfl, ul259_1, ge259_1⟩ := k73_openF hMe259
      have hv259_1 := hcc259 1 _ rfl
      rw [add_field _ _ 1 (by omega)] at hv259_1
      replace hv259_1 := Option.some.inj (hv259_1.symm.trans hx259_1)
      injection hv259_1 with hva_ hvn_ hvc_
      rw [hva_] at ge259_1
      rw [hvc_] at ul259_1
      have HL259_1 := mk_ (show Kd.V Kd.string 9 _ w.heap.size _ _ ((rd_T73 l0_0 x6_1).f1) from Kd.V_mk ul259_1 ge259_1)
      clear hva_ hvn_ hvc_ ge259_1 ul259_1
      clear hcc259 hce259
      have HR259_1 := mk_ hi259_1
      have HC259_1 := mk_ hl259_1
      clear hi259_1 hl259_1
      replace p259 := eq_true p259
      replace q259 := eq_true q259
      have p260 : 0 ≤ (x6_1 : Int) := of_decide_eq_true (by first | (with_reducible assumption) | assumption)
      have q260 : x6_1 < (l0_0.length : Int) := of_decide_eq_true (by first | (with_reducible assumption) | assumption)
      obtain ⟨ad260, A260_1, c260_1, e260, hx260_0, hx260_1, hl260_1, hi260_1⟩ := at_T73 (Kd.V_reads' HO_259000.out).2.2 x6_1 p260 q260
      obtain rfl : ad259 = ad260 := (by injection e260)
      obtain ⟨ce260, hce260, hMe260, hcc260⟩ := Kd.V_get HO_259000.out z73 x6_1 p260 (by first | exact q260 | exact of_decide_eq_true (by first | (with_reducible assumption) | assumption) | (have e_ := (Kd.V_reads' HO_259000.out).1; omega))
      obtain ⟨ua260_1, uc260_1, rfl, ul260_1, ge260_1⟩ := k73_openF hMe260
      have hv260_1 := hcc260 1 _ rfl
      rw [add_field _ _ 1 (by omega)] at hv260_1
      replace hv260_1 := Option.some.inj (hv260_1.symm.trans hx260_1)
      injection hv260_1 with hva_ hvn_ hvc_
      rw [hva_] at ge260_1
      rw [hvc_] at ul260_1
      have HL260_1 := mk_ (show Kd.V Kd.string 9 _ w.heap.size _ _ ((rd_T73 l0_0 x6_1).f1) from Kd.V_mk ul260_1 ge260_1)
      clear hva_ hvn_ hvc_ ge260_1 ul260_1
      clear hcc260 hce260
      have HR260_1 := mk_ hi260_1
      have HC260_1 := mk_ hl260_1
      clear hi260_1 hl260_1
      replace p260 := eq_true p260
      replace q260 := eq_true q260
      have ea_ := Option.some.inj (hx259_1.symm.trans hx260_1)
      injection ea_ with ea_ en_ ec_
      subst ea_
      subst ec_
      clear en_
      go_wp2
      go_ret2
      exact ⟨_, er_, by refine sv_ ?_; exact Kd.V_mono HL260_1.out (fun _ hk => hk.1), be1_ HB GE258⟩
     ·rw [if_neg c6] at H
      obtain ⟨c6b0, c6b1⟩ := en_ c6
      have H' := mk_ H
      clear H
      obtain ⟨_, _, _, _, _, _⟩ := hb3_ BK258
      have p259 : 0 ≤ (x6_1 : Int) := of_decide_eq_true (by first | (with_reducible assumption) | assumption)
      have q259 : x6_1 < (l0_0.length : Int) := of_decide_eq_true (by first | (with_reducible assumption) | assumption)
      obtain ⟨ad259, A259_1, c259_1, e259, hx259_0, hx259_1, hl259_1, hi259_1⟩ := at_T73 (Kd.V_reads' HO_259000.out).2.2 x6_1 p259 q259
      cases e259
      obtain ⟨ce259, hce259, hMe259, hcc259⟩ := Kd.V_get HO_259000.out z73 x6_1 p259 (by first | exact q259 | exact of_decide_eq_true (by first | (with_reducible assumption) | assumption) | (have e_ := (Kd.V_reads' HO_259000.out).1; omega))
      obtain ⟨ua259_1, uc259_1, rfl, ul259_1, ge259_1⟩ := k73_openF hMe259
      have hv259_1 := hcc259 1 _ rfl
      rw [add_field _ _ 1 (by omega)] at hv259_1
      replace hv259_1 := Option.some.inj (hv259_1.symm.trans hx259_1)
      injection hv259_1 with hva_ hvn_ hvc_
      rw [hva_] at ge259_1
      rw [hvc_] at ul259_1
      have HL259_1 := mk_ (show Kd.V Kd.string 9 _ w.heap.size _ _ ((rd_T73 l0_0 x6_1).f1) from Kd.V_mk ul259_1 ge259_1)
      clear hva_ hvn_ hvc_ ge259_1 ul259_1
      clear hcc259 hce259
      have HR259_1 := mk_ hi259_1
      have HC259_1 := mk_ hl259_1
      clear hi259_1 hl259_1
      replace p259 := eq_true p259
      replace q259 := eq_true q259
      go_wp2
      go_roundg k1
      case measure => have := HK1.out; omega
      case rel => exact ⟨(wrap64 (x6_1 + 1)), fi_, H', ⟨by have := HK1.out; omega⟩, ⟨vq_ HO_259000⟩, ⟨bq_ BK258⟩, ⟨be1_ HB GE258⟩⟩
    ·rw [if_neg c5] at H
     exact absurd H (by simp)
   ·rw [if_neg c4] at H
    have c4b0 : decide (x6_1 < (l0_0.length : Int)) = false := decide_eq_false c4
    clear c4
    simp only [Option.some.injEq, Prod.mk.injEq] at H
    obtain ⟨rfl, rfl⟩ := H
    obtain ⟨_, _, _, _, _, _⟩ := hb3_ BK258
    go_wp2
    go_ret2
    exact ⟨_, er_, Kd.V_nil _ _ _ _ _, be1_ HB GE258⟩

end Go.Proofs.YtolpckflofjfhaaDoor.P
