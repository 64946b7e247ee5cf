-- Written by the session's own program wip/tools/xprint.py out of the translation, with the kit's print.py on a scratch copy; functions given by hand stand among them.
import Derived.Test.YtolpckflofjfhaaDoorPx0
namespace Go.Proofs.YtolpckflofjfhaaDoor.P
open Go.RowKit Go.Proofs.YtolpckflofjfhaaDoorW.PrintWords Go.Proofs.YtolpckflofjfhaaDoorW.PrintLast Go.Proofs.YtolpckflofjfhaaDoorW.PrintMore
attribute [local go_sem] max2_int min2_int max_two min_two max_three min_three max_four min_four   -- for this text's walks alone
set_option linter.unusedVariables false
set_option linter.unusedSimpArgs false

/-! ### evaluate_some: function 42, by hand -/
def someL (all : Bool) (p : Int → Option Bool) : Nat → Int → Option Bool
 | 0, _ => some all
 | n + 1, i => (p i).bind fun b => if b = all then someL all p n (i + 1) else some (!all)
set_option maxHeartbeats 8000000 in
set_option maxRecDepth 100000 in
theorem some_any (g : Nat) (lb : Array Value) (all : Bool) (p : Int → Option Bool) (lo hi : Int) (r : Bool) (w : World) (eg : ∀ (args : Array Value) (w : World), (callFunc g args).run Tryd.prog w = .ok (.enter g args) w)
  (hp : ∀ (W : World) (i : Int) (b : Bool), Below w.heap.size w W → lo ≤ i → i < hi → p i = some b → Calls Tryd.prog g (#[.int .i64 i] ++ lb) W fun e w' => e = .returned (.bool b) ∧ Below W.heap.size W w')
  (hlo : -9223372036854775808 ≤ lo) (hhi : hi ≤ 9223372036854775807) (h : someL all p (hi - lo).toNat lo = some r) :
  Calls Tryd.prog 42 #[.bool all, .int .i64 lo, .int .i64 hi, .func (.func g) #[] lb] w fun e w' => e = .returned (.bool r) ∧ Below w.heap.size w w' := by
 have HP := Aside0.mk hp
 have HH := Aside0.mk (And.intro hlo hhi)
 have HR := Aside0.mk h
 clear hp hlo hhi h
 go_enter Tryd.func42, Tryd.ntmps42
 go_wp2
 go_loopw [9] (fun v wr => ∃ i : Int, v = .int .i64 i ∧ Aside0 (lo ≤ i) ∧ Aside0 (someL all p (hi - i).toNat i = some r) ∧ Aside0 (Below w.heap.size w wr)) (fun v _ => (hi - intOf v).toNat)
 case atStart => exact ⟨lo, rfl, ⟨Int.le_refl _⟩, HR, ⟨Below.refl _ _⟩⟩
 case round =>
  clear HR
  obtain ⟨i, rfl, HI, HR, HB⟩ := hrel
  by_cases hlt : i < hi
  ·have c1 : decide (i < hi) = true := decide_eq_true hlt
   have h := HR.out
   rw [show (hi - i).toNat = (hi - (i + 1)).toNat + 1 by omega, someL] at h
   obtain ⟨b, hb, h⟩ := Option.bind_eq_some_iff.1 h
   have HC := Aside0.mk (HP.out wr i b HB.out HI.out hlt hb)
   have e1 : wrap64 (i + 1) = i + 1 := by have := HH.out; have := HI.out; unfold wrap64; omega
   have HM : Aside0 ((hi - (i + 1)).toNat < (hi - i).toNat) := ⟨by omega⟩
   clear HR hb hlt
   cases b <;> cases all
   ·rw [if_pos rfl] at h
    have HR := Aside0.mk h
    clear h
    go_wp2_with (go_at_fn g; refine HC.out.mono ?_; rintro e w1 ⟨rfl, hb1⟩; have HB1 := Aside0.mk (HB.out.trans (hb1.mono HB.out.size)); clear hb1)
    go_roundw
    case rel => exact ⟨i + 1, by rw [e1], ⟨by have := HI.out; omega⟩, HR, HB1⟩
    case measure => rw [e1]; exact HM.out
   ·rw [if_neg (by decide)] at h
    obtain rfl := Option.some.inj h
    clear h
    go_wp2_with (go_at_fn g; refine HC.out.mono ?_; rintro e w1 ⟨rfl, hb1⟩; have HB1 := Aside0.mk (HB.out.trans (hb1.mono HB.out.size)); clear hb1)
    go_ret
    exact ⟨rfl, HB1.out⟩
   ·rw [if_neg (by decide)] at h
    obtain rfl := Option.some.inj h
    clear h
    go_wp2_with (go_at_fn g; refine HC.out.mono ?_; rintro e w1 ⟨rfl, hb1⟩; have HB1 := Aside0.mk (HB.out.trans (hb1.mono HB.out.size)); clear hb1)
    go_ret
    exact ⟨rfl, HB1.out⟩
   ·rw [if_pos rfl] at h
    have HR := Aside0.mk h
    clear h
    go_wp2_with (go_at_fn g; refine HC.out.mono ?_; rintro e w1 ⟨rfl, hb1⟩; have HB1 := Aside0.mk (HB.out.trans (hb1.mono HB.out.size)); clear hb1)
    go_roundw
    case rel => exact ⟨i + 1, by rw [e1], ⟨by have := HI.out; omega⟩, HR, HB1⟩
    case measure => rw [e1]; exact HM.out
  ·have c1 : decide (i < hi) = false := decide_eq_false hlt
   have h := HR.out
   rw [show (hi - i).toNat = 0 by omega, someL] at h
   obtain rfl := Option.some.inj h
   clear h hlt HR
   go_wp2
   go_ret
   exact ⟨rfl, HB.out⟩

-- NOT PRINTED: function 54 (evaluate_model_truth_1)

/-! ### strconv_Itoa: function 66, by hand -/
def strconv_Itoa.f (a0 : Int) : Option ByteArray := if -9223372036854775808 ≤ a0 ∧ a0 ≤ 9223372036854775807 then some (itB a0) else none
theorem strconv_Itoa.calls (a0 : Int) (r : ByteArray) (w : World) (h : strconv_Itoa.f a0 = some r) (htb : Tb w) :
  Calls Tryd.prog 66 #[.int .i64 a0] w fun e w' => e = .returned (.string r) ∧ Below w.heap.size w w' := by
 unfold strconv_Itoa.f at h
 by_cases hb : -9223372036854775808 ≤ a0 ∧ a0 ≤ 9223372036854775807
 ·rw [if_pos hb] at h
  obtain rfl := Option.some.inj h
  exact it_calls a0 hb.1 hb.2 w htb
 ·rw [if_neg hb] at h; cases h

/-! ### evaluate_name: function 55 -/
def evaluate_name.f (a0_0 : Int) (a0_1 : Int) (a0_2 : ByteArray) (l1 : List ByteArray) : Option (ByteArray) := if a0_0 = 1 then (if 0 ≤ (wrap64 ((wrap64 ((l1.length : Int) - 1)) - a0_1)) then (if (wrap64 ((wrap64 ((l1.length : Int) - 1)) - a0_1)) < (l1.length : Int) then (some (rdOf ByteArray.empty l1 (wrap64 ((wrap64 ((l1.length : Int) - 1)) - a0_1)))) else (none)) else (none)) else (if a0_0 = 2 then (some a0_2) else (if a0_0 = 3 then ((strconv_Itoa.f a0_1).bind fun t166 => (if 1 + t166.size ≤ 9223372036854775807 then (some ((⟨#[64]⟩ : ByteArray) ++ t166)) else (none))) else ((strconv_Itoa.f a0_1).bind fun t167 => (some t167))))
set_option maxHeartbeats 8000000 in
set_option maxRecDepth 100000 in
theorem evaluate_name.calls (a0_0 : Int) (a0_1 : Int) (a0_2 : ByteArray) (A1 : Option Addr) (c1 : Nat) (l1 : List ByteArray) (r : ByteArray) (w : World) (hr1 : Kd.C Kd.string w A1 l1.length l1) (hc1 : l1.length ≤ c1) (h : evaluate_name.f a0_0 a0_1 a0_2 l1 = some r) (htb : Tb w) :
  Calls Tryd.prog 55 #[.agg #[.int .i64 a0_0, .int .i64 a0_1, .string a0_2], .slice A1 l1.length c1] w fun e w' => e = .returned (.string r) ∧ Below w.heap.size w w' := by
 have HTB := Aside0.mk htb
 clear htb
 have hu92 := Tryd.underlying92
 have HR1 := Aside0.mk hr1
 have HC1 := Aside0.mk hc1
 clear hr1 hc1
 have HB := Aside0.mk (Below.refl w.heap.size w)
 have H : (if a0_0 = 1 then (if 0 ≤ (wrap64 ((wrap64 ((l1.length : Int) - 1)) - a0_1)) then (if (wrap64 ((wrap64 ((l1.length : Int) - 1)) - a0_1)) < (l1.length : Int) then (some (rdOf ByteArray.empty l1 (wrap64 ((wrap64 ((l1.length : Int) - 1)) - a0_1)))) else (none)) else (none)) else (if a0_0 = 2 then (some a0_2) else (if a0_0 = 3 then ((strconv_Itoa.f a0_1).bind fun t166 => (if 1 + t166.size ≤ 9223372036854775807 then (some ((⟨#[64]⟩ : ByteArray) ++ t166)) else (none))) else ((strconv_Itoa.f a0_1).bind fun t167 => (some t167))))) = some r := h
 clear h
 by_cases c3 : a0_0 = 1
 ·rw [if_pos c3] at H
  have c3b0 : (a0_0 == 1) = true := beq_iff_eq.mpr c3
  have c3b1 : (a0_0 != 1) = false := bne_eq_false_iff_eq.mpr c3
  clear c3
  obtain ⟨ji4, hji4⟩ : ∃ j_ : Int, (wrap64 ((wrap64 ((l1.length : Int) - 1)) - a0_1)) = j_ := ⟨_, rfl⟩
  replace H : (if 0 ≤ (ji4) then (if (ji4) < (l1.length : Int) then (some (rdOf ByteArray.empty l1 (ji4))) else (none)) else (none)) = some r := by first | (rw [hji4] at H; exact H) | (simp only [hji4] at H ⊢; exact H)
  have hji4w : (IntKind.i64.wrap ((wrap64 ((l1.length : Int) - 1)) - a0_1)) = ji4 := (i64_w _).trans hji4
  by_cases c5 : 0 ≤ (ji4)
  ·rw [if_pos c5] at H
   have c5b0 : decide (0 ≤ (ji4)) = true := decide_eq_true c5
   clear c5
   by_cases c6 : (ji4) < (l1.length : Int)
   ·rw [if_pos c6] at H
    have c6b0 : decide ((ji4) < (l1.length : Int)) = true := decide_eq_true c6
    clear c6
    obtain rfl := Option.some.inj H
    go_enter Tryd.func55, Tryd.ntmps55
    go_wp2_with (first | ((with_reducible refine gate_dst (N := 2) rfl ?_); refine box_event ?hg (N := 2) ?hd (cs := #[.int .i64 a0_0, .int .i64 a0_1, .string a0_2]) (t := 92) ?hr ?_; (case hd => rfl); (case hg => rfl); (case hr => first | (go_simp; done) | (go_simp; rfl)); intro gb164 hg w7 hbox hb; have n0_ := Aside0.mk (below_step (be_ HB) hb); have n1_ := Aside0.mk (hbox); have n2_ := Aside0.mk ((by rw [hg]; exact (below_size (be_ HB)) : w.heap.size ≤ gb164)); have n3_ := Aside0.mk ((by rw [hg]; exact (below_size (be_ HB)) : w.heap.size ≤ gb164)); clear HB; have HB := n0_; have BK164 := n1_; have GW164 := n2_; have GE164 := n3_; clear n0_ n1_ n2_ n3_; clear hb hbox hg; have hcz8_0 : w7.cell? ⟨gb164, 0, none⟩ = some (.int .i64 a0_0) := (blk_cell BK164.out 0).trans rfl; have hcz8_1 : w7.cell? ⟨gb164, 1, none⟩ = some (.int .i64 a0_1) := (blk_cell BK164.out 1).trans rfl; have hcz8_2 : w7.cell? ⟨gb164, 2, none⟩ = some (.string a0_2) := (blk_cell BK164.out 2).trans rfl; have hfz8_0 := blk_frozen BK164.out 0; have hfz8_1 := blk_frozen BK164.out 1; have hfz8_2 := blk_frozen BK164.out 2; have p165 : 0 ≤ ((ji4) : Int) := of_decide_eq_true (by first | (with_reducible assumption) | assumption); have q165 : (ji4) < (l1.length : Int) := of_decide_eq_true (by first | (with_reducible assumption) | assumption); obtain ⟨ad165, e165, hx165_0⟩ := Kd.at_string HR1.out (ji4) p165 q165; cases e165; replace hx165_0 := (HB.out.cell (World.block_lt_of_cell? w _ hx165_0)).trans hx165_0; replace p165 := eq_true p165; replace q165 := eq_true q165))
    go_ret
    exact ⟨by first | rfl | (simp [errW_none, errW_some] <;> rfl) | (simp only [← hji4]; first | rfl | (simp [errW_none, errW_some] <;> rfl)) | (simp [*, errW_none, errW_some] <;> rfl), be1_ HB GE164⟩
   ·rw [if_neg c6] at H
    exact absurd H (by simp)
  ·rw [if_neg c5] at H
   exact absurd H (by simp)
 ·rw [if_neg c3] at H
  have c3b0 : (a0_0 == 1) = false := beq_eq_false_iff_ne.mpr c3
  have c3b1 : (a0_0 != 1) = true := bne_iff_ne.mpr c3
  by_cases c9 : a0_0 = 2
  ·rw [if_pos c9] at H
   have c9b0 : (a0_0 == 2) = true := beq_iff_eq.mpr c9
   have c9b1 : (a0_0 != 2) = false := bne_eq_false_iff_eq.mpr c9
   clear c9
   obtain rfl := Option.some.inj H
   go_enter Tryd.func55, Tryd.ntmps55
   go_wp2_with (first | ((with_reducible refine gate_dst (N := 2) rfl ?_); refine box_event ?hg (N := 2) ?hd (cs := #[.int .i64 a0_0, .int .i64 a0_1, .string a0_2]) (t := 92) ?hr ?_; (case hd => rfl); (case hg => rfl); (case hr => first | (go_simp; done) | (go_simp; rfl)); intro gb164 hg w10 hbox hb; have n0_ := Aside0.mk (below_step (be_ HB) hb); have n1_ := Aside0.mk (hbox); have n2_ := Aside0.mk ((by rw [hg]; exact (below_size (be_ HB)) : w.heap.size ≤ gb164)); have n3_ := Aside0.mk ((by rw [hg]; exact (below_size (be_ HB)) : w.heap.size ≤ gb164)); clear HB; have HB := n0_; have BK164 := n1_; have GW164 := n2_; have GE164 := n3_; clear n0_ n1_ n2_ n3_; clear hb hbox hg; have hcz11_0 : w10.cell? ⟨gb164, 0, none⟩ = some (.int .i64 a0_0) := (blk_cell BK164.out 0).trans rfl; have hcz11_1 : w10.cell? ⟨gb164, 1, none⟩ = some (.int .i64 a0_1) := (blk_cell BK164.out 1).trans rfl; have hcz11_2 : w10.cell? ⟨gb164, 2, none⟩ = some (.string a0_2) := (blk_cell BK164.out 2).trans rfl; have hfz11_0 := blk_frozen BK164.out 0; have hfz11_1 := blk_frozen BK164.out 1; have hfz11_2 := blk_frozen BK164.out 2))
   go_ret
   exact ⟨er_, be1_ HB GE164⟩
  ·rw [if_neg c9] at H
   have c9b0 : (a0_0 == 2) = false := beq_eq_false_iff_ne.mpr c9
   have c9b1 : (a0_0 != 2) = true := bne_iff_ne.mpr c9
   by_cases c12 : a0_0 = 3
   ·rw [if_pos c12] at H
    have c12b0 : (a0_0 == 3) = true := beq_iff_eq.mpr c12
    have c12b1 : (a0_0 != 3) = false := bne_eq_false_iff_eq.mpr c12
    clear c12
    replace H := Option.bind_eq_some_iff.mp H
    obtain ⟨t166, A130, H⟩ := H
    replace H : (if 1 + t166.size ≤ 9223372036854775807 then (some ((⟨#[64]⟩ : ByteArray) ++ t166)) else (none)) = some r := H
    have A13 := Aside0.mk A130
    clear A130
    by_cases c14 : 1 + t166.size ≤ 9223372036854775807
    ·rw [if_pos c14] at H
     have c14b0 := eq_true c14
     have c14b1 : decide (1 + t166.size ≤ 9223372036854775807) = true := decide_eq_true c14
     try have c14b2 : (9223372036854775807 < 1 + t166.size) = False := eq_false (Nat.not_lt.2 c14)
     obtain rfl := Option.some.inj H
     go_enter Tryd.func55, Tryd.ntmps55
     go_wp2_with (first | ((with_reducible refine gate_dst (N := 2) rfl ?_); refine box_event ?hg (N := 2) ?hd (cs := #[.int .i64 a0_0, .int .i64 a0_1, .string a0_2]) (t := 92) ?hr ?_; (case hd => rfl); (case hg => rfl); (case hr => first | (go_simp; done) | (go_simp; rfl)); intro gb164 hg w15 hbox hb; have n0_ := Aside0.mk (below_step (be_ HB) hb); have n1_ := Aside0.mk (hbox); have n2_ := Aside0.mk ((by rw [hg]; exact (below_size (be_ HB)) : w.heap.size ≤ gb164)); have n3_ := Aside0.mk ((by rw [hg]; exact (below_size (be_ HB)) : w.heap.size ≤ gb164)); clear HB; have HB := n0_; have BK164 := n1_; have GW164 := n2_; have GE164 := n3_; clear n0_ n1_ n2_ n3_; clear hb hbox hg; have hcz16_0 : w15.cell? ⟨gb164, 0, none⟩ = some (.int .i64 a0_0) := (blk_cell BK164.out 0).trans rfl; have hcz16_1 : w15.cell? ⟨gb164, 1, none⟩ = some (.int .i64 a0_1) := (blk_cell BK164.out 1).trans rfl; have hcz16_2 : w15.cell? ⟨gb164, 2, none⟩ = some (.string a0_2) := (blk_cell BK164.out 2).trans rfl; have hfz16_0 := blk_frozen BK164.out 0; have hfz16_1 := blk_frozen BK164.out 1; have hfz16_2 := blk_frozen BK164.out 2) | ((with_reducible refine gate_callee (f := 66) rfl ?_); refine goesL_ (some 26) rfl rfl Tryd.func66 (by kernel_rfl) rfl #[.int .i64 a0_1] rfl (by (try simp only [List.map_toArray, List.map_cons, List.map_nil]); first | done | rfl | (simp only [List.length_drop, List.length_take]; rfl)) ?_; (with_reducible refine (strconv_Itoa.calls a0_1 t166 _ A13.out (tb_on HTB.out (be1_ HB GE164))).mono ?_); rintro e w17 ⟨rfl, hb⟩; refine ⟨_, rfl, ?_⟩; have n0_ := Aside0.mk (blk_below (g := gb164) (o := .cells #[.int .i64 a0_0, .int .i64 a0_1, .string a0_2] 92 (0, 0)) (bq_ BK164) hb); have n1_ := Aside0.mk (below_step (be1_ HB GE164) hb); clear BK164; clear HB; have BK164 := n0_; have HB := n1_; clear n0_ n1_; (try clear hb); (try clear hb2); (try clear hk); (try clear hi)))
     go_ret
     exact ⟨er_, be1_ HB GE164⟩
    ·rw [if_neg c14] at H
     exact absurd H (by simp)
   ·rw [if_neg c12] at H
    have c12b0 : (a0_0 == 3) = false := beq_eq_false_iff_ne.mpr c12
    have c12b1 : (a0_0 != 3) = true := bne_iff_ne.mpr c12
    replace H := Option.bind_eq_some_iff.mp H
    obtain ⟨t167, A180, H⟩ := H
    replace H : (some t167) = some r := H
    have A18 := Aside0.mk A180
    clear A180
    obtain rfl := Option.some.inj H
    go_enter Tryd.func55, Tryd.ntmps55
    go_wp2_with (first | ((with_reducible refine gate_dst (N := 2) rfl ?_); refine box_event ?hg (N := 2) ?hd (cs := #[.int .i64 a0_0, .int .i64 a0_1, .string a0_2]) (t := 92) ?hr ?_; (case hd => rfl); (case hg => rfl); (case hr => first | (go_simp; done) | (go_simp; rfl)); intro gb164 hg w19 hbox hb; have n0_ := Aside0.mk (below_step (be_ HB) hb); have n1_ := Aside0.mk (hbox); have n2_ := Aside0.mk ((by rw [hg]; exact (below_size (be_ HB)) : w.heap.size ≤ gb164)); have n3_ := Aside0.mk ((by rw [hg]; exact (below_size (be_ HB)) : w.heap.size ≤ gb164)); clear HB; have HB := n0_; have BK164 := n1_; have GW164 := n2_; have GE164 := n3_; clear n0_ n1_ n2_ n3_; clear hb hbox hg; have hcz20_0 : w19.cell? ⟨gb164, 0, none⟩ = some (.int .i64 a0_0) := (blk_cell BK164.out 0).trans rfl; have hcz20_1 : w19.cell? ⟨gb164, 1, none⟩ = some (.int .i64 a0_1) := (blk_cell BK164.out 1).trans rfl; have hcz20_2 : w19.cell? ⟨gb164, 2, none⟩ = some (.string a0_2) := (blk_cell BK164.out 2).trans rfl; have hfz20_0 := blk_frozen BK164.out 0; have hfz20_1 := blk_frozen BK164.out 1; have hfz20_2 := blk_frozen BK164.out 2) | ((with_reducible refine gate_callee (f := 66) rfl ?_); refine goesL_ (some 30) rfl rfl Tryd.func66 (by kernel_rfl) rfl #[.int .i64 a0_1] rfl (by (try simp only [List.map_toArray, List.map_cons, List.map_nil]); first | done | rfl | (simp only [List.length_drop, List.length_take]; rfl)) ?_; (with_reducible refine (strconv_Itoa.calls a0_1 t167 _ A18.out (tb_on HTB.out (be1_ HB GE164))).mono ?_); rintro e w21 ⟨rfl, hb⟩; refine ⟨_, rfl, ?_⟩; have n0_ := Aside0.mk (blk_below (g := gb164) (o := .cells #[.int .i64 a0_0, .int .i64 a0_1, .string a0_2] 92 (0, 0)) (bq_ BK164) hb); have n1_ := Aside0.mk (below_step (be1_ HB GE164) hb); clear BK164; clear HB; have BK164 := n0_; have HB := n1_; clear n0_ n1_; (try clear hb); (try clear hb2); (try clear hk); (try clear hi)))
    go_ret
    exact ⟨er_, be1_ HB GE164⟩

-- NOT PRINTED: function 56 (evaluate_model_truth_2)

-- NOT PRINTED: function 57 (evaluate_model_truth_3)

-- NOT PRINTED: function 58 (evaluate_model_truth_4)

end Go.Proofs.YtolpckflofjfhaaDoor.P
