import Derived.Test.YtolpckflofjfhaaDoorPx0
import Derived.Test.YtolpckflofjfhaaDoorPx1
import Derived.Test.YtolpckflofjfhaaDoorPx3
namespace Go.Proofs.YtolpckflofjfhaaDoor.P
open Go.RowKit Go.Proofs.YtolpckflofjfhaaDoorW.PrintWords Go.Proofs.YtolpckflofjfhaaDoorW.PrintLast Go.Proofs.YtolpckflofjfhaaDoorW.PrintMore
attribute [local go_sem] max2_int min2_int max_two min_two max_three min_three max_four min_four
set_option linter.unusedVariables false
set_option maxHeartbeats 8000000
set_option maxRecDepth 100000
set_option linter.unusedSimpArgs false
mutual
def formula_formed.j0 : Nat → Int → Int → ByteArray → List (S92) → Int → Int → List (S32) → Option (Bool)
 | 0, _, _, _, _, _, _, _ => none
 | k + 1, x1, x127000, x127001, x127002, x127003, x127004, x127005 => formula_formed.l0 k x1 x127005 (x127005.length : Int) 0
def formula_formed.l0 : Nat → Int → List (S32) → Int → Int → Option (Bool)
 | 0, _, _, _, _ => none
 | k + 1, x1, x17, x18, x19 => if x19 < x18 then (if 0 ≤ x19 then (if x19 < (x17.length : Int) then ((formula_formed.f k ((rd_T32 x17 x19).f0) ((rd_T32 x17 x19).f1) ((rd_T32 x17 x19).f2) ((rd_T32 x17 x19).f3) ((rd_T32 x17 x19).f4) ((rd_T32 x17 x19).f5) x1).bind fun t131 => (if t131 = true then (formula_formed.l0 k x1 x17 x18 (wrap64 (x19 + 1))) else (some false))) else (none)) else (none)) else (some true)
def formula_formed.f : Nat → Int → ByteArray → List (S92) → Int → Int → List (S32) → Int → Option (Bool)
 | 0, _, _, _, _, _, _, _ => none
 | k + 1, a0_0, a0_1, l0_2, a0_3, a0_4, l0_5, a1 => (formula_fields.f k a0_0 a0_1 l0_2 a0_3 a0_4 l0_5 a1).bind fun t127 => (if t127 = true then ((formula_binds.f a0_0).bind fun t128 => (if t128 = true then (formula_formed.j0 k (wrap64 (a1 + 1)) a0_0 a0_1 l0_2 a0_3 a0_4 l0_5) else (formula_formed.j0 k a1 a0_0 a0_1 l0_2 a0_3 a0_4 l0_5))) else (some false))
end
theorem formula_formed.calls (k : Nat) : ∀ (a0_0 : Int) (a0_1 : ByteArray) (A0_2 : Option Addr) (c0_2 : Nat) (l0_2 : List (S92)) (a0_3 : Int) (a0_4 : Int) (A0_5 : Option Addr) (c0_5 : Nat) (l0_5 : List (S32)) (a1 : Int) (r : Bool) (w : World) (hr0_2 : Kd.C k92 w A0_2 l0_2.length l0_2) (hc0_2 : l0_2.length ≤ c0_2) (hr0_5 : Kd.C k32 w A0_5 l0_5.length l0_5) (hc0_5 : l0_5.length ≤ c0_5) (h : formula_formed.f k a0_0 a0_1 l0_2 a0_3 a0_4 l0_5 a1 = some r),
  Calls Tryd.prog 65 #[.agg #[.int .i64 a0_0, .string a0_1, .slice A0_2 l0_2.length c0_2, .int .i64 a0_3, .int .i64 a0_4, .slice A0_5 l0_5.length c0_5], .int .i64 a1] w fun e w' => e = .returned (.bool r) ∧ Below w.heap.size w w' := by
 induction k using Nat.strongRecOn with
 | _ k ih =>
 intro a0_0 a0_1 A0_2 c0_2 l0_2 a0_3 a0_4 A0_5 c0_5 l0_5 a1 r w hr0_2 hc0_2 hr0_5 hc0_5 h
 cases k with
 | zero => exact absurd h (by simp [formula_formed.f])
 | succ k =>
 simp only [formula_formed.f] at h
 have hu32 := Tryd.underlying32
 have HR0_2 := mk_ hr0_2; have HC0_2 := mk_ hc0_2; clear hr0_2 hc0_2
 have HR0_5 := mk_ hr0_5; have HC0_5 := mk_ hc0_5; clear hr0_5 hc0_5
 have HB := mk_ (Below.refl w.heap.size w)
 have H : ((formula_fields.f k a0_0 a0_1 l0_2 a0_3 a0_4 l0_5 a1).bind fun t127 => (if t127 = true then ((formula_binds.f a0_0).bind fun t128 => (if t128 = true then (formula_formed.j0 k (wrap64 (a1 + 1)) a0_0 a0_1 l0_2 a0_3 a0_4 l0_5) else (formula_formed.j0 k a1 a0_0 a0_1 l0_2 a0_3 a0_4 l0_5))) else (some false))) = some r := h
 clear h
 replace H := Option.bind_eq_some_iff.mp H
 obtain ⟨t127, A30, H⟩ := H
 replace H : (if t127 = true then ((formula_binds.f a0_0).bind fun t128 => (if t128 = true then (formula_formed.j0 k (wrap64 (a1 + 1)) a0_0 a0_1 l0_2 a0_3 a0_4 l0_5) else (formula_formed.j0 k a1 a0_0 a0_1 l0_2 a0_3 a0_4 l0_5))) else (some false)) = some r := H
 have A3 := mk_ A30
 clear A30
 by_cases c4 : t127 = true
 ·subst c4
  rw [if_pos rfl] at H
  replace H := Option.bind_eq_some_iff.mp H
  obtain ⟨t128, A50, H⟩ := H
  replace H : (if t128 = true then (formula_formed.j0 k (wrap64 (a1 + 1)) a0_0 a0_1 l0_2 a0_3 a0_4 l0_5) else (formula_formed.j0 k a1 a0_0 a0_1 l0_2 a0_3 a0_4 l0_5)) = some r := H
  have A5 := mk_ A50
  clear A50
  have HC6 := mk_ H
  clear H
  go_enter Tryd.func65, Tryd.ntmps65
  go_upto_if 13 with (first | ((with_reducible refine gate_dst (N := 2) rfl ?_); refine bx_ 2 #[.int .i64 a0_0, .string a0_1, .slice A0_2 l0_2.length c0_2, .int .i64 a0_3, .int .i64 a0_4, .slice A0_5 l0_5.length c0_5] 32 ?_; intro gb126 hg w7 hbox hb; have BK126 := mk_ (hbox); have GW126 := mk_ (gs_ hg (be_ HB)); have GE126 := mk_ (gs_ hg (be_ HB)); replace HB := mk_ (below_step (be_ HB) hb); clear hb hbox hg; obtain ⟨_, _, _, _, _, _, _, _, _, _, _, _⟩ := hb6_ BK126) | ((with_reducible refine gate_callee (f := 74) rfl ?_); refine gl_ (some 9) Tryd.func74 #[.agg #[.int .i64 a0_0, .string a0_1, .slice A0_2 l0_2.length c0_2, .int .i64 a0_3, .int .i64 a0_4, .slice A0_5 l0_5.length c0_5], .int .i64 a1] ?_; (with_reducible refine (formula_fields.calls k a0_0 a0_1 _ _ l0_2 a0_3 a0_4 _ _ l0_5 a1 true _ ?side1 ?side2 ?side3 ?side4 A3.out).mono ?_); (case side1 => exact cs_ (Kd.C_below HR0_2.out HB.out)); (case side2 => exact HC0_2.out); (case side3 => exact cs_ (Kd.C_below HR0_5.out HB.out)); (case side4 => exact HC0_5.out); rintro e w9 ⟨rfl, hb⟩; refine ⟨_, rfl, ?_⟩; replace BK126 := mk_ (bb_ BK126 hb); replace HB := mk_ (below_step (be1_ HB GE126) hb); obtain ⟨_, _, _, _, _, _, _, _, _, _, _, _⟩ := hb6_ BK126) | ((with_reducible refine gate_callee (f := 75) rfl ?_); refine gl_ (some 13) Tryd.func75 #[.int .i64 a0_0] ?_; (with_reducible refine (formula_binds.calls a0_0 t128 _ A5.out).mono ?_); rintro e w' ⟨rfl, ⟨nd, rfl⟩⟩; refine ⟨_, rfl, ?_⟩))
  (try simp only [Act.put, List.setIfInBounds_toArray, List.set_cons_zero, List.set_cons_succ])
  go_cut [1] (fun v1 wc => ∃ (kq : Nat) (x1_5 : Int), v1 = .int .i64 x1_5 ∧ Aside0 (formula_formed.j0 kq x1_5 a0_0 a0_1 l0_2 a0_3 a0_4 l0_5 = some r) ∧ Aside0 (kq ≤ k) ∧ Aside0 (wc.heap[gb126]? = some (.cells #[.int .i64 a0_0, .string a0_1, (.slice A0_2 l0_2.length c0_2), .int .i64 a0_3, .int .i64 a0_4, (.slice A0_5 l0_5.length c0_5)] 32 (0, 0))) ∧ Aside0 (Below w.heap.size w wc))
  case first =>
   have H := HC6.out
   clear HC6
   by_cases c11 : t128 = true
   ·subst c11
    rw [if_pos rfl] at H
    have H' := mk_ H
    clear H
    go_wp2
    go_meet
    case rel => exact ⟨_, (wrap64 (a1 + 1)), fi_, H', ⟨by first | omega | exact Nat.le_refl _⟩, ⟨bq_ BK126⟩, ⟨be1_ HB GE126⟩⟩
   ·replace c11 := Bool.eq_false_iff.mpr c11
    subst c11
    rw [if_neg nf_] at H
    have H' := mk_ H
    clear H
    go_wp2
    go_meet
    case rel => exact ⟨_, (a1), fi_, H', ⟨by first | omega | exact Nat.le_refl _⟩, ⟨bq_ BK126⟩, ⟨be1_ HB GE126⟩⟩
  case rest =>
   clear HC6
   obtain ⟨kq, x1_5, rfl, HA, HJ5, BK126, HB⟩ := hcut
   cases kq with
   | zero => exact absurd HA.out (by simp [formula_formed.j0])
   | succ kj5 =>
    have H := HA.out
    clear HA
    simp only [formula_formed.j0] at H
    have H' := mk_ H
    clear H
    obtain ⟨_, _, _, _, _, _, _, _, _, _, _, _⟩ := hb6_ BK126
    go_wp2
    go_loopg [19] kj5 (fun kq v19 w' => ∃ (x19_2 : Int), v19 = .int .i64 x19_2 ∧ Aside0 (formula_formed.l0 kq x1_5 l0_5 (l0_5.length : Int) x19_2 = some r) ∧ Aside0 (kq ≤ kj5) ∧ Aside0 (w'.heap[gb126]? = some (.cells #[.int .i64 a0_0, .string a0_1, (.slice A0_2 l0_2.length c0_2), .int .i64 a0_3, .int .i64 a0_4, (.slice A0_5 l0_5.length c0_5)] 32 (0, 0))) ∧ Aside0 (Below w.heap.size w w'))
    case atStart => exact ⟨(0), fi_, H', ⟨Nat.le_refl _⟩, ⟨bq_ BK126⟩, ⟨be1_ HB GE126⟩⟩
    case round =>
     clear H'
     obtain ⟨x19_2, rfl, HA, HK2, BK126, HB⟩ := hrel
     cases gk with
     | zero => exact absurd HA.out (by simp [formula_formed.l0])
     | succ k2 =>
      have H := HA.out
      clear HA
      simp only [formula_formed.l0] at H
      by_cases c13 : x19_2 < (l0_5.length : Int)
      ·rw [if_pos c13] at H
       have c13b0 : decide (x19_2 < (l0_5.length : Int)) = true := decide_eq_true c13
       clear c13
       by_cases c14 : 0 ≤ x19_2
       ·rw [if_pos c14] at H
        have c14b0 : decide (0 ≤ x19_2) = true := decide_eq_true c14
        clear c14
        by_cases c15 : x19_2 < (l0_5.length : Int)
        ·rw [if_pos c15] at H
         have c15b0 : decide (x19_2 < (l0_5.length : Int)) = true := decide_eq_true c15
         clear c15
         replace H := Option.bind_eq_some_iff.mp H
         obtain ⟨t131, A160, H⟩ := H
         replace H : (if t131 = true then (formula_formed.l0 k2 x1_5 l0_5 (l0_5.length : Int) (wrap64 (x19_2 + 1))) else (some false)) = some r := H
         have A16 := mk_ A160
         clear A160
         by_cases c17 : t131 = true
         ·subst c17
          rw [if_pos rfl] at H
          have H' := mk_ H
          clear H
          have p129 : 0 ≤ (x19_2 : Int) := of_decide_eq_true (by first | (with_reducible assumption) | assumption)
          have q129 : x19_2 < (l0_5.length : Int) := of_decide_eq_true (by first | (with_reducible assumption) | assumption)
          obtain ⟨ad129, A129_2, c129_2, A129_5, c129_5, e129, hx129_0, hx129_1, hx129_2, hx129_3, hx129_4, hx129_5, hl129_2, hi129_2, hl129_5, hi129_5⟩ := at_T32 HR0_5.out x19_2 p129 q129
          cases e129
          replace hx129_0 := cb_ HB hx129_0
          replace hx129_1 := cb_ HB hx129_1
          replace hx129_2 := cb_ HB hx129_2
          replace hx129_3 := cb_ HB hx129_3
          replace hx129_4 := cb_ HB hx129_4
          replace hx129_5 := cb_ HB hx129_5
          have HR129_2 := mk_ hi129_2; have HC129_2 := mk_ hl129_2; clear hi129_2 hl129_2
          have HR129_5 := mk_ hi129_5; have HC129_5 := mk_ hl129_5; clear hi129_5 hl129_5
          replace p129 := eq_true p129
          replace q129 := eq_true q129
          go_wp2_with (first | ((with_reducible refine gate_dst (N := 6) rfl ?_); refine bx_ 6 #[.int .i64 0, .string (⟨#[]⟩ : ByteArray), .slice none 0 0, .int .i64 0, .int .i64 0, .slice none 0 0] 32 ?_; intro gb130 hg w18 hbox hb; have n0_ := mk_ (bb_ BK126 hb); have n1_ := mk_ (below_step (be1_ HB GE126) hb); have n2_ := mk_ (hbox); have n3_ := mk_ (gs_ hg (be1_ HB GE126)); have n4_ := mk_ (gs_ hg (be1_ HB GE126)); have n5_ := mk_ ((by rw [hg]; exact Nat.ne_of_lt (blk_lt (g := gb126) (o := .cells #[.int .i64 a0_0, .string a0_1, .slice A0_2 l0_2.length c0_2, .int .i64 a0_3, .int .i64 a0_4, .slice (some ad129) l0_5.length c0_5] 32 (0, 0)) (bq_ BK126)) : gb126 ≠ gb130)); have n6_ := mk_ ((by rw [hg]; exact Nat.ne_of_gt (blk_lt (g := gb126) (o := .cells #[.int .i64 a0_0, .string a0_1, .slice A0_2 l0_2.length c0_2, .int .i64 a0_3, .int .i64 a0_4, .slice (some ad129) l0_5.length c0_5] 32 (0, 0)) (bq_ BK126)) : gb130 ≠ gb126)); clear BK126; clear HB; have BK126 := n0_; have HB := n1_; have BK130 := n2_; have GW130 := n3_; have GE130 := n4_; have NB126_130 := n5_; have NB130_126 := n6_; clear n0_ n1_ n2_ n3_ n4_ n5_ n6_; clear hb hbox hg; have hnb19 := NB130_126.out; have hnc19 := NB126_130.out; obtain ⟨_, _, _, _, _, _, _, _, _, _, _, _⟩ := hb6_ BK130) | ((with_reducible refine gate_callee (f := 65) rfl ?_); refine gl_ (some 25) Tryd.func65 #[.agg #[.int .i64 ((rd_T32 l0_5 x19_2).f0), .string ((rd_T32 l0_5 x19_2).f1), .slice A129_2 ((rd_T32 l0_5 x19_2).f2).length c129_2, .int .i64 ((rd_T32 l0_5 x19_2).f3), .int .i64 ((rd_T32 l0_5 x19_2).f4), .slice A129_5 ((rd_T32 l0_5 x19_2).f5).length c129_5], .int .i64 x1_5] ?_; (with_reducible refine (ih k2 (by have := HJ5.out; have := HK2.out; omega) ((rd_T32 l0_5 x19_2).f0) ((rd_T32 l0_5 x19_2).f1) _ _ ((rd_T32 l0_5 x19_2).f2) ((rd_T32 l0_5 x19_2).f3) ((rd_T32 l0_5 x19_2).f4) _ _ ((rd_T32 l0_5 x19_2).f5) x1_5 true _ ?side1 ?side2 ?side3 ?side4 A16.out).mono ?_); (case side1 => exact Kd.C_below HR129_2.out (be2_ HB GE126 GE130)); (case side2 => exact HC129_2.out); (case side3 => exact Kd.C_below HR129_5.out (be2_ HB GE126 GE130)); (case side4 => exact HC129_5.out); rintro e w21 ⟨rfl, hb⟩; refine ⟨_, rfl, ?_⟩; have n0_ := mk_ (blk_below (g := gb126) (o := .cells #[.int .i64 a0_0, .string a0_1, .slice A0_2 l0_2.length c0_2, .int .i64 a0_3, .int .i64 a0_4, .slice (some ad129) l0_5.length c0_5] 32 (0, 0)) (by refine sb_ ?_; refine blk_far ?_ NB126_130.out _; refine sb_ ?_; refine blk_far ?_ NB126_130.out _; refine sb_ ?_; refine blk_far ?_ NB126_130.out _; refine sb_ ?_; refine blk_far ?_ NB126_130.out _; refine sb_ ?_; refine blk_far ?_ NB126_130.out _; refine sb_ ?_; refine blk_far ?_ NB126_130.out _; refine sb_ ?_; exact BK126.out) hb); have n1_ := mk_ (blk_below (g := gb130) (o := .cells #[.int .i64 ((rd_T32 l0_5 x19_2).f0), .string ((rd_T32 l0_5 x19_2).f1), .slice A129_2 ((rd_T32 l0_5 x19_2).f2).length c129_2, .int .i64 ((rd_T32 l0_5 x19_2).f3), .int .i64 ((rd_T32 l0_5 x19_2).f4), .slice A129_5 ((rd_T32 l0_5 x19_2).f5).length c129_5] 32 (0, 0)) (by refine sb_ ?_; refine blk_put (cs := #[.int .i64 ((rd_T32 l0_5 x19_2).f0), .string ((rd_T32 l0_5 x19_2).f1), .slice A129_2 ((rd_T32 l0_5 x19_2).f2).length c129_2, .int .i64 ((rd_T32 l0_5 x19_2).f3), .int .i64 ((rd_T32 l0_5 x19_2).f4), .slice none 0 0]) ?_ 5 _ rfl; refine sb_ ?_; refine blk_put (cs := #[.int .i64 ((rd_T32 l0_5 x19_2).f0), .string ((rd_T32 l0_5 x19_2).f1), .slice A129_2 ((rd_T32 l0_5 x19_2).f2).length c129_2, .int .i64 ((rd_T32 l0_5 x19_2).f3), .int .i64 0, .slice none 0 0]) ?_ 4 _ rfl; refine sb_ ?_; refine blk_put (cs := #[.int .i64 ((rd_T32 l0_5 x19_2).f0), .string ((rd_T32 l0_5 x19_2).f1), .slice A129_2 ((rd_T32 l0_5 x19_2).f2).length c129_2, .int .i64 0, .int .i64 0, .slice none 0 0]) ?_ 3 _ rfl; refine sb_ ?_; refine blk_put (cs := #[.int .i64 ((rd_T32 l0_5 x19_2).f0), .string ((rd_T32 l0_5 x19_2).f1), .slice none 0 0, .int .i64 0, .int .i64 0, .slice none 0 0]) ?_ 2 _ rfl; refine sb_ ?_; refine blk_put (cs := #[.int .i64 ((rd_T32 l0_5 x19_2).f0), .string (⟨#[]⟩ : ByteArray), .slice none 0 0, .int .i64 0, .int .i64 0, .slice none 0 0]) ?_ 1 _ rfl; refine sb_ ?_; refine blk_put (cs := #[.int .i64 0, .string (⟨#[]⟩ : ByteArray), .slice none 0 0, .int .i64 0, .int .i64 0, .slice none 0 0]) ?_ 0 _ rfl; refine sb_ ?_; exact BK130.out) hb); have n2_ := mk_ (below_step (be2_ HB GE126 GE130) hb); clear BK126; clear BK130; clear HB; have BK126 := n0_; have BK130 := n1_; have HB := n2_; clear n0_ n1_ n2_))
          go_roundg k2
          case measure => have := HJ5.out; have := HK2.out; omega
          case rel => exact ⟨(wrap64 (x19_2 + 1)), fi_, H', ⟨by have := HJ5.out; have := HK2.out; omega⟩, ⟨bq_ BK126⟩, ⟨be2_ HB GE126 GE130⟩⟩
         ·replace c17 := Bool.eq_false_iff.mpr c17
          subst c17
          rw [if_neg nf_] at H
          obtain rfl := Option.some.inj H
          have p129 : 0 ≤ (x19_2 : Int) := of_decide_eq_true (by first | (with_reducible assumption) | assumption)
          have q129 : x19_2 < (l0_5.length : Int) := of_decide_eq_true (by first | (with_reducible assumption) | assumption)
          obtain ⟨ad129, A129_2, c129_2, A129_5, c129_5, e129, hx129_0, hx129_1, hx129_2, hx129_3, hx129_4, hx129_5, hl129_2, hi129_2, hl129_5, hi129_5⟩ := at_T32 HR0_5.out x19_2 p129 q129
          cases e129
          replace hx129_0 := cb_ HB hx129_0
          replace hx129_1 := cb_ HB hx129_1
          replace hx129_2 := cb_ HB hx129_2
          replace hx129_3 := cb_ HB hx129_3
          replace hx129_4 := cb_ HB hx129_4
          replace hx129_5 := cb_ HB hx129_5
          have HR129_2 := mk_ hi129_2; have HC129_2 := mk_ hl129_2; clear hi129_2 hl129_2
          have HR129_5 := mk_ hi129_5; have HC129_5 := mk_ hl129_5; clear hi129_5 hl129_5
          replace p129 := eq_true p129
          replace q129 := eq_true q129
          go_wp2_with (first | ((with_reducible refine gate_dst (N := 6) rfl ?_); refine bx_ 6 #[.int .i64 0, .string (⟨#[]⟩ : ByteArray), .slice none 0 0, .int .i64 0, .int .i64 0, .slice none 0 0] 32 ?_; intro gb130 hg w22 hbox hb; have n0_ := mk_ (bb_ BK126 hb); have n1_ := mk_ (below_step (be1_ HB GE126) hb); have n2_ := mk_ (hbox); have n3_ := mk_ (gs_ hg (be1_ HB GE126)); have n4_ := mk_ (gs_ hg (be1_ HB GE126)); have n5_ := mk_ ((by rw [hg]; exact Nat.ne_of_lt (blk_lt (g := gb126) (o := .cells #[.int .i64 a0_0, .string a0_1, .slice A0_2 l0_2.length c0_2, .int .i64 a0_3, .int .i64 a0_4, .slice (some ad129) l0_5.length c0_5] 32 (0, 0)) (bq_ BK126)) : gb126 ≠ gb130)); have n6_ := mk_ ((by rw [hg]; exact Nat.ne_of_gt (blk_lt (g := gb126) (o := .cells #[.int .i64 a0_0, .string a0_1, .slice A0_2 l0_2.length c0_2, .int .i64 a0_3, .int .i64 a0_4, .slice (some ad129) l0_5.length c0_5] 32 (0, 0)) (bq_ BK126)) : gb130 ≠ gb126)); clear BK126; clear HB; have BK126 := n0_; have HB := n1_; have BK130 := n2_; have GW130 := n3_; have GE130 := n4_; have NB126_130 := n5_; have NB130_126 := n6_; clear n0_ n1_ n2_ n3_ n4_ n5_ n6_; clear hb hbox hg; have hnb23 := NB130_126.out; have hnc23 := NB126_130.out; obtain ⟨_, _, _, _, _, _, _, _, _, _, _, _⟩ := hb6_ BK130) | ((with_reducible refine gate_callee (f := 65) rfl ?_); refine gl_ (some 25) Tryd.func65 #[.agg #[.int .i64 ((rd_T32 l0_5 x19_2).f0), .string ((rd_T32 l0_5 x19_2).f1), .slice A129_2 ((rd_T32 l0_5 x19_2).f2).length c129_2, .int .i64 ((rd_T32 l0_5 x19_2).f3), .int .i64 ((rd_T32 l0_5 x19_2).f4), .slice A129_5 ((rd_T32 l0_5 x19_2).f5).length c129_5], .int .i64 x1_5] ?_; (with_reducible refine (ih k2 (by have := HJ5.out; have := HK2.out; omega) ((rd_T32 l0_5 x19_2).f0) ((rd_T32 l0_5 x19_2).f1) _ _ ((rd_T32 l0_5 x19_2).f2) ((rd_T32 l0_5 x19_2).f3) ((rd_T32 l0_5 x19_2).f4) _ _ ((rd_T32 l0_5 x19_2).f5) x1_5 false _ ?side1 ?side2 ?side3 ?side4 A16.out).mono ?_); (case side1 => exact Kd.C_below HR129_2.out (be2_ HB GE126 GE130)); (case side2 => exact HC129_2.out); (case side3 => exact Kd.C_below HR129_5.out (be2_ HB GE126 GE130)); (case side4 => exact HC129_5.out); rintro e w25 ⟨rfl, hb⟩; refine ⟨_, rfl, ?_⟩; have n0_ := mk_ (blk_below (g := gb126) (o := .cells #[.int .i64 a0_0, .string a0_1, .slice A0_2 l0_2.length c0_2, .int .i64 a0_3, .int .i64 a0_4, .slice (some ad129) l0_5.length c0_5] 32 (0, 0)) (by refine sb_ ?_; refine blk_far ?_ NB126_130.out _; refine sb_ ?_; refine blk_far ?_ NB126_130.out _; refine sb_ ?_; refine blk_far ?_ NB126_130.out _; refine sb_ ?_; refine blk_far ?_ NB126_130.out _; refine sb_ ?_; refine blk_far ?_ NB126_130.out _; refine sb_ ?_; refine blk_far ?_ NB126_130.out _; refine sb_ ?_; exact BK126.out) hb); have n1_ := mk_ (blk_below (g := gb130) (o := .cells #[.int .i64 ((rd_T32 l0_5 x19_2).f0), .string ((rd_T32 l0_5 x19_2).f1), .slice A129_2 ((rd_T32 l0_5 x19_2).f2).length c129_2, .int .i64 ((rd_T32 l0_5 x19_2).f3), .int .i64 ((rd_T32 l0_5 x19_2).f4), .slice A129_5 ((rd_T32 l0_5 x19_2).f5).length c129_5] 32 (0, 0)) (by refine sb_ ?_; refine blk_put (cs := #[.int .i64 ((rd_T32 l0_5 x19_2).f0), .string ((rd_T32 l0_5 x19_2).f1), .slice A129_2 ((rd_T32 l0_5 x19_2).f2).length c129_2, .int .i64 ((rd_T32 l0_5 x19_2).f3), .int .i64 ((rd_T32 l0_5 x19_2).f4), .slice none 0 0]) ?_ 5 _ rfl; refine sb_ ?_; refine blk_put (cs := #[.int .i64 ((rd_T32 l0_5 x19_2).f0), .string ((rd_T32 l0_5 x19_2).f1), .slice A129_2 ((rd_T32 l0_5 x19_2).f2).length c129_2, .int .i64 ((rd_T32 l0_5 x19_2).f3), .int .i64 0, .slice none 0 0]) ?_ 4 _ rfl; refine sb_ ?_; refine blk_put (cs := #[.int .i64 ((rd_T32 l0_5 x19_2).f0), .string ((rd_T32 l0_5 x19_2).f1), .slice A129_2 ((rd_T32 l0_5 x19_2).f2).length c129_2, .int .i64 0, .int .i64 0, .slice none 0 0]) ?_ 3 _ rfl; refine sb_ ?_; refine blk_put (cs := #[.int .i64 ((rd_T32 l0_5 x19_2).f0), .string ((rd_T32 l0_5 x19_2).f1), .slice none 0 0, .int .i64 0, .int .i64 0, .slice none 0 0]) ?_ 2 _ rfl; refine sb_ ?_; refine blk_put (cs := #[.int .i64 ((rd_T32 l0_5 x19_2).f0), .string (⟨#[]⟩ : ByteArray), .slice none 0 0, .int .i64 0, .int .i64 0, .slice none 0 0]) ?_ 1 _ rfl; refine sb_ ?_; refine blk_put (cs := #[.int .i64 0, .string (⟨#[]⟩ : ByteArray), .slice none 0 0, .int .i64 0, .int .i64 0, .slice none 0 0]) ?_ 0 _ rfl; refine sb_ ?_; exact BK130.out) hb); have n2_ := mk_ (below_step (be2_ HB GE126 GE130) hb); clear BK126; clear BK130; clear HB; have BK126 := n0_; have BK130 := n1_; have HB := n2_; clear n0_ n1_ n2_))
          go_ret
          exact ⟨er_, be2_ HB GE126 GE130⟩
        ·rw [if_neg c15] at H
         exact absurd H (by simp)
       ·rw [if_neg c14] at H
        exact absurd H (by simp)
      ·rw [if_neg c13] at H
       have c13b0 : decide (x19_2 < (l0_5.length : Int)) = false := decide_eq_false c13
       clear c13
       obtain rfl := Option.some.inj H
       go_wp2
       go_ret
       exact ⟨er_, be1_ HB GE126⟩
 ·replace c4 := Bool.eq_false_iff.mpr c4
  subst c4
  rw [if_neg nf_] at H
  obtain rfl := Option.some.inj H
  go_enter Tryd.func65, Tryd.ntmps65
  go_wp2_with (first | ((with_reducible refine gate_dst (N := 2) rfl ?_); refine bx_ 2 #[.int .i64 a0_0, .string a0_1, .slice A0_2 l0_2.length c0_2, .int .i64 a0_3, .int .i64 a0_4, .slice A0_5 l0_5.length c0_5] 32 ?_; intro gb126 hg w26 hbox hb; have BK126 := mk_ (hbox); have GW126 := mk_ (gs_ hg (be_ HB)); have GE126 := mk_ (gs_ hg (be_ HB)); replace HB := mk_ (below_step (be_ HB) hb); clear hb hbox hg; obtain ⟨_, _, _, _, _, _, _, _, _, _, _, _⟩ := hb6_ BK126) | ((with_reducible refine gate_callee (f := 74) rfl ?_); refine gl_ (some 9) Tryd.func74 #[.agg #[.int .i64 a0_0, .string a0_1, .slice A0_2 l0_2.length c0_2, .int .i64 a0_3, .int .i64 a0_4, .slice A0_5 l0_5.length c0_5], .int .i64 a1] ?_; (with_reducible refine (formula_fields.calls k a0_0 a0_1 _ _ l0_2 a0_3 a0_4 _ _ l0_5 a1 false _ ?side1 ?side2 ?side3 ?side4 A3.out).mono ?_); (case side1 => exact cs_ (Kd.C_below HR0_2.out HB.out)); (case side2 => exact HC0_2.out); (case side3 => exact cs_ (Kd.C_below HR0_5.out HB.out)); (case side4 => exact HC0_5.out); rintro e w28 ⟨rfl, hb⟩; refine ⟨_, rfl, ?_⟩; replace BK126 := mk_ (bb_ BK126 hb); replace HB := mk_ (below_step (be1_ HB GE126) hb)))
  go_ret
  exact ⟨er_, be1_ HB GE126⟩
def formula_Valid.f (k : Nat) (a0_0 : Int) (a0_1 : ByteArray) (l0_2 : List (S92)) (a0_3 : Int) (a0_4 : Int) (l0_5 : List (S32)) (a1 : Int) : Option (Bool) := (formula_limits.f k a0_0 a0_1 l0_2 a0_3 a0_4 l0_5).bind fun t133 => (if t133 = true then ((formula_formed.f k a0_0 a0_1 l0_2 a0_3 a0_4 l0_5 (mn (mx a1 0) 1099511627776)).bind fun t134 => (some t134)) else (some false))
theorem formula_Valid.calls (k : Nat) (a0_0 : Int) (a0_1 : ByteArray) (A0_2 : Option Addr) (c0_2 : Nat) (l0_2 : List (S92)) (a0_3 : Int) (a0_4 : Int) (A0_5 : Option Addr) (c0_5 : Nat) (l0_5 : List (S32)) (a1 : Int) (r : Bool) (w : World) (hr0_2 : Kd.C k92 w A0_2 l0_2.length l0_2) (hc0_2 : l0_2.length ≤ c0_2) (hr0_5 : Kd.C k32 w A0_5 l0_5.length l0_5) (hc0_5 : l0_5.length ≤ c0_5) (h : formula_Valid.f k a0_0 a0_1 l0_2 a0_3 a0_4 l0_5 a1 = some r) :
  Calls Tryd.prog 52 #[.agg #[.int .i64 a0_0, .string a0_1, .slice A0_2 l0_2.length c0_2, .int .i64 a0_3, .int .i64 a0_4, .slice A0_5 l0_5.length c0_5], .int .i64 a1] w fun e w' => e = .returned (.bool r) ∧ Below w.heap.size w w' := by
 have hu32 := Tryd.underlying32
 have HR0_2 := mk_ hr0_2; have HC0_2 := mk_ hc0_2; clear hr0_2 hc0_2
 have HR0_5 := mk_ hr0_5; have HC0_5 := mk_ hc0_5; clear hr0_5 hc0_5
 have HB := mk_ (Below.refl w.heap.size w)
 have H : ((formula_limits.f k a0_0 a0_1 l0_2 a0_3 a0_4 l0_5).bind fun t133 => (if t133 = true then ((formula_formed.f k a0_0 a0_1 l0_2 a0_3 a0_4 l0_5 (mn (mx a1 0) 1099511627776)).bind fun t134 => (some t134)) else (some false))) = some r := h
 clear h
 replace H := Option.bind_eq_some_iff.mp H
 obtain ⟨t133, A30, H⟩ := H
 replace H : (if t133 = true then ((formula_formed.f k a0_0 a0_1 l0_2 a0_3 a0_4 l0_5 (mn (mx a1 0) 1099511627776)).bind fun t134 => (some t134)) else (some false)) = some r := H
 have A3 := mk_ A30
 clear A30
 by_cases c4 : t133 = true
 ·subst c4
  rw [if_pos rfl] at H
  obtain ⟨ji5, hji5⟩ : ∃ j_ : Int, (mx a1 0) = j_ := ⟨_, rfl⟩
  replace H : ((formula_formed.f k a0_0 a0_1 l0_2 a0_3 a0_4 l0_5 (mn (ji5) 1099511627776)).bind fun t134 => (some t134)) = some r := by first | (rw [hji5] at H; exact H) | (simp only [hji5] at H ⊢; exact H)
  (try rw [hji5] at A3)
  (try (have hji5l : 0 ≤ ji5 := by (rw [← hji5]; unfold mx; (repeat' split) <;> omega)))
  (try (have hji5m : 0 ≤ ji5 := by omega))
  have hji5_ : (if a1 < 0 then 0 else a1) = ji5 := hji5
  obtain ⟨ji6, hji6⟩ : ∃ j_ : Int, (mn (ji5) 1099511627776) = j_ := ⟨_, rfl⟩
  replace H : ((formula_formed.f k a0_0 a0_1 l0_2 a0_3 a0_4 l0_5 (ji6)).bind fun t134 => (some t134)) = some r := by first | (rw [hji6] at H; exact H) | (simp only [hji6] at H ⊢; exact H)
  (try rw [hji6] at A3)
  have hji6_ : (if 1099511627776 < (ji5) then 1099511627776 else (ji5)) = ji6 := hji6
  replace H := Option.bind_eq_some_iff.mp H
  obtain ⟨t134, A70, H⟩ := H
  replace H : (some t134) = some r := H
  have A7 := mk_ A70
  clear A70
  obtain rfl := Option.some.inj H
  go_enter Tryd.func52, Tryd.ntmps52
  go_wp2_with (first | ((with_reducible refine gate_dst (N := 2) rfl ?_); (try (refine gate_guard (by rfl) ?_; dsimp only)); refine bx_ 2 #[.int .i64 a0_0, .string a0_1, .slice A0_2 l0_2.length c0_2, .int .i64 a0_3, .int .i64 a0_4, .slice A0_5 l0_5.length c0_5] 32 ?_; intro gb132 hg w8 hbox hb; have BK132 := mk_ (hbox); have GW132 := mk_ (gs_ hg (be_ HB)); have GE132 := mk_ (gs_ hg (be_ HB)); replace HB := mk_ (below_step (be_ HB) hb); clear hb hbox hg; obtain ⟨_, _, _, _, _, _, _, _, _, _, _, _⟩ := hb6_ BK132) | ((with_reducible refine gate_callee (f := 64) rfl ?_); refine gl_ (some 6) Tryd.func64 #[.agg #[.int .i64 a0_0, .string a0_1, .slice A0_2 l0_2.length c0_2, .int .i64 a0_3, .int .i64 a0_4, .slice A0_5 l0_5.length c0_5]] ?_; (with_reducible refine (formula_limits.calls k a0_0 a0_1 _ _ l0_2 a0_3 a0_4 _ _ l0_5 true _ ?side1 ?side2 ?side3 ?side4 A3.out).mono ?_); (case side1 => exact cs_ (Kd.C_below HR0_2.out HB.out)); (case side2 => exact HC0_2.out); (case side3 => exact cs_ (Kd.C_below HR0_5.out HB.out)); (case side4 => exact HC0_5.out); rintro e w10 ⟨rfl, hb⟩; refine ⟨_, rfl, ?_⟩; replace BK132 := mk_ (bb_ BK132 hb); replace HB := mk_ (below_step (be1_ HB GE132) hb); obtain ⟨_, _, _, _, _, _, _, _, _, _, _, _⟩ := hb6_ BK132) | (go_at_call 65; (with_reducible refine (formula_formed.calls k a0_0 a0_1 _ _ l0_2 a0_3 a0_4 _ _ l0_5 ji6 t134 _ ?side1 ?side2 ?side3 ?side4 A7.out).mono ?_); (case side1 => exact cs_ (Kd.C_below HR0_2.out HB.out)); (case side2 => exact HC0_2.out); (case side3 => exact cs_ (Kd.C_below HR0_5.out HB.out)); (case side4 => exact HC0_5.out); rintro e w12 ⟨rfl, hb⟩; replace BK132 := mk_ (bb_ BK132 hb); replace HB := mk_ (below_step (be1_ HB GE132) hb)))
  go_ret
  exact ⟨by first | rfl | (simp [errW_none, errW_some] <;> rfl) | (simp only [← hji5, ← hji6]; first | rfl | (simp [errW_none, errW_some] <;> rfl)) | (simp [*, errW_none, errW_some] <;> rfl), be1_ HB GE132⟩
 ·replace c4 := Bool.eq_false_iff.mpr c4
  subst c4
  rw [if_neg nf_] at H
  obtain rfl := Option.some.inj H
  go_enter Tryd.func52, Tryd.ntmps52
  go_wp2_with (first | ((with_reducible refine gate_dst (N := 2) rfl ?_); (try (refine gate_guard (by rfl) ?_; dsimp only)); refine bx_ 2 #[.int .i64 a0_0, .string a0_1, .slice A0_2 l0_2.length c0_2, .int .i64 a0_3, .int .i64 a0_4, .slice A0_5 l0_5.length c0_5] 32 ?_; intro gb132 hg w13 hbox hb; have BK132 := mk_ (hbox); have GW132 := mk_ (gs_ hg (be_ HB)); have GE132 := mk_ (gs_ hg (be_ HB)); replace HB := mk_ (below_step (be_ HB) hb); clear hb hbox hg; obtain ⟨_, _, _, _, _, _, _, _, _, _, _, _⟩ := hb6_ BK132) | ((with_reducible refine gate_callee (f := 64) rfl ?_); refine gl_ (some 6) Tryd.func64 #[.agg #[.int .i64 a0_0, .string a0_1, .slice A0_2 l0_2.length c0_2, .int .i64 a0_3, .int .i64 a0_4, .slice A0_5 l0_5.length c0_5]] ?_; (with_reducible refine (formula_limits.calls k a0_0 a0_1 _ _ l0_2 a0_3 a0_4 _ _ l0_5 false _ ?side1 ?side2 ?side3 ?side4 A3.out).mono ?_); (case side1 => exact cs_ (Kd.C_below HR0_2.out HB.out)); (case side2 => exact HC0_2.out); (case side3 => exact cs_ (Kd.C_below HR0_5.out HB.out)); (case side4 => exact HC0_5.out); rintro e w15 ⟨rfl, hb⟩; refine ⟨_, rfl, ?_⟩; replace BK132 := mk_ (bb_ BK132 hb); replace HB := mk_ (below_step (be1_ HB GE132) hb)))
  go_ret
  exact ⟨er_, be1_ HB GE132⟩
def cmp_isNaN_int.f (a0 : Int) : Option (Bool) := some (a0 != a0)
theorem cmp_isNaN_int.calls (a0 : Int) (r : Bool) (w : World) (h : cmp_isNaN_int.f a0 = some r) :
  Calls Tryd.prog 77 #[.int .i64 a0] w fun e w' => e = .returned (.bool r) ∧ Drawn0 w w' := by
 have H : (some (a0 != a0)) = some r := h
 clear h
 obtain rfl := Option.some.inj H
 go_enter Tryd.func77, Tryd.ntmps77
 go_wp2
 go_ret
 exact ⟨by first | rfl | (simp [pw_isEmpty]; done) | (simp; done) | (simp [*]; done), by repeat (first | exact Drawn0.refl _ | apply Drawn0.step)⟩
def cmp_Less_int.f (a0 : Int) (a1 : Int) : Option (Bool) := (cmp_isNaN_int.f a0).bind fun t135 => (if t135 = true then ((cmp_isNaN_int.f a1).bind fun t136 => (if t136 = true then (some (decide (a0 < a1))) else (some true))) else (some (decide (a0 < a1))))
theorem cmp_Less_int.calls (a0 : Int) (a1 : Int) (r : Bool) (w : World) (h : cmp_Less_int.f a0 a1 = some r) :
  Calls Tryd.prog 68 #[.int .i64 a0, .int .i64 a1] w fun e w' => e = .returned (.bool r) ∧ Drawn0 w w' := by
 have H : ((cmp_isNaN_int.f a0).bind fun t135 => (if t135 = true then ((cmp_isNaN_int.f a1).bind fun t136 => (if t136 = true then (some (decide (a0 < a1))) else (some true))) else (some (decide (a0 < a1))))) = some r := h
 clear h
 replace H := Option.bind_eq_some_iff.mp H
 obtain ⟨t135, A30, H⟩ := H
 replace H : (if t135 = true then ((cmp_isNaN_int.f a1).bind fun t136 => (if t136 = true then (some (decide (a0 < a1))) else (some true))) else (some (decide (a0 < a1)))) = some r := H
 have A3 := mk_ A30
 clear A30
 by_cases c4 : t135 = true
 ·subst c4
  rw [if_pos rfl] at H
  replace H := Option.bind_eq_some_iff.mp H
  obtain ⟨t136, A50, H⟩ := H
  replace H : (if t136 = true then (some (decide (a0 < a1))) else (some true)) = some r := H
  have A5 := mk_ A50
  clear A50
  by_cases c6 : t136 = true
  ·subst c6
   rw [if_pos rfl] at H
   obtain rfl := Option.some.inj H
   go_enter Tryd.func68, Tryd.ntmps68
   go_wp2_with (first | ((with_reducible refine gate_callee (f := 77) rfl ?_); refine gl_ (some 6) Tryd.func77 #[.int .i64 a0] ?_; (with_reducible refine (cmp_isNaN_int.calls a0 true _ A3.out).mono ?_); rintro e w' ⟨rfl, ⟨nd, rfl⟩⟩; refine ⟨_, rfl, ?_⟩) | (go_at_call 77; (with_reducible refine (cmp_isNaN_int.calls a1 true _ A5.out).mono ?_); rintro e w' ⟨rfl, ⟨nd, rfl⟩⟩))
   go_ret
   exact ⟨by first | rfl | (simp [pw_isEmpty]; done) | (simp; done) | (simp [*]; done), by repeat (first | exact Drawn0.refl _ | apply Drawn0.step)⟩
  ·replace c6 := Bool.eq_false_iff.mpr c6
   subst c6
   rw [if_neg nf_] at H
   obtain rfl := Option.some.inj H
   go_enter Tryd.func68, Tryd.ntmps68
   go_wp2_with (first | ((with_reducible refine gate_callee (f := 77) rfl ?_); refine gl_ (some 6) Tryd.func77 #[.int .i64 a0] ?_; (with_reducible refine (cmp_isNaN_int.calls a0 true _ A3.out).mono ?_); rintro e w' ⟨rfl, ⟨nd, rfl⟩⟩; refine ⟨_, rfl, ?_⟩) | (go_at_call 77; (with_reducible refine (cmp_isNaN_int.calls a1 false _ A5.out).mono ?_); rintro e w' ⟨rfl, ⟨nd, rfl⟩⟩))
   go_ret
   exact ⟨by first | rfl | (simp [pw_isEmpty]; done) | (simp; done) | (simp [*]; done), by repeat (first | exact Drawn0.refl _ | apply Drawn0.step)⟩
 ·replace c4 := Bool.eq_false_iff.mpr c4
  subst c4
  rw [if_neg nf_] at H
  obtain rfl := Option.some.inj H
  go_enter Tryd.func68, Tryd.ntmps68
  go_wp2_with (first | ((with_reducible refine gate_callee (f := 77) rfl ?_); refine gl_ (some 6) Tryd.func77 #[.int .i64 a0] ?_; (with_reducible refine (cmp_isNaN_int.calls a0 false _ A3.out).mono ?_); rintro e w' ⟨rfl, ⟨nd, rfl⟩⟩; refine ⟨_, rfl, ?_⟩))
  go_ret
  exact ⟨by first | rfl | (simp [pw_isEmpty]; done) | (simp; done) | (simp [*]; done), by repeat (first | exact Drawn0.refl _ | apply Drawn0.step)⟩
def slices_isNaN_int.f (a0 : Int) : Option (Bool) := some (a0 != a0)
theorem slices_isNaN_int.calls (a0 : Int) (r : Bool) (w : World) (h : slices_isNaN_int.f a0 = some r) :
  Calls Tryd.prog 69 #[.int .i64 a0] w fun e w' => e = .returned (.bool r) ∧ Drawn0 w w' := by
 have H : (some (a0 != a0)) = some r := h
 clear h
 obtain rfl := Option.some.inj H
 go_enter Tryd.func69, Tryd.ntmps69
 go_wp2
 go_ret
 exact ⟨by first | rfl | (simp [pw_isEmpty]; done) | (simp; done) | (simp [*]; done), by repeat (first | exact Drawn0.refl _ | apply Drawn0.step)⟩
end Go.Proofs.YtolpckflofjfhaaDoor.P
