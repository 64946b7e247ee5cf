-- printed by wip/tools/xprint.py
import Derived.Test.YtolpckflofjfhaaDoorPx0
import Derived.Test.YtolpckflofjfhaaDoorPx10
namespace Go.Proofs.YtolpckflofjfhaaDoor.P
open Go.RowKit Go.Proofs.YtolpckflofjfhaaDoorW.PrintWords Go.Proofs.YtolpckflofjfhaaDoorW.PrintLast Go.Proofs.YtolpckflofjfhaaDoorW.PrintMore
attribute [local go_sem] max2_int min2_int max_two min_two max_three min_three max_four min_four
set_option linter.unusedVariables false
set_option maxHeartbeats 8000000
set_option maxRecDepth 100000
set_option linter.unusedSimpArgs false

-- NOT PRINTED: function 17 (pentaglotref26_Truth)

-- NOT PRINTED: function 3 (pentaglotlaw26_EvaluateAt)

def pentaglotlaw26_at.f (k : Nat) (l0_0 : List (S73)) (l0_1 : List Int) (a0_2 : Int) (l0_3 : List (S62)) (a1_0 : Int) (a1_1 : ByteArray) (l1_2 : List (S92)) (a1_3 : Int) (a1_4 : Int) (l1_5 : List (S32)) (a2 : Int) (a3 : Int) : Option (Bool × Bool) := (evaluate_At.f k l0_0 l0_1 a0_2 l0_3 a1_0 a1_1 l1_2 a1_3 a1_4 l1_5 a2 a3).bind fun bt357 => (some (bt357.1, (bt357.2 == 0)))
theorem pentaglotlaw26_at.calls (k : Nat) (A0_0 : Option Addr) (c0_0 : Nat) (l0_0 : List (S73)) (A0_1 : Option Addr) (c0_1 : Nat) (l0_1 : List Int) (a0_2 : Int) (A0_3 : Option Addr) (c0_3 : Nat) (l0_3 : List (S62)) (a1_0 : Int) (a1_1 : ByteArray) (A1_2 : Option Addr) (c1_2 : Nat) (l1_2 : List (S92)) (a1_3 : Int) (a1_4 : Int) (A1_5 : Option Addr) (c1_5 : Nat) (l1_5 : List (S32)) (a2 : Int) (a3 : Int) (r1 : Bool) (r2 : Bool) (w : World) (hr0_0 : Kd.C k73 w A0_0 l0_0.length l0_0) (hc0_0 : l0_0.length ≤ c0_0) (hr0_1 : Kd.C (Kd.int .i64) w A0_1 l0_1.length l0_1) (hc0_1 : l0_1.length ≤ c0_1) (hr0_3 : Kd.C k62 w A0_3 l0_3.length l0_3) (hc0_3 : l0_3.length ≤ c0_3) (hr1_2 : Kd.C k92 w A1_2 l1_2.length l1_2) (hc1_2 : l1_2.length ≤ c1_2) (hr1_5 : Kd.C k32 w A1_5 l1_5.length l1_5) (hc1_5 : l1_5.length ≤ c1_5) (h : pentaglotlaw26_at.f k l0_0 l0_1 a0_2 l0_3 a1_0 a1_1 l1_2 a1_3 a1_4 l1_5 a2 a3 = some (r1, r2)) (htb : Tb w) :
  Calls Tryd.prog 20 #[.agg #[.slice A0_0 l0_0.length c0_0, .slice A0_1 l0_1.length c0_1, .int .i64 a0_2, .slice A0_3 l0_3.length c0_3], .agg #[.int .i64 a1_0, .string a1_1, .slice A1_2 l1_2.length c1_2, .int .i64 a1_3, .int .i64 a1_4, .slice A1_5 l1_5.length c1_5], .int .i64 a2, .int .i64 a3] w fun e w' => e = .returned (.tuple #[.bool r1, .bool r2]) ∧ Below w.heap.size w w' := by
 have HTB := mk_ htb
 clear htb
 have hu28 := Tryd.underlying28
 have hu32 := Tryd.underlying32
 have HR0_0 := mk_ hr0_0
 have HC0_0 := mk_ hc0_0
 clear hr0_0 hc0_0
 have HR0_1 := mk_ hr0_1
 have HC0_1 := mk_ hc0_1
 clear hr0_1 hc0_1
 have HR0_3 := mk_ hr0_3
 have HC0_3 := mk_ hc0_3
 clear hr0_3 hc0_3
 have HR1_2 := mk_ hr1_2
 have HC1_2 := mk_ hc1_2
 clear hr1_2 hc1_2
 have HR1_5 := mk_ hr1_5
 have HC1_5 := mk_ hc1_5
 clear hr1_5 hc1_5
 have HB := mk_ (Below.refl w.heap.size w)
 have H : ((evaluate_At.f k l0_0 l0_1 a0_2 l0_3 a1_0 a1_1 l1_2 a1_3 a1_4 l1_5 a2 a3).bind fun bt357 => (some (bt357.1, (bt357.2 == 0)))) = some (r1, r2) := h
 clear h
 replace H := Option.bind_eq_some_iff.mp H
 obtain ⟨⟨t357, t358⟩, A50, H⟩ := H
 replace H : (some (t357, (t358 == 0))) = some (r1, r2) := H
 have A5 := mk_ A50
 clear A50
 simp only [Option.some.injEq, Prod.mk.injEq] at H
 obtain ⟨rfl, rfl⟩ := H
 go_enter Tryd.func20, Tryd.ntmps20
 go_wp2_with (first | ((with_reducible refine gate_dst (N := 4) rfl ?_); refine bx_ 4 #[.slice A0_0 l0_0.length c0_0, .slice A0_1 l0_1.length c0_1, .int .i64 a0_2, .slice A0_3 l0_3.length c0_3] 28 ?_; intro gb355 hg w6 hbox hb; have BK355 := mk_ (hbox); have GW355 := mk_ (gs_ hg (be_ HB)); have GE355 := mk_ (gs_ hg (be_ HB)); replace HB := mk_ (below_step (be_ HB) hb); clear hb hbox hg) | ((with_reducible refine gate_dst (N := 5) rfl ?_); refine bx_ 5 #[.int .i64 a1_0, .string a1_1, .slice A1_2 l1_2.length c1_2, .int .i64 a1_3, .int .i64 a1_4, .slice A1_5 l1_5.length c1_5] 32 ?_; intro gb356 hg w7 hbox hb; have n0_ := mk_ (bb_ BK355 hb); have n1_ := mk_ (below_step (be1_ HB GE355) hb); have n2_ := mk_ (hbox); have n3_ := mk_ (gs_ hg (be1_ HB GE355)); have n4_ := mk_ (gs_ hg (be1_ HB GE355)); have n5_ := mk_ ((by rw [hg]; exact Nat.ne_of_lt (blk_lt (g := gb355) (o := .cells #[.slice A0_0 l0_0.length c0_0, .slice A0_1 l0_1.length c0_1, .int .i64 a0_2, .slice A0_3 l0_3.length c0_3] 28 (0, 0)) (bq_ BK355)) : gb355 ≠ gb356)); have n6_ := mk_ ((by rw [hg]; exact Nat.ne_of_gt (blk_lt (g := gb355) (o := .cells #[.slice A0_0 l0_0.length c0_0, .slice A0_1 l0_1.length c0_1, .int .i64 a0_2, .slice A0_3 l0_3.length c0_3] 28 (0, 0)) (bq_ BK355)) : gb356 ≠ gb355)); clear BK355; clear HB; have BK355 := n0_; have HB := n1_; have BK356 := n2_; have GW356 := n3_; have GE356 := n4_; have NB355_356 := n5_; have NB356_355 := n6_; clear n0_ n1_ n2_ n3_ n4_ n5_ n6_; clear hb hbox hg; have hnb8 := NB355_356.out; have hnc8 := NB356_355.out; obtain ⟨_, _, _, _, _, _, _, _⟩ := hb4_ BK355; obtain ⟨_, _, _, _, _, _, _, _, _, _, _, _⟩ := hb6_ BK356) | ((with_reducible refine gate_callee (f := 14) rfl ?_); refine gl_ (some 17) Tryd.func14 #[.agg #[.slice A0_0 l0_0.length c0_0, .slice A0_1 l0_1.length c0_1, .int .i64 a0_2, .slice A0_3 l0_3.length c0_3], .agg #[.int .i64 a1_0, .string a1_1, .slice A1_2 l1_2.length c1_2, .int .i64 a1_3, .int .i64 a1_4, .slice A1_5 l1_5.length c1_5], .int .i64 a2, .int .i64 a3] ?_; (with_reducible refine (evaluate_At.calls k _ _ l0_0 _ _ l0_1 a0_2 _ _ l0_3 a1_0 a1_1 _ _ l1_2 a1_3 a1_4 _ _ l1_5 a2 a3 t357 t358 _ ?side1 ?side2 ?side3 ?side4 ?side5 ?side6 ?side7 ?side8 ?side9 ?side10 A5.out (tb_on HTB.out (be2_ HB GE355 GE356))).mono ?_); (case side1 => exact cs_ (Kd.C_below HR0_0.out HB.out)); (case side2 => exact HC0_0.out); (case side3 => exact cs_ (Kd.C_below HR0_1.out HB.out)); (case side4 => exact HC0_1.out); (case side5 => exact cs_ (Kd.C_below HR0_3.out HB.out)); (case side6 => exact HC0_3.out); (case side7 => exact cs_ (Kd.C_below HR1_2.out HB.out)); (case side8 => exact HC1_2.out); (case side9 => exact cs_ (Kd.C_below HR1_5.out HB.out)); (case side10 => exact HC1_5.out); rintro e w11 ⟨rfl, hb⟩; refine ⟨_, rfl, ?_⟩; replace BK355 := mk_ (bb_ BK355 hb); replace BK356 := mk_ (bb_ BK356 hb); replace HB := mk_ (below_step (be2_ HB GE355 GE356) hb); (try clear hb); (try clear hb2); (try clear hk); (try clear hi)))
 go_ret2
 exact ⟨er_, be2_ HB GE355 GE356⟩

-- NOT PRINTED: function 21 (pentaglotref26_True)

-- NOT PRINTED: function 4 (pentaglotlaw26_EvaluateTrue)

def pentaglotlaw26_kid.f (a0 : Int) (a1_0 : Int) (a1_1 : ByteArray) (l1_2 : List (S92)) (a1_3 : Int) (a1_4 : Int) (l1_5 : List (S32)) : Option (Int × ByteArray × (List (S92)) × Int × Int × (List (S32))) := some (a0, (⟨#[]⟩ : ByteArray), ([] : List (S92)), 0, 0, (([(⟨a1_0, a1_1, l1_2, a1_3, a1_4, l1_5⟩ : S32)] : List (S32))))
theorem pentaglotlaw26_kid.calls (a0 : Int) (a1_0 : Int) (a1_1 : ByteArray) (P1_2_ : Nat → Prop) (A1_2 : Option Addr) (c1_2 : Nat) (l1_2 : List (S92)) (a1_3 : Int) (a1_4 : Int) (P1_5_ : Nat → Prop) (A1_5 : Option Addr) (c1_5 : Nat) (l1_5 : List (S32)) (r1 : Int) (r2 : ByteArray) (r3 : List (S92)) (r4 : Int) (r5 : Int) (r6 : List (S32)) (w : World) (hs1_2 : Kd.V k92 92 w w.heap.size (fun k_ => P1_2_ k_) (.slice A1_2 l1_2.length c1_2) l1_2) (hs1_5 : Kd.V k32 32 w w.heap.size (fun k_ => P1_5_ k_) (.slice A1_5 l1_5.length c1_5) l1_5) (h : pentaglotlaw26_kid.f a0 a1_0 a1_1 l1_2 a1_3 a1_4 l1_5 = some (r1, r2, r3, r4, r5, r6)) :
  Calls Tryd.prog 26 #[.int .i64 a0, .agg #[.int .i64 a1_0, .string a1_1, .slice A1_2 l1_2.length c1_2, .int .i64 a1_3, .int .i64 a1_4, .slice A1_5 l1_5.length c1_5]] w fun e w' => ∃ v2_ v5_ : Value, e = .returned (.agg #[.int .i64 r1, .string r2, v2_, .int .i64 r4, .int .i64 r5, v5_]) ∧ Kd.R k92 92 w' w.heap.size (fun k_ => (w.heap.size ≤ k_)) v2_ r3 ∧ Kd.N k32 32 w' w.heap.size (fun k_ => ((P1_2_ k_ ∨ P1_5_ k_) ∨ w.heap.size ≤ k_) ∧ some k_ ≠ (v2_ : Value).ownBlock) v5_ r6 ∧ Below w.heap.size w w' := by
 have hu32 := Tryd.underlying32
 have HO1_2 := mk_ (show Kd.V k92 92 w w.heap.size (fun k_ => ((P1_2_ k_ ∨ P1_5_ k_) ∨ w.heap.size ≤ k_)) (.slice A1_2 l1_2.length c1_2) l1_2 from Kd.V_mono hs1_2 (fun k_ hk => .inl (.inl hk)))
 have HO1_5 := mk_ (show Kd.V k32 32 w w.heap.size (fun k_ => ((P1_2_ k_ ∨ P1_5_ k_) ∨ w.heap.size ≤ k_)) (.slice A1_5 l1_5.length c1_5) l1_5 from Kd.V_mono hs1_5 (fun k_ hk => .inl (.inr hk)))
 have HB := mk_ (Below.refl w.heap.size w)
 have H : (some (a0, (⟨#[]⟩ : ByteArray), ([] : List (S92)), 0, 0, (([(⟨a1_0, a1_1, l1_2, a1_3, a1_4, l1_5⟩ : S32)] : List (S32))))) = some (r1, r2, r3, r4, r5, r6) := h
 clear h
 obtain ⟨y386, hy386⟩ : ∃ y_ : List (S32), y_ = (([(⟨a1_0, a1_1, l1_2, a1_3, a1_4, l1_5⟩ : S32)] : List (S32))) := ⟨_, rfl⟩
 replace H : (some (a0, (⟨#[]⟩ : ByteArray), ([] : List (S92)), 0, 0, y386)) = some (r1, r2, r3, r4, r5, r6) := by first | (rw [hy386]; with_reducible exact H) | (have H2_ := (Option.bind_some _ _).symm.trans H; rw [hy386]; with_reducible exact H2_) | (have H2_ := (Option.bind_some _ _).symm.trans H; with_reducible exact H2_) | with_reducible exact H | (rw [hy386]; exact H) | exact H
 have Ny386 := mk_ hy386
 clear hy386
 simp only [Option.some.injEq, Prod.mk.injEq] at H
 obtain ⟨rfl, rfl, rfl, rfl, rfl, rfl⟩ := H
 go_enter Tryd.func26, Tryd.ntmps26
 go_wp2_with (first | ((with_reducible refine gate_dst (N := 3) rfl ?_); refine bx_ 3 #[.int .i64 a1_0, .string a1_1, .slice A1_2 l1_2.length c1_2, .int .i64 a1_3, .int .i64 a1_4, .slice A1_5 l1_5.length c1_5] 32 ?_; intro gb384 hg w3 hbox hb; have BK384 := mk_ (hbox); have GW384 := mk_ (gs_ hg (be_ HB)); have GE384 := mk_ (gs_ hg (be_ HB)); replace HO1_2 := mk_ (Kd.V_below (Kd.V_elderB (vq_ HO1_2) gb384 (Nat.le_of_eq hg.symm)) hb); replace HO1_5 := mk_ (Kd.V_below (Kd.V_elderB (vq_ HO1_5) gb384 (Nat.le_of_eq hg.symm)) hb); replace HB := mk_ (below_step (be_ HB) hb); clear hb hbox hg) | ((with_reducible refine gate_dst (N := 4) rfl ?_); refine bx_ 4 #[.int .i64 0, .string (⟨#[]⟩ : ByteArray), .slice none 0 0, .int .i64 0, .int .i64 0, .slice none 0 0] 32 ?_; intro gb385 hg w4 hbox hb; have n0_ := mk_ (Kd.V_below (Kd.V_elderB (vq_ HO1_2) gb385 (Nat.le_of_eq hg.symm)) hb); have n1_ := mk_ (Kd.V_below (Kd.V_elderB (vq_ HO1_5) gb385 (Nat.le_of_eq hg.symm)) hb); have n2_ := mk_ (bb_ BK384 hb); have n3_ := mk_ (below_step (be1_ HB GE384) hb); have n4_ := mk_ (hbox); have n5_ := mk_ (gs_ hg (be1_ HB GE384)); have n6_ := mk_ (gs_ hg (be1_ HB GE384)); have n7_ := mk_ ((by rw [hg]; exact Nat.ne_of_lt (blk_lt (g := gb384) (o := .cells #[.int .i64 a1_0, .string a1_1, .slice A1_2 l1_2.length c1_2, .int .i64 a1_3, .int .i64 a1_4, .slice A1_5 l1_5.length c1_5] 32 (0, 0)) (bq_ BK384)) : gb384 ≠ gb385)); have n8_ := mk_ ((by rw [hg]; exact Nat.ne_of_gt (blk_lt (g := gb384) (o := .cells #[.int .i64 a1_0, .string a1_1, .slice A1_2 l1_2.length c1_2, .int .i64 a1_3, .int .i64 a1_4, .slice A1_5 l1_5.length c1_5] 32 (0, 0)) (bq_ BK384)) : gb385 ≠ gb384)); clear HO1_2; clear HO1_5; clear BK384; clear HB; have HO1_2 := n0_; have HO1_5 := n1_; have BK384 := n2_; have HB := n3_; have BK385 := n4_; have GW385 := n5_; have GE385 := n6_; have NB384_385 := n7_; have NB385_384 := n8_; clear n0_ n1_ n2_ n3_ n4_ n5_ n6_ n7_ n8_; clear hb hbox hg; have hnb5 := NB384_385.out; have hnc5 := NB385_384.out; obtain ⟨_, _, _, _, _, _, _, _, _, _, _, _⟩ := hb6_ BK384) | ((with_reducible refine gate_dst (N := 7) rfl ?_); refine Kd.N_lit k32 _ 32 ?hg (N' := 7) ?hd (xs := ([(⟨a1_0, a1_1, l1_2, a1_3, a1_4, l1_5⟩ : S32)] : List (S32))) (inner := [.int .i64 a1_0, .string a1_1, .slice A1_2 l1_2.length c1_2, .int .i64 a1_3, .int .i64 a1_4, .slice A1_5 l1_5.length c1_5]) (ok := (fun k_ => ((P1_2_ k_ ∨ P1_5_ k_) ∨ w.heap.size ≤ k_) ∧ k_ ≠ gb384 ∧ k_ ≠ gb385)) (okp := (fun k_ => ((P1_2_ k_ ∨ P1_5_ k_) ∨ w.heap.size ≤ k_) ∧ k_ ≠ gb384 ∧ k_ ≠ gb385)) ?hr ?hp (fun _ hk => hk) ((show ∀ k_, w4.heap.size ≤ k_ → (fun k_ => ((P1_2_ k_ ∨ P1_5_ k_) ∨ w.heap.size ≤ k_) ∧ k_ ≠ gb384 ∧ k_ ≠ gb385) k_ from fun k_ hk => ⟨(.inr (Nat.le_trans (below_size (be2_ HB GE384 GE385)) hk)), Kd.freshB (g := gb384) (o := .cells #[.int .i64 a1_0, .string a1_1, .slice A1_2 l1_2.length c1_2, .int .i64 a1_3, .int .i64 a1_4, .slice A1_5 l1_5.length c1_5] 32 (0, 0)) (bq_ BK384) k_ hk, Kd.freshB (g := gb385) (o := .cells #[.int .i64 0, .string (⟨#[]⟩ : ByteArray), .slice none 0 0, .int .i64 0, .int .i64 0, .slice none 0 0] 32 (0, 0)) (bq_ BK385) k_ hk⟩) _ (Nat.le_refl _)) (Below.refl _ _) (Nat.le_refl _) (by simp) ?_; (case hd => rfl); (case hg => rfl); (case hr => first | (go_simp; done) | (go_simp; rfl)); (case hp => exact (Reps.c6 (show Kd.FK k32 _ _ (⟨a1_0, a1_1, l1_2, a1_3, a1_4, l1_5⟩ : S32) [.int .i64 a1_0, .string a1_1, .slice A1_2 l1_2.length c1_2, .int .i64 a1_3, .int .i64 a1_4, .slice A1_5 l1_5.length c1_5] from (k32_mkF _ _ (⟨a1_0, a1_1, l1_2, a1_3, a1_4, l1_5⟩ : S32) (Kd.V_reads' (Kd.V_mono (ok' := (fun k_ => ((P1_2_ k_ ∨ P1_5_ k_) ∨ w.heap.size ≤ k_) ∧ k_ ≠ gb384 ∧ k_ ≠ gb385)) (HO1_2.out) (fun k_ hk => ⟨hk.1.1, ⟨hk.1.2, hk.2⟩⟩))).2.1 (Kd.V_F (Kd.V_mono (ok' := (fun k_ => ((P1_2_ k_ ∨ P1_5_ k_) ∨ w.heap.size ≤ k_) ∧ k_ ≠ gb384 ∧ k_ ≠ gb385)) (HO1_2.out) (fun k_ hk => ⟨hk.1.1, ⟨hk.1.2, hk.2⟩⟩))) (Kd.V_reads' (Kd.V_mono (ok' := (fun k_ => ((P1_2_ k_ ∨ P1_5_ k_) ∨ w.heap.size ≤ k_) ∧ k_ ≠ gb384 ∧ k_ ≠ gb385)) (HO1_5.out) (fun k_ hk => ⟨hk.1.1, ⟨hk.1.2, hk.2⟩⟩))).2.1 (Kd.V_F (Kd.V_mono (ok' := (fun k_ => ((P1_2_ k_ ∨ P1_5_ k_) ∨ w.heap.size ≤ k_) ∧ k_ ≠ gb384 ∧ k_ ≠ gb385)) (HO1_5.out) (fun k_ hk => ⟨hk.1.1, ⟨hk.1.2, hk.2⟩⟩))))) (Reps.none _ _))); intro v387 w7 ho8 hb hg_ hnew_; clear hg_ hnew_; (first | rw [← Ny386.out] at ho8 | (simp only [Int.reduceToNat] at ho8; rw [← Ny386.out] at ho8)); have HO388 := mk_ (Kd.N_lower ho8 (below_size (be2_ HB GE384 GE385))); replace HO1_2 := mk_ (Kd.V_elder' (vq_ HO1_2) (Kd.N_base ho8) hb); replace HO1_5 := mk_ (Kd.V_elder' (vq_ HO1_5) (Kd.N_base ho8) hb); replace BK384 := mk_ (bb_ BK384 hb); replace BK385 := mk_ (bb_ BK385 hb); replace HB := mk_ (below_step (be2_ HB GE384 GE385) hb); clear hb ho8; obtain ⟨Ao9, co9, eo9⟩ := Kd.N_slice HO388.out; subst eo9; obtain ⟨_, _, _, _, _, _, _, _, _, _, _, _⟩ := hb6_ BK385))
 refine bodyPost_ret (results_cell_row rfl _ _ gb385 32 #[.int .i64 a0, .string (⟨#[]⟩ : ByteArray), .slice none 0 0, .int .i64 0, .int .i64 0, .slice Ao9 y386.length co9] (0, 0) _ rfl (by refine sb_ ?_; refine blk_put (cs := #[.int .i64 a0, .string (⟨#[]⟩ : ByteArray), .slice none 0 0, .int .i64 0, .int .i64 0, .slice none 0 0]) ?_ 5 _ rfl; refine sb_ ?_; refine blk_put (cs := #[.int .i64 a0, .string (⟨#[]⟩ : ByteArray), .slice none 0 0, .int .i64 0, .int .i64 0, .slice none 0 0]) ?_ 4 _ rfl; refine sb_ ?_; refine blk_put (cs := #[.int .i64 a0, .string (⟨#[]⟩ : ByteArray), .slice none 0 0, .int .i64 0, .int .i64 0, .slice none 0 0]) ?_ 3 _ rfl; refine sb_ ?_; refine blk_put (cs := #[.int .i64 a0, .string (⟨#[]⟩ : ByteArray), .slice none 0 0, .int .i64 0, .int .i64 0, .slice none 0 0]) ?_ 2 _ rfl; refine sb_ ?_; refine blk_put (cs := #[.int .i64 a0, .string (⟨#[]⟩ : ByteArray), .slice none 0 0, .int .i64 0, .int .i64 0, .slice none 0 0]) ?_ 1 _ rfl; refine sb_ ?_; refine blk_put (cs := #[.int .i64 0, .string (⟨#[]⟩ : ByteArray), .slice none 0 0, .int .i64 0, .int .i64 0, .slice none 0 0]) ?_ 0 _ rfl; refine sb_ ?_; exact BK385.out) Tryd.underlying32 rfl (by kernel_rfl)) rfl ?_
 exact ⟨_, _, er_, by first | exact Kd.R_nil _ _ _ _ _ | exact Kd.N_nil _ _ _ _ _ | exact Kd.V_nil _ _ _ _ _ | exact Kd.Q_nil _ _ _ _ _ | exact Kd.S_nil _ _ _ _ _, by refine sn_ ?_; exact Kd.N_mono (Kd.N_far (p := ⟨gb385, 5, none⟩) (Kd.N_far (p := ⟨gb385, 4, none⟩) (Kd.N_far (p := ⟨gb385, 3, none⟩) (Kd.N_far (p := ⟨gb385, 2, none⟩) (Kd.N_far (p := ⟨gb385, 1, none⟩) (Kd.N_far (p := ⟨gb385, 0, none⟩) (Kd.N_mono HO388.out (fun k_ hk => (⟨hk, hk.2.2⟩ : _ ∧ k_ ≠ gb385))) (fun _ hk => hk.2) (.int .i64 a0)) (fun _ hk => hk.2) (.string (⟨#[]⟩ : ByteArray))) (fun _ hk => hk.2) (.slice none 0 0)) (fun _ hk => hk.2) (.int .i64 0)) (fun _ hk => hk.2) (.int .i64 0)) (fun _ hk => hk.2) (.slice Ao9 y386.length co9)) (fun _ hk => ⟨hk.1.1, (by simp [Value.ownBlock])⟩), be2_ HB GE384 GE385⟩

-- NOT PRINTED: function 6 (pentaglotlaw26_EvaluateConnectives)

-- NOT PRINTED: function 9 (pentaglotlaw26_EvaluateWitness)

mutual
def pentaglotref22_Walk.l0 : Nat → List (S32) → Int → Int → ByteArray → List (S92) → Int → Int → List (S32) → Option ((List (S32)))
 | 0, _, _, _, _, _, _, _, _ => none
 | k + 1, x3, x4, x518000, x518001, x518002, x518003, x518004, x518005 => if x4 < (x518005.length : Int) then (if 0 ≤ x4 then ((pentaglotref22_Walk.f k ((rd_T32 x518005 x4).f0) ((rd_T32 x518005 x4).f1) ((rd_T32 x518005 x4).f2) ((rd_T32 x518005 x4).f3) ((rd_T32 x518005 x4).f4) ((rd_T32 x518005 x4).f5)).bind fun t522 => (if x3.length + t522.length < 1599289640401 then (pentaglotref22_Walk.l0 k (x3 ++ t522) (wrap64 (x4 + 1)) x518000 x518001 x518002 x518003 x518004 x518005) else (none))) else (none)) else (some x3)
def pentaglotref22_Walk.f : Nat → Int → ByteArray → List (S92) → Int → Int → List (S32) → Option ((List (S32)))
 | 0, _, _, _, _, _, _ => none
 | k + 1, a0_0, a0_1, l0_2, a0_3, a0_4, l0_5 => pentaglotref22_Walk.l0 k (([(⟨a0_0, a0_1, l0_2, a0_3, a0_4, l0_5⟩ : S32)] : List (S32))) 0 a0_0 a0_1 l0_2 a0_3 a0_4 l0_5
end
theorem pentaglotref22_Walk.calls (k : Nat) : ∀ (a0_0 : Int) (a0_1 : ByteArray) (P0_2_ : Nat → Prop) (A0_2 : Option Addr) (c0_2 : Nat) (l0_2 : List (S92)) (a0_3 : Int) (a0_4 : Int) (P0_5_ : Nat → Prop) (A0_5 : Option Addr) (c0_5 : Nat) (l0_5 : List (S32)) (r : List (S32)) (w : World) (hs0_2 : Kd.V k92 92 w w.heap.size (fun k_ => P0_2_ k_) (.slice A0_2 l0_2.length c0_2) l0_2) (hs0_5 : Kd.V k32 32 w w.heap.size (fun k_ => P0_5_ k_) (.slice A0_5 l0_5.length c0_5) l0_5) (h : pentaglotref22_Walk.f k a0_0 a0_1 l0_2 a0_3 a0_4 l0_5 = some r),
  Calls Tryd.prog 30 #[.agg #[.int .i64 a0_0, .string a0_1, .slice A0_2 l0_2.length c0_2, .int .i64 a0_3, .int .i64 a0_4, .slice A0_5 l0_5.length c0_5]] w fun e w' => ∃ v0_ : Value, e = .returned (v0_) ∧ Kd.N k32 32 w' w.heap.size (fun k_ => ((P0_2_ k_ ∨ P0_5_ k_) ∨ w.heap.size ≤ k_)) v0_ r ∧ Below w.heap.size w w' := by
 induction k using Nat.strongRecOn with
 | _ k ih =>
 intro a0_0 a0_1 P0_2_ A0_2 c0_2 l0_2 a0_3 a0_4 P0_5_ A0_5 c0_5 l0_5 r w hs0_2 hs0_5 h
 cases k with
 | zero => exact absurd h (by simp [pentaglotref22_Walk.f])
 | succ k =>
 simp only [pentaglotref22_Walk.f] at h
 have hu32 := Tryd.underlying32
 have HO0_2 := mk_ (show Kd.V k92 92 w w.heap.size (fun k_ => ((P0_2_ k_ ∨ P0_5_ k_) ∨ w.heap.size ≤ k_)) (.slice A0_2 l0_2.length c0_2) l0_2 from Kd.V_mono hs0_2 (fun k_ hk => .inl (.inl hk)))
 have HO0_5 := mk_ (show Kd.V k32 32 w w.heap.size (fun k_ => ((P0_2_ k_ ∨ P0_5_ k_) ∨ w.heap.size ≤ k_)) (.slice A0_5 l0_5.length c0_5) l0_5 from Kd.V_mono hs0_5 (fun k_ hk => .inl (.inr hk)))
 have HB := mk_ (Below.refl w.heap.size w)
 have H : (pentaglotref22_Walk.l0 k (([(⟨a0_0, a0_1, l0_2, a0_3, a0_4, l0_5⟩ : S32)] : List (S32))) 0 a0_0 a0_1 l0_2 a0_3 a0_4 l0_5) = some r := h
 clear h
 obtain ⟨y518, hy518⟩ : ∃ y_ : List (S32), y_ = (([(⟨a0_0, a0_1, l0_2, a0_3, a0_4, l0_5⟩ : S32)] : List (S32))) := ⟨_, rfl⟩
 replace H : (pentaglotref22_Walk.l0 k y518 0 a0_0 a0_1 l0_2 a0_3 a0_4 l0_5) = some r := by first | (rw [hy518]; with_reducible exact H) | (have H2_ := (Option.bind_some _ _).symm.trans H; rw [hy518]; with_reducible exact H2_) | (have H2_ := (Option.bind_some _ _).symm.trans H; with_reducible exact H2_) | with_reducible exact H | (rw [hy518]; exact H) | exact H
 have Ny518 := mk_ hy518
 clear hy518
 have H' := mk_ H
 clear H
 go_enter Tryd.func30, Tryd.ntmps30
 go_wp2_with (first | ((with_reducible refine gate_dst (N := 1) rfl ?_); refine bx_ 1 #[.int .i64 a0_0, .string a0_1, .slice A0_2 l0_2.length c0_2, .int .i64 a0_3, .int .i64 a0_4, .slice A0_5 l0_5.length c0_5] 32 ?_; intro gb517 hg w2 hbox hb; have BK517 := mk_ (hbox); have GW517 := mk_ (gs_ hg (be_ HB)); have GE517 := mk_ (gs_ hg (be_ HB)); replace HO0_2 := mk_ (Kd.V_below (Kd.V_elderB (vq_ HO0_2) gb517 (Nat.le_of_eq hg.symm)) hb); replace HO0_5 := mk_ (Kd.V_below (Kd.V_elderB (vq_ HO0_5) gb517 (Nat.le_of_eq hg.symm)) hb); replace HB := mk_ (below_step (be_ HB) hb); clear hb hbox hg; obtain ⟨_, _, _, _, _, _, _, _, _, _, _, _⟩ := hb6_ BK517) | ((with_reducible refine gate_dst (N := 6) rfl ?_); refine Kd.N_lit k32 _ 32 ?hg (N' := 6) ?hd (xs := ([(⟨a0_0, a0_1, l0_2, a0_3, a0_4, l0_5⟩ : S32)] : List (S32))) (inner := [.int .i64 a0_0, .string a0_1, .slice A0_2 l0_2.length c0_2, .int .i64 a0_3, .int .i64 a0_4, .slice A0_5 l0_5.length c0_5]) (ok := (fun k_ => ((P0_2_ k_ ∨ P0_5_ k_) ∨ w.heap.size ≤ k_) ∧ k_ ≠ gb517)) (okp := (fun k_ => ((P0_2_ k_ ∨ P0_5_ k_) ∨ w.heap.size ≤ k_) ∧ k_ ≠ gb517)) ?hr ?hp (fun _ hk => hk) ((show ∀ k_, w2.heap.size ≤ k_ → (fun k_ => ((P0_2_ k_ ∨ P0_5_ k_) ∨ w.heap.size ≤ k_) ∧ k_ ≠ gb517) k_ from fun k_ hk => ⟨(.inr (Nat.le_trans (below_size (be1_ HB GE517)) hk)), Kd.freshB (g := gb517) (o := .cells #[.int .i64 a0_0, .string a0_1, .slice A0_2 l0_2.length c0_2, .int .i64 a0_3, .int .i64 a0_4, .slice A0_5 l0_5.length c0_5] 32 (0, 0)) (bq_ BK517) k_ hk⟩) _ (Nat.le_refl _)) (Below.refl _ _) (Nat.le_refl _) (by simp) ?_; (case hd => rfl); (case hg => rfl); (case hr => first | (go_simp; done) | (go_simp; rfl)); (case hp => exact (Reps.c6 (show Kd.FK k32 _ _ (⟨a0_0, a0_1, l0_2, a0_3, a0_4, l0_5⟩ : S32) [.int .i64 a0_0, .string a0_1, .slice A0_2 l0_2.length c0_2, .int .i64 a0_3, .int .i64 a0_4, .slice A0_5 l0_5.length c0_5] from (k32_mkF _ _ (⟨a0_0, a0_1, l0_2, a0_3, a0_4, l0_5⟩ : S32) (Kd.V_reads' (Kd.V_mono (ok' := (fun k_ => ((P0_2_ k_ ∨ P0_5_ k_) ∨ w.heap.size ≤ k_) ∧ k_ ≠ gb517)) (HO0_2.out) (fun k_ hk => ⟨hk.1, hk.2⟩))).2.1 (Kd.V_F (Kd.V_mono (ok' := (fun k_ => ((P0_2_ k_ ∨ P0_5_ k_) ∨ w.heap.size ≤ k_) ∧ k_ ≠ gb517)) (HO0_2.out) (fun k_ hk => ⟨hk.1, hk.2⟩))) (Kd.V_reads' (Kd.V_mono (ok' := (fun k_ => ((P0_2_ k_ ∨ P0_5_ k_) ∨ w.heap.size ≤ k_) ∧ k_ ≠ gb517)) (HO0_5.out) (fun k_ hk => ⟨hk.1, hk.2⟩))).2.1 (Kd.V_F (Kd.V_mono (ok' := (fun k_ => ((P0_2_ k_ ∨ P0_5_ k_) ∨ w.heap.size ≤ k_) ∧ k_ ≠ gb517)) (HO0_5.out) (fun k_ hk => ⟨hk.1, hk.2⟩))))) (Reps.none _ _))); intro v519 w4 ho5 hb hg_ hnew_; clear hg_ hnew_; (first | rw [← Ny518.out] at ho5 | (simp only [Int.reduceToNat] at ho5; rw [← Ny518.out] at ho5)); have HO520 := mk_ (Kd.N_lower ho5 (below_size (be1_ HB GE517))); replace HO0_2 := mk_ (Kd.V_elder' (vq_ HO0_2) (Kd.N_base ho5) hb); replace HO0_5 := mk_ (Kd.V_elder' (vq_ HO0_5) (Kd.N_base ho5) hb); replace BK517 := mk_ (bb_ BK517 hb); replace HB := mk_ (below_step (be1_ HB GE517) hb); clear hb ho5))
 go_loopg [3, 4] k (fun kq v3 v4 w' => ∃ (x3_1 : List (S32)) (x4_1 : Int), v4 = .int .i64 x4_1 ∧ Aside0 (pentaglotref22_Walk.l0 kq x3_1 x4_1 a0_0 a0_1 l0_2 a0_3 a0_4 l0_5 = some r) ∧ Aside0 (kq ≤ k) ∧ Aside0 (Kd.N k32 32 w' w.heap.size (fun k_ => ((P0_2_ k_ ∨ P0_5_ k_) ∨ w.heap.size ≤ k_) ∧ k_ ≠ gb517) v3 x3_1) ∧ Aside0 (Kd.V k92 92 w' w.heap.size (fun k_ => ((P0_2_ k_ ∨ P0_5_ k_) ∨ w.heap.size ≤ k_) ∧ some k_ ≠ (v3 : Value).ownBlock ∧ k_ ≠ gb517) (.slice A0_2 l0_2.length c0_2) l0_2) ∧ Aside0 (Kd.V k32 32 w' w.heap.size (fun k_ => ((P0_2_ k_ ∨ P0_5_ k_) ∨ w.heap.size ≤ k_) ∧ some k_ ≠ (v3 : Value).ownBlock ∧ k_ ≠ gb517) (.slice A0_5 l0_5.length c0_5) l0_5) ∧ Aside0 (w'.heap[gb517]? = some (.cells #[.int .i64 a0_0, .string a0_1, (.slice A0_2 l0_2.length c0_2), .int .i64 a0_3, .int .i64 a0_4, (.slice A0_5 l0_5.length c0_5)] 32 (0, 0))) ∧ Aside0 (Below w.heap.size w w'))
 case atStart => exact ⟨(y518), (0), fi_, H', ⟨Nat.le_refl _⟩, ⟨nq_ HO520⟩, ⟨by refine sv_ ?_; exact Kd.V_mono HO0_2.out (fun _ hk => ⟨hk.1.1, ⟨hk.2, hk.1.2⟩⟩)⟩, ⟨by refine sv_ ?_; exact Kd.V_mono HO0_5.out (fun _ hk => ⟨hk.1.1, ⟨hk.2, hk.1.2⟩⟩)⟩, ⟨bq_ BK517⟩, ⟨be1_ HB GE517⟩⟩
 case round =>
  clear H'
  obtain ⟨x3_1, x4_1, rfl, HA, HK1, HO_3, HO_518002, HO_518005, BK517, HB⟩ := hrel
  cases gk with
  | zero => exact absurd HA.out (by simp [pentaglotref22_Walk.l0])
  | succ k1 =>
   have H := HA.out
   clear HA
   simp only [pentaglotref22_Walk.l0] at H
   by_cases c6 : x4_1 < (l0_5.length : Int)
   ·rw [if_pos c6] at H
    have c6b0 : decide (x4_1 < (l0_5.length : Int)) = true := decide_eq_true c6
    clear c6
    by_cases c7 : 0 ≤ x4_1
    ·rw [if_pos c7] at H
     have c7b0 : decide (0 ≤ x4_1) = true := decide_eq_true c7
     clear c7
     replace H := Option.bind_eq_some_iff.mp H
     obtain ⟨t522, A80, H⟩ := H
     replace H : (if x3_1.length + t522.length < 1599289640401 then (pentaglotref22_Walk.l0 k1 (x3_1 ++ t522) (wrap64 (x4_1 + 1)) a0_0 a0_1 l0_2 a0_3 a0_4 l0_5) else (none)) = some r := H
     have A8 := mk_ A80
     clear A80
     by_cases c9 : x3_1.length + t522.length < 1599289640401
     ·rw [if_pos c9] at H
      have LMc9 := mk_ c9
      clear c9
      obtain ⟨y525, hy525⟩ : ∃ y_ : List (S32), y_ = (x3_1 ++ t522) := ⟨_, rfl⟩
      replace H : (pentaglotref22_Walk.l0 k1 y525 (wrap64 (x4_1 + 1)) a0_0 a0_1 l0_2 a0_3 a0_4 l0_5) = some r := by first | (rw [hy525]; with_reducible exact H) | (have H2_ := (Option.bind_some _ _).symm.trans H; rw [hy525]; with_reducible exact H2_) | (have H2_ := (Option.bind_some _ _).symm.trans H; with_reducible exact H2_) | with_reducible exact H | (rw [hy525]; exact H) | exact H
      have Ny525 := mk_ hy525
      clear hy525
      have H' := mk_ H
      clear H
      obtain ⟨_, _, _, _, _, _, _, _, _, _, _, _⟩ := hb6_ BK517
      have p521 : 0 ≤ (x4_1 : Int) := of_decide_eq_true (by first | (with_reducible assumption) | assumption)
      have q521 : x4_1 < (l0_5.length : Int) := of_decide_eq_true (by first | (with_reducible assumption) | assumption)
      obtain ⟨ad521, A521_2, c521_2, A521_5, c521_5, e521, hx521_0, hx521_1, hx521_2, hx521_3, hx521_4, hx521_5, hl521_2, hi521_2, hl521_5, hi521_5⟩ := at_T32 (Kd.V_reads' HO_518005.out).2.2 x4_1 p521 q521
      cases e521
      obtain ⟨ce521, hce521, hMe521, hcc521⟩ := Kd.V_get HO_518005.out z32 x4_1 p521 (by first | exact q521 | exact of_decide_eq_true (by first | (with_reducible assumption) | assumption) | (have e_ := (Kd.V_reads' HO_518005.out).1; omega))
      obtain ⟨ua521_2, uc521_2, ua521_5, uc521_5, rfl, ul521_2, ge521_2, ul521_5, ge521_5⟩ := k32_openF hMe521
      have hv521_2 := hcc521 2 _ rfl
      rw [add_field _ _ 2 (by omega)] at hv521_2
      replace hv521_2 := Option.some.inj (hv521_2.symm.trans hx521_2)
      injection hv521_2 with hva_ hvn_ hvc_
      rw [hva_] at ge521_2
      rw [hvc_] at ul521_2
      have HL521_2 := mk_ (show Kd.V k92 92 _ w.heap.size _ _ ((rd_T32 l0_5 x4_1).f2) from Kd.V_mk ul521_2 ge521_2)
      clear hva_ hvn_ hvc_ ge521_2 ul521_2
      have hv521_5 := hcc521 5 _ rfl
      rw [add_field _ _ 5 (by omega)] at hv521_5
      replace hv521_5 := Option.some.inj (hv521_5.symm.trans hx521_5)
      injection hv521_5 with hva_ hvn_ hvc_
      rw [hva_] at ge521_5
      rw [hvc_] at ul521_5
      have HL521_5 := mk_ (show Kd.V k32 32 _ w.heap.size _ _ ((rd_T32 l0_5 x4_1).f5) from Kd.V_mk ul521_5 ge521_5)
      clear hva_ hvn_ hvc_ ge521_5 ul521_5
      clear hcc521 hce521
      have HR521_2 := mk_ hi521_2
      have HC521_2 := mk_ hl521_2
      clear hi521_2 hl521_2
      have HR521_5 := mk_ hi521_5
      have HC521_5 := mk_ hl521_5
      clear hi521_5 hl521_5
      replace p521 := eq_true p521
      replace q521 := eq_true q521
      go_wp2_with (first | ((with_reducible refine gate_callee (f := 30) rfl ?_); refine gl_ (some 20) Tryd.func30 #[.agg #[.int .i64 ((rd_T32 l0_5 x4_1).f0), .string ((rd_T32 l0_5 x4_1).f1), .slice A521_2 ((rd_T32 l0_5 x4_1).f2).length c521_2, .int .i64 ((rd_T32 l0_5 x4_1).f3), .int .i64 ((rd_T32 l0_5 x4_1).f4), .slice A521_5 ((rd_T32 l0_5 x4_1).f5).length c521_5]] ?_; (with_reducible refine (ih k1 (by have := HK1.out; omega) ((rd_T32 l0_5 x4_1).f0) ((rd_T32 l0_5 x4_1).f1) (fun k_ => (((P0_2_ k_ ∨ P0_5_ k_) ∨ w.heap.size ≤ k_) ∧ (some k_ ≠ (u3 : Value).ownBlock ∧ k_ ≠ gb517))) _ _ ((rd_T32 l0_5 x4_1).f2) ((rd_T32 l0_5 x4_1).f3) ((rd_T32 l0_5 x4_1).f4) (fun k_ => (((P0_2_ k_ ∨ P0_5_ k_) ∨ w.heap.size ≤ k_) ∧ (some k_ ≠ (u3 : Value).ownBlock ∧ k_ ≠ gb517))) _ _ ((rd_T32 l0_5 x4_1).f5) t522 _ ?side1 ?side2 A8.out).mono ?_); (case side1 => exact HL521_2.out); (case side2 => exact HL521_5.out); rintro e w11 ⟨v523, rfl, ho0, hb⟩; refine ⟨_, rfl, ?_⟩; have HO524 := mk_ (Kd.N_lower (Kd.N_mono (ok' := fun k_ => ((P0_2_ k_ ∨ P0_5_ k_) ∨ w.heap.size ≤ k_) ∧ some k_ ≠ (u3 : Value).ownBlock ∧ k_ ≠ gb517) ho0 (fun k_ hk_ => ⟨Or.elim hk_ (fun hs_ => Or.elim hs_ (fun hs_ => hs_.1) (fun hs_ => hs_.1)) (fun hn_ => (.inr (Nat.le_trans (below_size (be1_ HB GE517)) hn_))), Or.elim hk_ (fun hs_ => Or.elim hs_ (fun hs_ => hs_.2.1) (fun hs_ => hs_.2.1)) (fun hn_ => (Kd.fresh' (Kd.N_lt (nq_ HO_3)) k_ hn_)), Or.elim hk_ (fun hs_ => Or.elim hs_ (fun hs_ => hs_.2.2) (fun hs_ => hs_.2.2)) (fun hn_ => (Kd.freshB (g := gb517) (o := .cells #[.int .i64 a0_0, .string a0_1, .slice A0_2 l0_2.length c0_2, .int .i64 a0_3, .int .i64 a0_4, .slice (some ad521) l0_5.length c0_5] 32 (0, 0)) (bq_ BK517) k_ hn_))⟩)) (below_size (be1_ HB GE517))); replace HO_3 := mk_ (Kd.N_elder' (nq_ HO_3) (Kd.N_base ho0) hb); replace HO_518002 := mk_ (Kd.V_elder' (vq_ HO_518002) (Kd.N_base ho0) hb); replace HO_518005 := mk_ (Kd.V_elder' (vq_ HO_518005) (Kd.N_base ho0) hb); replace HL521_2 := mk_ (Kd.V_elder' (vq_ HL521_2) (Kd.N_base ho0) hb); replace HL521_5 := mk_ (Kd.V_elder' (vq_ HL521_5) (Kd.N_base ho0) hb); replace BK517 := mk_ (bb_ BK517 hb); replace HR521_2 := mk_ (Kd.C_below (cq_ HR521_2) hb); replace HR521_5 := mk_ (Kd.C_below (cq_ HR521_5) hb); replace HB := mk_ (below_step (be1_ HB GE517) hb); (try clear hb); (try clear hb2); (try clear hk); (try clear hi); (try clear ho0); obtain ⟨Ao13, co13, eo13⟩ := Kd.N_slice HO524.out; subst eo13) | ((with_reducible refine gate_builtin (b := .append) (xs := #[.tmp 14, .tmp 20]) rfl ?_); at_builtin; refine Kd.N_append_rows k32 (w0 := w) w.heap.size rfl (.tmp 14) (.tmp 20) 30 32 (.agg #[(.int .i64 0), (.string ⟨#[]⟩), (.slice none 0 0), (.int .i64 0), (.int .i64 0), (.slice none 0 0)]) 88 rfl Tryd.underlying30 info32 rfl (by decide) (by omega) u3 x3_1 t522 _ _ _ (fun k_ => ((P0_2_ k_ ∨ P0_5_ k_) ∨ w.heap.size ≤ k_) ∧ k_ ≠ gb517) (fun k_ => ((fun k_ => ((P0_2_ k_ ∨ P0_5_ k_) ∨ w.heap.size ≤ k_) ∧ k_ ≠ gb517)) k_ ∧ some k_ ≠ (u3 : Value).ownBlock) rfl rfl ?aO ?aR (fun _ hk => hk) ?aF ?aB ?aS ?aL ?_; (case aR => exact (by skip; exact Kd.N_F (Kd.N_mono (ok' := (fun k_ => ((fun k_ => ((P0_2_ k_ ∨ P0_5_ k_) ∨ w.heap.size ≤ k_) ∧ k_ ≠ gb517)) k_ ∧ some k_ ≠ (u3 : Value).ownBlock)) (HO524.out) (fun k_ hk => ⟨⟨hk.1, hk.2.2⟩, hk.2.1⟩)))); (case aB => exact (be1_ HB GE517)); (case aF => exact (fun k_ hk => ⟨(.inr (Nat.le_trans (below_size (be1_ HB GE517)) hk)), Kd.freshB (g := gb517) (o := .cells #[.int .i64 a0_0, .string a0_1, .slice A0_2 l0_2.length c0_2, .int .i64 a0_3, .int .i64 a0_4, .slice (some ad521) l0_5.length c0_5] 32 (0, 0)) (bq_ BK517) k_ hk⟩)); (case aO => exact (by refine sn_ ?_; exact Kd.N_mono HO_3.out (fun _ hk => ⟨hk.1.1, hk.1.2⟩))); (case aS => exact (below_size (be1_ HB GE517))); (case aL => have := LMc9.out; omega); intro v526 w12 ho hb hg hat; rw [← Ny525.out] at ho; have n0_ := mk_ (Kd.V_afterv (ok := (fun k_ => ((P0_2_ k_ ∨ P0_5_ k_) ∨ w.heap.size ≤ k_) ∧ some k_ ≠ (.slice Ao13 t522.length co13 : Value).ownBlock ∧ k_ ≠ gb517)) (by refine sv_ ?_; exact Kd.V_mono HO_518002.out (fun _ hk => ⟨⟨hk.1.1, ⟨hk.2, hk.1.2.2⟩⟩, hk.1.2.1⟩)) hg hat); have n1_ := mk_ (Kd.V_afterv (ok := (fun k_ => ((P0_2_ k_ ∨ P0_5_ k_) ∨ w.heap.size ≤ k_) ∧ some k_ ≠ (.slice Ao13 t522.length co13 : Value).ownBlock ∧ k_ ≠ gb517)) (by refine sv_ ?_; exact Kd.V_mono HO_518005.out (fun _ hk => ⟨⟨hk.1.1, ⟨hk.2, hk.1.2.2⟩⟩, hk.1.2.1⟩)) hg hat); have n2_ := mk_ (blk_grown (g := gb517) (o := .cells #[.int .i64 a0_0, .string a0_1, .slice A0_2 l0_2.length c0_2, .int .i64 a0_3, .int .i64 a0_4, .slice (some ad521) l0_5.length c0_5] 32 (0, 0)) (bq_ BK517) hg (Kd.N_away HO_3.out (fun _ hk => hk.1.2))); have n3_ := mk_ (Kd.V_afterv (ok := (fun k_ => ((P0_2_ k_ ∨ P0_5_ k_) ∨ w.heap.size ≤ k_) ∧ some k_ ≠ (.slice Ao13 t522.length co13 : Value).ownBlock ∧ k_ ≠ gb517)) (by refine sv_ ?_; exact Kd.V_mono HL521_2.out (fun _ hk => ⟨⟨hk.1.1, ⟨hk.2, hk.1.2.2⟩⟩, hk.1.2.1⟩)) hg hat); have n4_ := mk_ (Kd.V_afterv (ok := (fun k_ => ((P0_2_ k_ ∨ P0_5_ k_) ∨ w.heap.size ≤ k_) ∧ some k_ ≠ (.slice Ao13 t522.length co13 : Value).ownBlock ∧ k_ ≠ gb517)) (by refine sv_ ?_; exact Kd.V_mono HL521_5.out (fun _ hk => ⟨⟨hk.1.1, ⟨hk.2, hk.1.2.2⟩⟩, hk.1.2.1⟩)) hg hat); have n5_ := mk_ (Kd.N_afterv (ok := (fun k_ => ((P0_2_ k_ ∨ P0_5_ k_) ∨ w.heap.size ≤ k_) ∧ k_ ≠ gb517)) (by refine sn_ ?_; exact Kd.N_mono HO524.out (fun _ hk => ⟨⟨hk.1, hk.2.2⟩, hk.2.1⟩)) hg hat); have n6_ := mk_ (hb); have n7_ := mk_ (ho); clear HO_518002; clear HO_518005; clear BK517; clear HL521_2; clear HL521_5; clear HO524; clear HB; clear HO_3; have HO_518002 := n0_; have HO_518005 := n1_; have BK517 := n2_; have HL521_2 := n3_; have HL521_5 := n4_; have HO524 := n5_; have HB := n6_; have HO527 := n7_; clear n0_ n1_ n2_ n3_ n4_ n5_ n6_ n7_; clear ho hb hg hat))
      go_roundg k1
      case measure => have := HK1.out; omega
      case rel => exact ⟨(y525), (wrap64 (x4_1 + 1)), fi_, H', ⟨by have := HK1.out; omega⟩, ⟨nq_ HO527⟩, ⟨by refine sv_ ?_; exact Kd.V_mono HO_518002.out (fun _ hk => ⟨hk.1.1, ⟨hk.2, hk.1.2.2⟩⟩)⟩, ⟨by refine sv_ ?_; exact Kd.V_mono HO_518005.out (fun _ hk => ⟨hk.1.1, ⟨hk.2, hk.1.2.2⟩⟩)⟩, ⟨bq_ BK517⟩, ⟨be1_ HB GE517⟩⟩
     ·rw [if_neg c9] at H
      exact absurd H (by simp)
    ·rw [if_neg c7] at H
     exact absurd H (by simp)
   ·rw [if_neg c6] at H
    have c6b0 : decide (x4_1 < (l0_5.length : Int)) = false := decide_eq_false c6
    clear c6
    obtain rfl := Option.some.inj H
    obtain ⟨_, _, _, _, _, _, _, _, _, _, _, _⟩ := hb6_ BK517
    go_wp2
    go_ret
    exact ⟨_, er_, by refine sn_ ?_; exact Kd.N_mono HO_3.out (fun _ hk => hk.1), be1_ HB GE517⟩

-- NOT PRINTED: function 10 (pentaglotlaw26_EvaluateIgnores)

def evaluate_Which.l0 : Nat → List Bool → List (S32) → Int → Int → List (S73) → List Int → Int → List (S62) → Option (List Bool × Int)
 | 0, _, _, _, _, _, _, _, _ => none
 | k + 1, x6, x11, x12, x13, x545000, x545001, x545002, x545003 => if x13 < x12 then (if 0 ≤ x13 then (if x13 < (x11.length : Int) then ((evaluate_True.f k x545000 x545001 x545002 x545003 ((rd_T32 x11 x13).f0) ((rd_T32 x11 x13).f1) ((rd_T32 x11 x13).f2) ((rd_T32 x11 x13).f3) ((rd_T32 x11 x13).f4) ((rd_T32 x11 x13).f5)).bind fun bt547 => (if bt547.2 = 0 then (if x6.length < 140737488355328 then (evaluate_Which.l0 k (x6 ++ [bt547.1]) x11 x12 (wrap64 (x13 + 1)) x545000 x545001 x545002 x545003) else (none)) else (some (([] : List Bool), bt547.2)))) else (none)) else (none)) else (some (x6, 0))
def evaluate_Which.f (k : Nat) (l0_0 : List (S73)) (l0_1 : List Int) (a0_2 : Int) (l0_3 : List (S62)) (l1 : List (S32)) : Option (List Bool × Int) := evaluate_Which.l0 k ([] : List Bool) l1 (l1.length : Int) 0 l0_0 l0_1 a0_2 l0_3
theorem evaluate_Which.calls (k : Nat) (A0_0 : Option Addr) (c0_0 : Nat) (l0_0 : List (S73)) (A0_1 : Option Addr) (c0_1 : Nat) (l0_1 : List Int) (a0_2 : Int) (A0_3 : Option Addr) (c0_3 : Nat) (l0_3 : List (S62)) (A1 : Option Addr) (c1 : Nat) (l1 : List (S32)) (r1 : List Bool) (r2 : Int) (w : World) (hr0_0 : Kd.C k73 w A0_0 l0_0.length l0_0) (hc0_0 : l0_0.length ≤ c0_0) (hr0_1 : Kd.C (Kd.int .i64) w A0_1 l0_1.length l0_1) (hc0_1 : l0_1.length ≤ c0_1) (hr0_3 : Kd.C k62 w A0_3 l0_3.length l0_3) (hc0_3 : l0_3.length ≤ c0_3) (hr1 : Kd.C k32 w A1 l1.length l1) (hc1 : l1.length ≤ c1) (h : evaluate_Which.f k l0_0 l0_1 a0_2 l0_3 l1 = some (r1, r2)) (htb : Tb w) :
  Calls Tryd.prog 32 #[.agg #[.slice A0_0 l0_0.length c0_0, .slice A0_1 l0_1.length c0_1, .int .i64 a0_2, .slice A0_3 l0_3.length c0_3], .slice A1 l1.length c1] w fun e w' => ∃ v0_ : Value, e = .returned (.tuple #[v0_, .int .i64 r2]) ∧ Kd.R Kd.bool 4 w' w.heap.size (fun _ => True) v0_ r1 ∧ Below w.heap.size w w' := by
 have HTB := mk_ htb
 clear htb
 have hu28 := Tryd.underlying28
 have hu32 := Tryd.underlying32
 have HR0_0 := mk_ hr0_0
 have HC0_0 := mk_ hc0_0
 clear hr0_0 hc0_0
 have HR0_1 := mk_ hr0_1
 have HC0_1 := mk_ hc0_1
 clear hr0_1 hc0_1
 have HR0_3 := mk_ hr0_3
 have HC0_3 := mk_ hc0_3
 clear hr0_3 hc0_3
 have HR1 := mk_ hr1
 have HC1 := mk_ hc1
 clear hr1 hc1
 have HB := mk_ (Below.refl w.heap.size w)
 have H : (evaluate_Which.l0 k ([] : List Bool) l1 (l1.length : Int) 0 l0_0 l0_1 a0_2 l0_3) = some (r1, r2) := h
 clear h
 have H' := mk_ H
 clear H
 go_enter Tryd.func32, Tryd.ntmps32
 go_wp2_with (first | ((with_reducible refine gate_dst (N := 2) rfl ?_); refine bx_ 2 #[.slice A0_0 l0_0.length c0_0, .slice A0_1 l0_1.length c0_1, .int .i64 a0_2, .slice A0_3 l0_3.length c0_3] 28 ?_; intro gb544 hg w3 hbox hb; have BK544 := mk_ (hbox); have GW544 := mk_ (gs_ hg (be_ HB)); have GE544 := mk_ (gs_ hg (be_ HB)); replace HB := mk_ (below_step (be_ HB) hb); clear hb hbox hg))
 go_loopg [6, 13] k (fun kq v6 v13 w' => ∃ (x6_1 : List Bool) (x13_1 : Int), v13 = .int .i64 x13_1 ∧ Aside0 (evaluate_Which.l0 kq x6_1 l1 (l1.length : Int) x13_1 l0_0 l0_1 a0_2 l0_3 = some (r1, r2)) ∧ Aside0 (kq ≤ k) ∧ Aside0 (Kd.R Kd.bool 4 w' w.heap.size (fun _ => True) v6 x6_1) ∧ Aside0 (w'.heap[gb544]? = some (.cells #[(.slice A0_0 l0_0.length c0_0), (.slice A0_1 l0_1.length c0_1), .int .i64 a0_2, (.slice A0_3 l0_3.length c0_3)] 28 (0, 0))) ∧ Aside0 (Below w.heap.size w w'))
 case atStart => exact ⟨(([] : List Bool)), (0), fi_, H', ⟨Nat.le_refl _⟩, ⟨by first | exact Kd.R_nil _ _ _ _ _ | exact Kd.N_nil _ _ _ _ _ | exact Kd.V_nil _ _ _ _ _ | exact Kd.Q_nil _ _ _ _ _ | exact Kd.S_nil _ _ _ _ _⟩, ⟨bq_ BK544⟩, ⟨be1_ HB GE544⟩⟩
 case round =>
  clear H'
  obtain ⟨x6_1, x13_1, rfl, HA, HK1, HO_6, BK544, HB⟩ := hrel
  cases gk with
  | zero => exact absurd HA.out (by simp [evaluate_Which.l0])
  | succ k1 =>
   have H := HA.out
   clear HA
   simp only [evaluate_Which.l0] at H
   by_cases c4 : x13_1 < (l1.length : Int)
   ·rw [if_pos c4] at H
    have c4b0 : decide (x13_1 < (l1.length : Int)) = true := decide_eq_true c4
    clear c4
    by_cases c5 : 0 ≤ x13_1
    ·rw [if_pos c5] at H
     have c5b0 : decide (0 ≤ x13_1) = true := decide_eq_true c5
     clear c5
     by_cases c6 : x13_1 < (l1.length : Int)
     ·rw [if_pos c6] at H
      have c6b0 : decide (x13_1 < (l1.length : Int)) = true := decide_eq_true c6
      clear c6
      replace H := Option.bind_eq_some_iff.mp H
      obtain ⟨⟨t547, t548⟩, A70, H⟩ := H
      replace H : (if t548 = 0 then (if x6_1.length < 140737488355328 then (evaluate_Which.l0 k1 (x6_1 ++ [t547]) l1 (l1.length : Int) (wrap64 (x13_1 + 1)) l0_0 l0_1 a0_2 l0_3) else (none)) else (some (([] : List Bool), t548))) = some (r1, r2) := H
      have A7 := mk_ A70
      clear A70
      by_cases c8 : t548 = 0
      ·rw [if_pos c8] at H
       obtain ⟨c8b0, c8b1⟩ := eb_ c8
       clear c8
       by_cases c9 : x6_1.length < 140737488355328
       ·rw [if_pos c9] at H
        have LMc9 := mk_ c9
        clear c9
        obtain ⟨y549, hy549⟩ : ∃ y_ : List Bool, y_ = (x6_1 ++ [t547]) := ⟨_, rfl⟩
        replace H : (evaluate_Which.l0 k1 y549 l1 (l1.length : Int) (wrap64 (x13_1 + 1)) l0_0 l0_1 a0_2 l0_3) = some (r1, r2) := by first | (rw [hy549]; with_reducible exact H) | (have H2_ := (Option.bind_some _ _).symm.trans H; rw [hy549]; with_reducible exact H2_) | (have H2_ := (Option.bind_some _ _).symm.trans H; with_reducible exact H2_) | with_reducible exact H | (rw [hy549]; exact H) | exact H
        have Ny549 := mk_ hy549
        clear hy549
        have H' := mk_ H
        clear H
        have p545 : 0 ≤ (x13_1 : Int) := of_decide_eq_true (by first | (with_reducible assumption) | assumption)
        have q545 : x13_1 < (l1.length : Int) := of_decide_eq_true (by first | (with_reducible assumption) | assumption)
        obtain ⟨ad545, A545_2, c545_2, A545_5, c545_5, e545, hx545_0, hx545_1, hx545_2, hx545_3, hx545_4, hx545_5, hl545_2, hi545_2, hl545_5, hi545_5⟩ := at_T32 HR1.out x13_1 p545 q545
        cases e545
        replace hx545_0 := cb_ HB hx545_0
        replace hx545_1 := cb_ HB hx545_1
        replace hx545_2 := cb_ HB hx545_2
        replace hx545_3 := cb_ HB hx545_3
        replace hx545_4 := cb_ HB hx545_4
        replace hx545_5 := cb_ HB hx545_5
        have HR545_2 := mk_ hi545_2
        have HC545_2 := mk_ hl545_2
        clear hi545_2 hl545_2
        have HR545_5 := mk_ hi545_5
        have HC545_5 := mk_ hl545_5
        clear hi545_5 hl545_5
        replace p545 := eq_true p545
        replace q545 := eq_true q545
        go_wp2_with (first | ((with_reducible refine gate_dst (N := 8) rfl ?_); refine bx_ 8 #[.int .i64 0, .string (⟨#[]⟩ : ByteArray), .slice none 0 0, .int .i64 0, .int .i64 0, .slice none 0 0] 32 ?_; intro gb546 hg w10 hbox hb; have n0_ := mk_ (Kd.R_below (rq_ HO_6) hb); have n1_ := mk_ (bb_ BK544 hb); have n2_ := mk_ (below_step (be1_ HB GE544) hb); have n3_ := mk_ (hbox); have n4_ := mk_ (gs_ hg (be1_ HB GE544)); have n5_ := mk_ (gs_ hg (be1_ HB GE544)); have n6_ := mk_ ((by rw [hg]; exact Nat.ne_of_lt (blk_lt (g := gb544) (o := .cells #[.slice A0_0 l0_0.length c0_0, .slice A0_1 l0_1.length c0_1, .int .i64 a0_2, .slice A0_3 l0_3.length c0_3] 28 (0, 0)) (bq_ BK544)) : gb544 ≠ gb546)); have n7_ := mk_ ((by rw [hg]; exact Nat.ne_of_gt (blk_lt (g := gb544) (o := .cells #[.slice A0_0 l0_0.length c0_0, .slice A0_1 l0_1.length c0_1, .int .i64 a0_2, .slice A0_3 l0_3.length c0_3] 28 (0, 0)) (bq_ BK544)) : gb546 ≠ gb544)); clear HO_6; clear BK544; clear HB; have HO_6 := n0_; have BK544 := n1_; have HB := n2_; have BK546 := n3_; have GW546 := n4_; have GE546 := n5_; have NB544_546 := n6_; have NB546_544 := n7_; clear n0_ n1_ n2_ n3_ n4_ n5_ n6_ n7_; clear hb hbox hg; have hnb11 := NB546_544.out; have hnc11 := NB544_546.out; obtain ⟨_, _, _, _, _, _, _, _, _, _, _, _⟩ := hb6_ BK546; obtain ⟨_, _, _, _, _, _, _, _⟩ := hb4_ BK544) | ((with_reducible refine gate_callee (f := 18) rfl ?_); refine gl_ (some 20) Tryd.func18 #[.agg #[.slice A0_0 l0_0.length c0_0, .slice A0_1 l0_1.length c0_1, .int .i64 a0_2, .slice A0_3 l0_3.length c0_3], .agg #[.int .i64 ((rd_T32 l1 x13_1).f0), .string ((rd_T32 l1 x13_1).f1), .slice A545_2 ((rd_T32 l1 x13_1).f2).length c545_2, .int .i64 ((rd_T32 l1 x13_1).f3), .int .i64 ((rd_T32 l1 x13_1).f4), .slice A545_5 ((rd_T32 l1 x13_1).f5).length c545_5]] ?_; (with_reducible refine (evaluate_True.calls k1 _ _ l0_0 _ _ l0_1 a0_2 _ _ l0_3 ((rd_T32 l1 x13_1).f0) ((rd_T32 l1 x13_1).f1) _ _ ((rd_T32 l1 x13_1).f2) ((rd_T32 l1 x13_1).f3) ((rd_T32 l1 x13_1).f4) _ _ ((rd_T32 l1 x13_1).f5) t547 t548 _ ?side1 ?side2 ?side3 ?side4 ?side5 ?side6 ?side7 ?side8 ?side9 ?side10 A7.out (tb_on HTB.out (be2_ HB GE544 GE546))).mono ?_); (case side1 => exact Kd.C_below HR0_0.out (be2_ HB GE544 GE546)); (case side2 => exact HC0_0.out); (case side3 => exact Kd.C_below HR0_1.out (be2_ HB GE544 GE546)); (case side4 => exact HC0_1.out); (case side5 => exact Kd.C_below HR0_3.out (be2_ HB GE544 GE546)); (case side6 => exact HC0_3.out); (case side7 => exact Kd.C_below HR545_2.out (be2_ HB GE544 GE546)); (case side8 => exact HC545_2.out); (case side9 => exact Kd.C_below HR545_5.out (be2_ HB GE544 GE546)); (case side10 => exact HC545_5.out); rintro e w14 ⟨rfl, hb⟩; refine ⟨_, rfl, ?_⟩; have n0_ := mk_ (Kd.R_below (by refine sr_ ?_; exact (Kd.R_mono (Kd.R_far (p := ⟨gb546, 5, none⟩) (Kd.R_far (p := ⟨gb546, 4, none⟩) (Kd.R_far (p := ⟨gb546, 3, none⟩) (Kd.R_far (p := ⟨gb546, 2, none⟩) (Kd.R_far (p := ⟨gb546, 1, none⟩) (Kd.R_far (p := ⟨gb546, 0, none⟩) (Kd.R_types HO_6.out BK546.out (by decide)) (fun _ hk => hk.2) (.int .i64 ((rd_T32 l1 x13_1).f0))) (fun _ hk => hk.2) (.string ((rd_T32 l1 x13_1).f1))) (fun _ hk => hk.2) (.slice A545_2 ((rd_T32 l1 x13_1).f2).length c545_2)) (fun _ hk => hk.2) (.int .i64 ((rd_T32 l1 x13_1).f3))) (fun _ hk => hk.2) (.int .i64 ((rd_T32 l1 x13_1).f4))) (fun _ hk => hk.2) (.slice A545_5 ((rd_T32 l1 x13_1).f5).length c545_5)) (fun _ h_ => h_.1))) hb); have n1_ := mk_ (blk_below (g := gb544) (o := .cells #[.slice A0_0 l0_0.length c0_0, .slice A0_1 l0_1.length c0_1, .int .i64 a0_2, .slice A0_3 l0_3.length c0_3] 28 (0, 0)) (by refine sb_ ?_; refine blk_far ?_ NB544_546.out _; refine sb_ ?_; refine blk_far ?_ NB544_546.out _; refine sb_ ?_; refine blk_far ?_ NB544_546.out _; refine sb_ ?_; refine blk_far ?_ NB544_546.out _; refine sb_ ?_; refine blk_far ?_ NB544_546.out _; refine sb_ ?_; refine blk_far ?_ NB544_546.out _; refine sb_ ?_; exact BK544.out) hb); have n2_ := mk_ (blk_below (g := gb546) (o := .cells #[.int .i64 ((rd_T32 l1 x13_1).f0), .string ((rd_T32 l1 x13_1).f1), .slice A545_2 ((rd_T32 l1 x13_1).f2).length c545_2, .int .i64 ((rd_T32 l1 x13_1).f3), .int .i64 ((rd_T32 l1 x13_1).f4), .slice A545_5 ((rd_T32 l1 x13_1).f5).length c545_5] 32 (0, 0)) (by refine sb_ ?_; refine blk_put (cs := #[.int .i64 ((rd_T32 l1 x13_1).f0), .string ((rd_T32 l1 x13_1).f1), .slice A545_2 ((rd_T32 l1 x13_1).f2).length c545_2, .int .i64 ((rd_T32 l1 x13_1).f3), .int .i64 ((rd_T32 l1 x13_1).f4), .slice none 0 0]) ?_ 5 _ rfl; refine sb_ ?_; refine blk_put (cs := #[.int .i64 ((rd_T32 l1 x13_1).f0), .string ((rd_T32 l1 x13_1).f1), .slice A545_2 ((rd_T32 l1 x13_1).f2).length c545_2, .int .i64 ((rd_T32 l1 x13_1).f3), .int .i64 0, .slice none 0 0]) ?_ 4 _ rfl; refine sb_ ?_; refine blk_put (cs := #[.int .i64 ((rd_T32 l1 x13_1).f0), .string ((rd_T32 l1 x13_1).f1), .slice A545_2 ((rd_T32 l1 x13_1).f2).length c545_2, .int .i64 0, .int .i64 0, .slice none 0 0]) ?_ 3 _ rfl; refine sb_ ?_; refine blk_put (cs := #[.int .i64 ((rd_T32 l1 x13_1).f0), .string ((rd_T32 l1 x13_1).f1), .slice none 0 0, .int .i64 0, .int .i64 0, .slice none 0 0]) ?_ 2 _ rfl; refine sb_ ?_; refine blk_put (cs := #[.int .i64 ((rd_T32 l1 x13_1).f0), .string (⟨#[]⟩ : ByteArray), .slice none 0 0, .int .i64 0, .int .i64 0, .slice none 0 0]) ?_ 1 _ rfl; refine sb_ ?_; refine blk_put (cs := #[.int .i64 0, .string (⟨#[]⟩ : ByteArray), .slice none 0 0, .int .i64 0, .int .i64 0, .slice none 0 0]) ?_ 0 _ rfl; refine sb_ ?_; exact BK546.out) hb); have n3_ := mk_ (below_step (be2_ HB GE544 GE546) hb); clear HO_6; clear BK544; clear BK546; clear HB; have HO_6 := n0_; have BK544 := n1_; have BK546 := n2_; have HB := n3_; clear n0_ n1_ n2_ n3_; (try clear hb); (try clear hb2); (try clear hk); (try clear hi)) | ((with_reducible refine gate_builtin (b := .append) (xs := #[.tmp 26, .tmp 28]) rfl ?_); at_builtin; refine Kd.R_append Kd.bool (w0 := w) w.heap.size rfl (.tmp 26) (.tmp 28) 65 4 (.bool false) 1 rfl Tryd.underlying65 info4 rfl (by decide) (by omega) u6 x6_1 t547 [.bool t547] (fun _ => True) (fun _ => False) rfl rfl ?aP (fun _ hk => hk.elim) ?aF ?aO ?aB ?aS ?aL ?_; (case aP => exact rfl); (case aB => exact (be2_ HB GE544 GE546)); (case aF => exact (fun _ _ => trivial)); (case aO => exact (rq_ HO_6)); (case aS => exact (below_size (be2_ HB GE544 GE546))); (case aL => have := LMc9.out; omega); intro v550 w15 ho hb hg hat; rw [← Ny549.out] at ho; have HO551 := mk_ (ho); replace BK544 := mk_ (blk_grown (g := gb544) (o := .cells #[.slice A0_0 l0_0.length c0_0, .slice A0_1 l0_1.length c0_1, .int .i64 a0_2, .slice A0_3 l0_3.length c0_3] 28 (0, 0)) (bq_ BK544) hg (Kd.R_ne HO_6.out BK544.out (by decide))); replace BK546 := mk_ (blk_grown (g := gb546) (o := .cells #[.int .i64 ((rd_T32 l1 x13_1).f0), .string ((rd_T32 l1 x13_1).f1), .slice A545_2 ((rd_T32 l1 x13_1).f2).length c545_2, .int .i64 ((rd_T32 l1 x13_1).f3), .int .i64 ((rd_T32 l1 x13_1).f4), .slice A545_5 ((rd_T32 l1 x13_1).f5).length c545_5] 32 (0, 0)) (bq_ BK546) hg (Kd.R_ne HO_6.out BK546.out (by decide))); replace HB := mk_ (hb); clear HO_6; clear ho hb hg hat))
        go_roundg k1
        case measure => have := HK1.out; omega
        case rel => exact ⟨(y549), (wrap64 (x13_1 + 1)), fi_, H', ⟨by have := HK1.out; omega⟩, ⟨rq_ HO551⟩, ⟨bq_ BK544⟩, ⟨be2_ HB GE544 GE546⟩⟩
       ·rw [if_neg c9] at H
        exact absurd H (by simp)
      ·rw [if_neg c8] at H
       obtain ⟨c8b0, c8b1⟩ := en_ c8
       simp only [Option.some.injEq, Prod.mk.injEq] at H
       obtain ⟨rfl, rfl⟩ := H
       have p545 : 0 ≤ (x13_1 : Int) := of_decide_eq_true (by first | (with_reducible assumption) | assumption)
       have q545 : x13_1 < (l1.length : Int) := of_decide_eq_true (by first | (with_reducible assumption) | assumption)
       obtain ⟨ad545, A545_2, c545_2, A545_5, c545_5, e545, hx545_0, hx545_1, hx545_2, hx545_3, hx545_4, hx545_5, hl545_2, hi545_2, hl545_5, hi545_5⟩ := at_T32 HR1.out x13_1 p545 q545
       cases e545
       replace hx545_0 := cb_ HB hx545_0
       replace hx545_1 := cb_ HB hx545_1
       replace hx545_2 := cb_ HB hx545_2
       replace hx545_3 := cb_ HB hx545_3
       replace hx545_4 := cb_ HB hx545_4
       replace hx545_5 := cb_ HB hx545_5
       have HR545_2 := mk_ hi545_2
       have HC545_2 := mk_ hl545_2
       clear hi545_2 hl545_2
       have HR545_5 := mk_ hi545_5
       have HC545_5 := mk_ hl545_5
       clear hi545_5 hl545_5
       replace p545 := eq_true p545
       replace q545 := eq_true q545
       go_wp2_with (first | ((with_reducible refine gate_dst (N := 8) rfl ?_); refine bx_ 8 #[.int .i64 0, .string (⟨#[]⟩ : ByteArray), .slice none 0 0, .int .i64 0, .int .i64 0, .slice none 0 0] 32 ?_; intro gb546 hg w16 hbox hb; have n0_ := mk_ (Kd.R_below (rq_ HO_6) hb); have n1_ := mk_ (bb_ BK544 hb); have n2_ := mk_ (below_step (be1_ HB GE544) hb); have n3_ := mk_ (hbox); have n4_ := mk_ (gs_ hg (be1_ HB GE544)); have n5_ := mk_ (gs_ hg (be1_ HB GE544)); have n6_ := mk_ ((by rw [hg]; exact Nat.ne_of_lt (blk_lt (g := gb544) (o := .cells #[.slice A0_0 l0_0.length c0_0, .slice A0_1 l0_1.length c0_1, .int .i64 a0_2, .slice A0_3 l0_3.length c0_3] 28 (0, 0)) (bq_ BK544)) : gb544 ≠ gb546)); have n7_ := mk_ ((by rw [hg]; exact Nat.ne_of_gt (blk_lt (g := gb544) (o := .cells #[.slice A0_0 l0_0.length c0_0, .slice A0_1 l0_1.length c0_1, .int .i64 a0_2, .slice A0_3 l0_3.length c0_3] 28 (0, 0)) (bq_ BK544)) : gb546 ≠ gb544)); clear HO_6; clear BK544; clear HB; have HO_6 := n0_; have BK544 := n1_; have HB := n2_; have BK546 := n3_; have GW546 := n4_; have GE546 := n5_; have NB544_546 := n6_; have NB546_544 := n7_; clear n0_ n1_ n2_ n3_ n4_ n5_ n6_ n7_; clear hb hbox hg; have hnb17 := NB546_544.out; have hnc17 := NB544_546.out; obtain ⟨_, _, _, _, _, _, _, _, _, _, _, _⟩ := hb6_ BK546; obtain ⟨_, _, _, _, _, _, _, _⟩ := hb4_ BK544) | ((with_reducible refine gate_callee (f := 18) rfl ?_); refine gl_ (some 20) Tryd.func18 #[.agg #[.slice A0_0 l0_0.length c0_0, .slice A0_1 l0_1.length c0_1, .int .i64 a0_2, .slice A0_3 l0_3.length c0_3], .agg #[.int .i64 ((rd_T32 l1 x13_1).f0), .string ((rd_T32 l1 x13_1).f1), .slice A545_2 ((rd_T32 l1 x13_1).f2).length c545_2, .int .i64 ((rd_T32 l1 x13_1).f3), .int .i64 ((rd_T32 l1 x13_1).f4), .slice A545_5 ((rd_T32 l1 x13_1).f5).length c545_5]] ?_; (with_reducible refine (evaluate_True.calls k1 _ _ l0_0 _ _ l0_1 a0_2 _ _ l0_3 ((rd_T32 l1 x13_1).f0) ((rd_T32 l1 x13_1).f1) _ _ ((rd_T32 l1 x13_1).f2) ((rd_T32 l1 x13_1).f3) ((rd_T32 l1 x13_1).f4) _ _ ((rd_T32 l1 x13_1).f5) t547 t548 _ ?side1 ?side2 ?side3 ?side4 ?side5 ?side6 ?side7 ?side8 ?side9 ?side10 A7.out (tb_on HTB.out (be2_ HB GE544 GE546))).mono ?_); (case side1 => exact Kd.C_below HR0_0.out (be2_ HB GE544 GE546)); (case side2 => exact HC0_0.out); (case side3 => exact Kd.C_below HR0_1.out (be2_ HB GE544 GE546)); (case side4 => exact HC0_1.out); (case side5 => exact Kd.C_below HR0_3.out (be2_ HB GE544 GE546)); (case side6 => exact HC0_3.out); (case side7 => exact Kd.C_below HR545_2.out (be2_ HB GE544 GE546)); (case side8 => exact HC545_2.out); (case side9 => exact Kd.C_below HR545_5.out (be2_ HB GE544 GE546)); (case side10 => exact HC545_5.out); rintro e w20 ⟨rfl, hb⟩; refine ⟨_, rfl, ?_⟩; have n0_ := mk_ (Kd.R_below (by refine sr_ ?_; exact (Kd.R_mono (Kd.R_far (p := ⟨gb546, 5, none⟩) (Kd.R_far (p := ⟨gb546, 4, none⟩) (Kd.R_far (p := ⟨gb546, 3, none⟩) (Kd.R_far (p := ⟨gb546, 2, none⟩) (Kd.R_far (p := ⟨gb546, 1, none⟩) (Kd.R_far (p := ⟨gb546, 0, none⟩) (Kd.R_types HO_6.out BK546.out (by decide)) (fun _ hk => hk.2) (.int .i64 ((rd_T32 l1 x13_1).f0))) (fun _ hk => hk.2) (.string ((rd_T32 l1 x13_1).f1))) (fun _ hk => hk.2) (.slice A545_2 ((rd_T32 l1 x13_1).f2).length c545_2)) (fun _ hk => hk.2) (.int .i64 ((rd_T32 l1 x13_1).f3))) (fun _ hk => hk.2) (.int .i64 ((rd_T32 l1 x13_1).f4))) (fun _ hk => hk.2) (.slice A545_5 ((rd_T32 l1 x13_1).f5).length c545_5)) (fun _ h_ => h_.1))) hb); have n1_ := mk_ (blk_below (g := gb544) (o := .cells #[.slice A0_0 l0_0.length c0_0, .slice A0_1 l0_1.length c0_1, .int .i64 a0_2, .slice A0_3 l0_3.length c0_3] 28 (0, 0)) (by refine sb_ ?_; refine blk_far ?_ NB544_546.out _; refine sb_ ?_; refine blk_far ?_ NB544_546.out _; refine sb_ ?_; refine blk_far ?_ NB544_546.out _; refine sb_ ?_; refine blk_far ?_ NB544_546.out _; refine sb_ ?_; refine blk_far ?_ NB544_546.out _; refine sb_ ?_; refine blk_far ?_ NB544_546.out _; refine sb_ ?_; exact BK544.out) hb); have n2_ := mk_ (blk_below (g := gb546) (o := .cells #[.int .i64 ((rd_T32 l1 x13_1).f0), .string ((rd_T32 l1 x13_1).f1), .slice A545_2 ((rd_T32 l1 x13_1).f2).length c545_2, .int .i64 ((rd_T32 l1 x13_1).f3), .int .i64 ((rd_T32 l1 x13_1).f4), .slice A545_5 ((rd_T32 l1 x13_1).f5).length c545_5] 32 (0, 0)) (by refine sb_ ?_; refine blk_put (cs := #[.int .i64 ((rd_T32 l1 x13_1).f0), .string ((rd_T32 l1 x13_1).f1), .slice A545_2 ((rd_T32 l1 x13_1).f2).length c545_2, .int .i64 ((rd_T32 l1 x13_1).f3), .int .i64 ((rd_T32 l1 x13_1).f4), .slice none 0 0]) ?_ 5 _ rfl; refine sb_ ?_; refine blk_put (cs := #[.int .i64 ((rd_T32 l1 x13_1).f0), .string ((rd_T32 l1 x13_1).f1), .slice A545_2 ((rd_T32 l1 x13_1).f2).length c545_2, .int .i64 ((rd_T32 l1 x13_1).f3), .int .i64 0, .slice none 0 0]) ?_ 4 _ rfl; refine sb_ ?_; refine blk_put (cs := #[.int .i64 ((rd_T32 l1 x13_1).f0), .string ((rd_T32 l1 x13_1).f1), .slice A545_2 ((rd_T32 l1 x13_1).f2).length c545_2, .int .i64 0, .int .i64 0, .slice none 0 0]) ?_ 3 _ rfl; refine sb_ ?_; refine blk_put (cs := #[.int .i64 ((rd_T32 l1 x13_1).f0), .string ((rd_T32 l1 x13_1).f1), .slice none 0 0, .int .i64 0, .int .i64 0, .slice none 0 0]) ?_ 2 _ rfl; refine sb_ ?_; refine blk_put (cs := #[.int .i64 ((rd_T32 l1 x13_1).f0), .string (⟨#[]⟩ : ByteArray), .slice none 0 0, .int .i64 0, .int .i64 0, .slice none 0 0]) ?_ 1 _ rfl; refine sb_ ?_; refine blk_put (cs := #[.int .i64 0, .string (⟨#[]⟩ : ByteArray), .slice none 0 0, .int .i64 0, .int .i64 0, .slice none 0 0]) ?_ 0 _ rfl; refine sb_ ?_; exact BK546.out) hb); have n3_ := mk_ (below_step (be2_ HB GE544 GE546) hb); clear HO_6; clear BK544; clear BK546; clear HB; have HO_6 := n0_; have BK544 := n1_; have BK546 := n2_; have HB := n3_; clear n0_ n1_ n2_ n3_; (try clear hb); (try clear hb2); (try clear hk); (try clear hi)))
       go_ret2
       exact ⟨_, er_, by first | exact Kd.R_nil _ _ _ _ _ | exact Kd.N_nil _ _ _ _ _ | exact Kd.V_nil _ _ _ _ _ | exact Kd.Q_nil _ _ _ _ _ | exact Kd.S_nil _ _ _ _ _, be2_ HB GE544 GE546⟩
     ·rw [if_neg c6] at H
      exact absurd H (by simp)
    ·rw [if_neg c5] at H
     exact absurd H (by simp)
   ·rw [if_neg c4] at H
    have c4b0 : decide (x13_1 < (l1.length : Int)) = false := decide_eq_false c4
    clear c4
    simp only [Option.some.injEq, Prod.mk.injEq] at H
    obtain ⟨rfl, rfl⟩ := H
    go_wp2
    go_ret2
    exact ⟨_, er_, by refine sr_ ?_; exact HO_6.out, be1_ HB GE544⟩

end Go.Proofs.YtolpckflofjfhaaDoor.P
